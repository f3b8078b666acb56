/- The walks of the functions of F14p, printed by our own program (kwgen.py) out of our descriptions (base.py). -/
import Derived.Test.YtecfgjdpghddgaaGreatF14s
import Derived.Test.YtecfgjdpghddgaaGreatM14p
import Derived.Test.YtecfgjdpghddgaaGreatTab
set_option linter.unusedVariables false
set_option linter.unusedSimpArgs false
set_option linter.unusedSectionVars false
namespace Go.Proofs.YtecfgjdpghddgaaGreat
open Go.RowKit Go.Kw
set_option maxRecDepth 100000
theorem rmerge_ok (v u : Value) (a b : List RI) (w : World) (hv : RdL w v encRI a) (hu : RdL w u encRI b) (hn : a.length ≤ 4096) (hm : b.length ≤ 4096) :
    CallsV Tryz.prog 119 [v, u] w fun r w' => Sat w [cL r 174 encRI (mrgR a b)] w' := by
  have hs0 := Sat.start w
  refine callsV_of Tryz.func119 rfl rfl ?_
  refine .seq <| .region <| .s rfl rfl <| .nil <| .seq <| .region <| .s rfl rfl <| .nil <| .seq <| .region <| .s rfl rfl <| .nil <| .seq <| .seq <| .region <| .m rfl rfl <| .e rfl (.lenL Tryz.underlying172 rfl (hu.ext hs0.ext)) <| .m rfl rfl <| .nil <| .block ?_
  have hs_1 := hs0.newNilL 174 (encRI)
  refine .loop (α := Nat × Nat × Value × List RI) (fun (k, i, ov, out) => [(0, v), (5, ov), (6, (.int .i64 i)), (9, u), (10, (.int .i64 b.length)), (11, (.int .i64 k))]) (fun (k, i, ov, out) w' => Sat w [cL ov 174 (encRI) (out)] w' ∧ (k ≤ b.length) ∧ (i ≤ a.length) ∧ (out ++ mrgR (a.drop i) (b.drop k) = mrgR a b) ∧ (out.length = i + k)) (fun (k, i, ov, out) => b.length - k) (0, 0, (.slice none 0 0), []) ⟨rfl, rfl, rfl, rfl, rfl, rfl, trivial⟩ ⟨hs_1, Nat.zero_le _, Nat.zero_le _, rfl, rfl⟩ ?_
  rintro ⟨k, i, ov, out⟩ w_1 ⟨hs_2, hk, hi, hout, hol⟩
  show CW _ _ _ _ [(0, v), (5, ov), (6, (.int .i64 i)), (9, u), (10, (.int .i64 b.length)), (11, (.int .i64 k))] _
  refine .seq <| .region <| .e rfl (.lssN rfl rfl) <| .nil <| .seq <| .condD rfl (fun hc_1 => ?_) (fun hc_1 => ?_)
  · refine .skip <| .seq <| .block <| .seq ?_
    obtain ⟨x, hx⟩ : ∃ x, (b)[k]? = some x := ⟨_, List.getElem?_eq_getElem hc_1⟩
    refine .region <| .e rfl (.idxL (E := encRI) sl172 rfl rfl (hu.ext hs_2.ext) (by omega)) <| .e rfl (.ldAgg (E := encRI) agg174 rfl (hu.ext hs_2.ext) hx (by decide)) <| .f rfl (.alloc hs_2 zero174 fun b_1 w_2 hs_3 hch_1 hb_1 => ?_)
    refine .f rfl (.storeObjA (vs := (encRI).enc x) agg174 hs_3 (i := 1) rfl rfl rfl rfl ((encRI).one _) fun w_3 hs_4 hch_2 => ?_)
    have hs_4d : Sat w [_, cObj b_1 174 [(.int .i64 x.w), (.bool x.leaf), x.sv.val]] _ := hs_4
    refine .nil <| .seq <| .block <| .loop (α := Nat × Value × List RI) (fun (i, ov, out) => [(0, v), (5, ov), (6, (.int .i64 i)), (8, (.pointer (some ⟨b_1, 0, none⟩))), (9, u), (10, (.int .i64 b.length)), (11, (.int .i64 k))]) (fun (i, ov, out) w' => Sat w [cL ov 174 (encRI) (out), cObj b_1 174 [(.int .i64 x.w), (.bool x.leaf), x.sv.val]] w' ∧ (i ≤ a.length) ∧ (out ++ mrgR (a.drop i) (b.drop k) = mrgR a b) ∧ (out.length = i + k)) (fun (i, ov, out) => a.length - i) (i, ov, out) ⟨rfl, rfl, rfl, rfl, rfl, rfl, rfl, trivial⟩ ⟨hs_4d, hi, hout, hol⟩ ?_
    rintro ⟨i, ov, out⟩ w_4 ⟨hs_5, hi, hout, hol⟩
    show CW _ _ _ _ [(0, v), (5, ov), (6, (.int .i64 i)), (8, (.pointer (some ⟨b_1, 0, none⟩))), (9, u), (10, (.int .i64 b.length)), (11, (.int .i64 k))] _
    refine .seq <| .seq ?_
    rcases Nat.lt_or_ge i a.length with hw | hw
    · obtain ⟨y, hy⟩ : ∃ y, (a)[i]? = some y := ⟨_, List.getElem?_eq_getElem (hw)⟩
      refine .draw (fun w' => Sat w [cL ov 174 (encRI) (out), cObj b_1 174 [(.int .i64 x.w), (.bool x.leaf), x.sv.val]] w') (.free 0 (.free 1 (.free 2 (.free 3 (.free 4 (.free 5 (.free 6 (.free 7 (.free 8 (.free 9 (.free 10 (.free 11 (.free 12 (.free 13 .fin)))))))))))))) mixed (by kernel_rfl) ?_
      have hs_6 := hs_5.drew
      refine .m rfl rfl hs_6 <| .m rfl rfl hs_6 <| .e rfl (fun w' hS' => .lenL Tryz.underlying172 rfl (hv.ext hS'.ext)) hs_6 <| .e rfl (fun w' hS' => .lssN rfl rfl) hs_6 <| .m rfl rfl hs_6 <| .evYes rfl rfl rfl rfl (decide_eq_true hw) rfl (fun w' hS' => .move rfl) hs_6 <| .evYes rfl rfl rfl rfl (decide_eq_true hw) rfl (fun w' hS' => .move rfl) hs_6 <| .evYes rfl rfl rfl rfl (decide_eq_true hw) rfl (fun w' hS' => .idxL (E := encRI) sl172 rfl rfl (hv.ext hS'.ext) (by omega)) hs_6 <| .evYes rfl rfl rfl rfl (decide_eq_true hw) rfl (fun w' hS' => .fldL (E := encRI) fld174_0 rfl (hv.ext hS'.ext) (by omega) (by decide)) hs_6 <| .evYes rfl rfl rfl rfl (decide_eq_true hw) rfl (fun w' hS' => .ldLF (E := encRI) scal3 rfl (hv.ext hS'.ext) hy (by decide) rfl) hs_6 <| .evYes rfl rfl rfl rfl (decide_eq_true hw) rfl (fun w' hS' => .fieldAddr fld174_0 rfl rfl) hs_6 <| .evYes rfl rfl rfl rfl (decide_eq_true hw) rfl (fun w' hS' => .load scal3 rfl (hS'.cell (i := 1) (j := 0) rfl rfl)) hs_6 <| .evYes rfl rfl rfl rfl (decide_eq_true hw) rfl (fun w' hS' => .leqN rfl rfl) hs_6 <| .e rfl (fun w' hS' => .pickY rfl (decide_eq_true hw) rfl) hs_6 <| .fin <| .condD rfl (fun hc_2 => ?_) (fun hc_2 => ?_)
      · refine .skip <| .block <| .seq <| .region <| .m rfl rfl <| .m rfl rfl <| .m rfl rfl <| .e rfl (.idxL (E := encRI) sl172 rfl rfl (hv.ext hs_6.ext) (by omega)) <| .e rfl (.ldAgg (E := encRI) agg174 rfl (hv.ext hs_6.ext) hy (by decide)) <| .f rfl (.lit1A (encRI) y sl172 (by decide) (by decide) hs_6 rfl fun v_1 w_5 hs_7 hch_3 => ?_)
        refine .f rfl (.appendL 0 sl172 hs_7 rfl rfl rfl Tryz.underlying172 (hs_7.rdL 2 rfl) (by (try simp only [List.length_append]); simp; omega) (by (try simp only [List.length_append]); simp; omega) fun v_2 w_6 hs_8 hch_4 => ?_)
        have hs_8d : Sat w [cL v_2 174 (encRI) (out ++ [y]), _] _ := hs_8.drop 2
        refine .s rfl rfl <| .nil <| .region <| .m rfl rfl <| .e rfl (.addI (b := 1) rfl rfl (by omega)) <| .s rfl rfl <| .nil ?_
        have hs_9 : Sat w [_, _] w_6 := hs_8d.sub ((.cons_cons _ (.cons_cons _ .slnil)))
        exact ⟨(i + 1, v_2, out ++ [y]), ⟨rfl, rfl, rfl, rfl, rfl, rfl, rfl, trivial⟩, ⟨hs_9, by omega, by rw [← hout, mrgR_left hy hx hc_2]; simp, by simp; omega⟩, (show (a.length - (i + 1)) < (a.length - i) from by omega)⟩
      · refine .exit0 ?_
        have hge : ∀ z, a[i]? = some z → ¬ z.w ≤ x.w := fun z hz => by rw [hy] at hz; cases hz; exact hc_2
        refine .region <| .m rfl rfl <| .e rfl (.ldObj agg174 rfl hs_6 (i := 1) rfl rfl) <| .f rfl (.lit1A (encRI) x sl172 (by decide) (by decide) hs_6 rfl fun v_3 w_7 hs_10 hch_5 => ?_)
        refine .f rfl (.appendL 0 sl172 hs_10 rfl rfl rfl Tryz.underlying172 (hs_10.rdL 2 rfl) (by (try simp only [List.length_append]); simp; omega) (by (try simp only [List.length_append]); simp; omega) fun v_4 w_8 hs_11 hch_6 => ?_)
        have hs_11d : Sat w [cL v_4 174 (encRI) (out ++ [x]), _] _ := hs_11.drop 2
        refine .s rfl rfl <| .nil <| .region <| .e rfl (.addI (b := 1) rfl rfl (by omega)) <| .m rfl rfl <| .nil ?_
        have hs_12 : Sat w [_] w_8 := hs_11d.sub ((.cons_cons _ (.cons _ .slnil)))
        exact ⟨(k + 1, i, v_4, out ++ [x]), ⟨rfl, rfl, rfl, rfl, rfl, rfl, trivial⟩, ⟨hs_12, by omega, hi, by rw [← hout, mrgR_right hx hge]; simp, by simp; omega⟩, (show (b.length - (k + 1)) < (b.length - k) from by omega)⟩
    · refine .draw (fun w' => Sat w [cL ov 174 (encRI) (out), cObj b_1 174 [(.int .i64 x.w), (.bool x.leaf), x.sv.val]] w') (.free 0 (.free 1 (.free 2 (.free 3 (.free 4 (.free 5 (.free 6 (.free 7 (.free 8 (.free 9 (.free 10 (.free 11 (.free 12 (.free 13 .fin)))))))))))))) mixed (by kernel_rfl) ?_
      have hs_13 := hs_5.drew
      refine .m rfl rfl hs_13 <| .m rfl rfl hs_13 <| .e rfl (fun w' hS' => .lenL Tryz.underlying172 rfl (hv.ext hS'.ext)) hs_13 <| .e rfl (fun w' hS' => .lssN rfl rfl) hs_13 <| .m rfl rfl hs_13 <| .no rfl rfl rfl rfl (decide_eq_false (by omega)) rfl hs_13 <| .no rfl rfl rfl rfl (decide_eq_false (by omega)) rfl hs_13 <| .no rfl rfl rfl rfl (decide_eq_false (by omega)) rfl hs_13 <| .no rfl rfl rfl rfl (decide_eq_false (by omega)) rfl hs_13 <| .no rfl rfl rfl rfl (decide_eq_false (by omega)) rfl hs_13 <| .no rfl rfl rfl rfl (decide_eq_false (by omega)) rfl hs_13 <| .no rfl rfl rfl rfl (decide_eq_false (by omega)) rfl hs_13 <| .no rfl rfl rfl rfl (decide_eq_false (by omega)) rfl hs_13 <| .e rfl (fun w' hS' => .pickN rfl (decide_eq_false (by omega)) rfl) hs_13 <| .fin <| .condF rfl (rfl) <| .exit0 ?_
      have hge : ∀ z, a[i]? = some z → ¬ z.w ≤ x.w := fun z hz => by have := lt_of_get hz; omega
      refine .region <| .m rfl rfl <| .e rfl (.ldObj agg174 rfl hs_13 (i := 1) rfl rfl) <| .f rfl (.lit1A (encRI) x sl172 (by decide) (by decide) hs_13 rfl fun v_5 w_9 hs_14 hch_7 => ?_)
      refine .f rfl (.appendL 0 sl172 hs_14 rfl rfl rfl Tryz.underlying172 (hs_14.rdL 2 rfl) (by (try simp only [List.length_append]); simp; omega) (by (try simp only [List.length_append]); simp; omega) fun v_6 w_10 hs_15 hch_8 => ?_)
      have hs_15d : Sat w [cL v_6 174 (encRI) (out ++ [x]), _] _ := hs_15.drop 2
      refine .s rfl rfl <| .nil <| .region <| .e rfl (.addI (b := 1) rfl rfl (by omega)) <| .m rfl rfl <| .nil ?_
      have hs_16 : Sat w [_] w_10 := hs_15d.sub ((.cons_cons _ (.cons _ .slnil)))
      exact ⟨(k + 1, i, v_6, out ++ [x]), ⟨rfl, rfl, rfl, rfl, rfl, rfl, trivial⟩, ⟨hs_16, by omega, hi, by rw [← hout, mrgR_right hx hge]; simp, by simp; omega⟩, (show (b.length - (k + 1)) < (b.length - k) from by omega)⟩
  · refine .exit0 <| .seq <| .region <| .m rfl rfl <| .m rfl rfl <| .m rfl rfl <| .e rfl (.sliceL (E := encRI) (a := i) (c := (a).length) sl172 rfl (hv.ext hs_2.ext) ⟨_, rfl⟩ rfl (by omega) (Nat.le_refl _)) <| .f rfl (.appendL 0 sl172 hs_2 rfl rfl rfl Tryz.underlying172 (((hv.ext hs_2.ext)).sub (a := i) (b := (a).length) (by omega) (Nat.le_refl _)) (by simp; omega) (by simp; omega) fun v_7 w_11 hs_17 hch_9 => ?_)
    refine .s rfl rfl <| .nil <| .ret ?_
    show PostK _ _ _ _ _ _
    refine post1 rfl rfl ?_
    have hs_18 : Sat w [_] w_11 := hs_17.sub ((.cons_cons _ .slnil))
    have hs_19 : Sat w [cL v_7 174 (encRI) (mrgR a b)] w_11 := by
      have hq : out ++ ((a).take ((a).length)).drop i = mrgR a b := by rw [← hout, show k = b.length by omega, List.drop_length, mrgR_nil]; simp
      rw [← hq]; exact hs_18
    exact hs_19
end Go.Proofs.YtecfgjdpghddgaaGreat
