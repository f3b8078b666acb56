/- The walks of the functions of F13y, printed by our own program (kwgen.py) out of our descriptions (base.py). -/
import Derived.Test.YtfhbflhnelbkfaaF13k
import Derived.Test.YtfhbflhnelbkfaaTab
namespace Go.Proofs.Ytfhbflhnelbkfaa
open Go.RowKit Go.Kw
set_option maxRecDepth 100000
set_option linter.unusedVariables false
set_option linter.unusedSimpArgs false
theorem unseal_any (v : Value) (b : List Nat) (w : World) (hv : RdL w v (encN .u8) b) (hb : ∀ x ∈ b, x < 256) (hn : b.length ≤ 1000000000) :
    CallsV Try.prog 63 [v] w fun r w' => (∃ e : Int, e ≠ 0 ∧ r = .tuple #[.slice none 0 0, .int .i64 e] ∧ Sat w [] w') ∨ ∃ v' p, b = sealN p ∧ r = .tuple #[v', .int .i64 ((0 : Nat) : Int)] ∧ Sat w [cL v' 5 (encN .u8) p] w' := by
  have hs0 := Sat.start w
  refine callsV_of Try.func63 rfl rfl ?_
  refine CW.seq ?_
  refine CW.region ?_
  refine RT.ev rfl rfl (Ev.assign rfl) ?_
  refine RT.ev rfl rfl (Ev.assign rfl) ?_
  refine RT.nil ?_
  refine CW.seq ?_
  refine CW.seq ?_
  refine CW.region ?_
  refine RT.ev rfl rfl (Ev.move rfl) ?_
  refine RT.ev rfl rfl (Ev.lenL Try.underlying40 rfl (hv.ext hs0.ext)) ?_
  refine RT.ev rfl rfl (Ev.lssN (b := 4) rfl rfl) ?_
  refine RT.nil ?_
  refine CW.condD rfl (fun hc_1 => ?_) (fun hc_1 => ?_)
  · refine CW.seq ?_
    refine CW.region ?_
    refine RT.ev rfl rfl (Ev.assign rfl) ?_
    refine RT.ev rfl rfl (Ev.assign rfl) ?_
    refine RT.nil ?_
    refine CW.ret ?_
    show PostK _ _ _ _ _ _
    refine post2 rfl rfl rfl ?_
    have hs_1 : Sat w [] w := hs0.sub (.slnil)
    exact .inl ⟨_, by decide, rfl, hs_1⟩
  · refine CW.skip ?_
    refine CW.seq ?_
    refine CW.region ?_
    refine RT.ev rfl rfl (Ev.move rfl) ?_
    refine RT.ev rfl rfl (Ev.lenL Try.underlying40 rfl (hv.ext hs0.ext)) ?_
    refine RT.ev rfl rfl (Ev.subI (b := 4) rfl rfl (by omega) (by omega)) ?_
    refine RT.ev rfl rfl (Ev.assign rfl) ?_
    refine RT.nil ?_
    refine CW.seq ?_
    refine CW.seq ?_
    refine CW.draw (fun w' => Sat w [] w') (.free 0 (.free 1 (.free 2 (.free 5 (.free 6 (.free 7 (.two 3 8 (.two 4 8 (.one 8 (.free 9 (.free 10 .fin))) (.free 9 (.one 4 (.free 10 .fin)))) (.free 9 (.one 3 (.one 4 (.free 10 .fin))))))))))) mixed (by kernel_rfl) ?_
    have hs_2 := hs0.drew
    refine RP.ev rfl rfl rfl (fun w' hS' => Ev.move rfl) hs_2 ?_
    refine RP.ev rfl rfl rfl (fun w' hS' => Ev.move rfl) hs_2 ?_
    refine RP.ev rfl rfl rfl (fun w' hS' => Ev.sliceL (E := encN .u8) (a := 0) (c := (b.length - 4)) sl40 rfl (hv.ext hS'.ext) rfl ⟨_, rfl⟩ (Nat.zero_le _) (by omega)) hs_2 ?_
    refine RP.ev rfl rfl rfl (fun w' hS' => Ev.move rfl) hs_2 ?_
    refine RP.ev rfl rfl rfl (fun w' hS' => Ev.move rfl) hs_2 ?_
    refine RP.ev rfl rfl rfl (fun w' hS' => Ev.sliceL (E := encN .u8) (a := (b.length - 4)) (c := (b).length) sl40 rfl (hv.ext hS'.ext) ⟨_, rfl⟩ rfl (by omega) (Nat.le_refl _)) hs_2 ?_
    refine RP.two rfl rfl rfl rfl rfl rfl (OpE.call ent103 rfl ((sum_ok _ (((b).take (b.length - 4)).drop 0) _ (((hv.ext hs_2.ext)).sub (a := 0) (b := (b.length - 4)) (Nat.zero_le _) (by omega)) (fun x hx => hb x (List.mem_of_mem_take (List.mem_of_mem_drop hx))) (by simp; omega)).mono fun r_1 w_1 h_1 => ?_)) (OpE.ev (Ev.toArr (E := encN .u8) Try.underlying130 rfl (((hv.ext hs_2.ext)).sub (a := (b.length - 4)) (b := (b).length) (by omega) (Nat.le_refl _)) (by simp; omega)) ⟨hs_2, ?_⟩)
    · obtain ⟨rfl, hp_1⟩ := h_1
      have hs_3 : Sat w [] _ := hs_2.adds hp_1
      have hS_1 : Sat w [] _ := hs_3.sub (.slnil)
      refine ⟨hS_1, ?_⟩
      refine RP.two rfl rfl rfl rfl rfl rfl (OpE.call ent102 rfl ((bytesOf_ok ((sumN (((b).take (b.length - 4)).drop 0))) _ (sumN_lt (fun x hx => hb x (List.mem_of_mem_take (List.mem_of_mem_drop hx))))).mono fun r_2 w_2 h_2 => ?_)) (OpE.ev (Ev.toArr (E := encN .u8) Try.underlying130 rfl (((hv.ext hs_3.ext)).sub (a := (b.length - 4)) (b := (b).length) (by omega) (Nat.le_refl _)) (by simp; omega)) ⟨hS_1, ?_⟩)
      · obtain ⟨rfl, hp_2⟩ := h_2
        have hs_4 : Sat w [] _ := hs_3.adds hp_2
        have hS_2 : Sat w [] _ := hs_4.sub (.slnil)
        refine ⟨hS_2, ?_⟩
        refine RP.eff rfl rfl rfl (OpE.ev (Ev.toArr (E := encN .u8) Try.underlying130 rfl (((hv.ext hs_4.ext)).sub (a := (b.length - 4)) (b := (b).length) (by omega) (Nat.le_refl _)) (by simp; omega)) ⟨hS_2, ?_⟩)
        refine RP.ev rfl rfl rfl (fun w' hS' => Ev.ldArr (E := encN .u8) agg130 rfl (((hv.ext hS'.ext)).sub (a := (b.length - 4)) (b := (b).length) (by omega) (Nat.le_refl _)) (by show _ * 1 = _; simp; omega) (by decide)) hS_2 ?_
        refine RP.ev rfl rfl rfl (fun w' hS' => Ev.neqArr4 arr4_130 (rfl) (by simp; omega) rfl rfl) hS_2 ?_
        refine RP.fin ?_
        refine CW.condD rfl (fun hc_2 => ?_) (fun hc_2 => ?_)
        · refine CW.seq ?_
          refine CW.region ?_
          refine RT.ev rfl rfl (Ev.assign rfl) ?_
          refine RT.ev rfl rfl (Ev.assign rfl) ?_
          refine RT.nil ?_
          refine CW.ret ?_
          show PostK _ _ _ _ _ _
          refine post2 rfl rfl rfl ?_
          have hs_5 : Sat w [] w_2 := hs_4.sub (.slnil)
          exact .inl ⟨_, by decide, rfl, hs_5⟩
        · refine CW.skip ?_
          refine CW.seq ?_
          refine CW.region ?_
          refine RT.eff rfl rfl (OpE.lit0 (encN .u8) sl40 hs_4 fun v_1 w_3 hs_6 hch_1 => ?_)
          have hs_6d : Sat w [cL v_1 5 (encN .u8) ([])] _ := hs_6
          refine RT.ev rfl rfl (Ev.move rfl) ?_
          refine RT.ev rfl rfl (Ev.move rfl) ?_
          refine RT.ev rfl rfl (Ev.sliceL (E := encN .u8) (a := 0) (c := (b.length - 4)) sl40 rfl (hv.ext hs_6d.ext) rfl ⟨_, rfl⟩ (Nat.zero_le _) (by omega)) ?_
          refine RT.eff rfl rfl (OpE.appendL 0 sl40 hs_6d rfl rfl rfl Try.underlying40 (((hv.ext hs_6d.ext)).sub (a := 0) (b := (b.length - 4)) (Nat.zero_le _) (by omega)) (by simp; omega) (by simp; omega) fun v_2 w_4 hs_7 hch_2 => ?_)
          have hs_7d : Sat w [cL v_2 5 (encN .u8) (((b).take (b.length - 4)).drop 0)] _ := hs_7
          refine RT.ev rfl rfl (Ev.assign rfl) ?_
          refine RT.ev rfl rfl (Ev.assign rfl) ?_
          refine RT.nil ?_
          refine CW.ret ?_
          show PostK _ _ _ _ _ _
          refine post2 rfl rfl rfl ?_
          have hs_8 : Sat w [cL v_2 5 (encN .u8) (((b).take (b.length - 4)).drop 0)] w_4 := hs_7d.sub ((.cons_cons _ .slnil))
          have hs_9 : Sat w [cL v_2 5 (encN .u8) (b.take (b.length - 4))] w_4 := by
            have hq : ((b).take (b.length - 4)).drop 0 = b.take (b.length - 4) := by simp
            rw [← hq]; exact hs_8
          have hq : b = sealN (b.take (b.length - 4)) := by
            have h9 := Decidable.not_not.1 hc_2
            rw [List.drop_zero, List.take_length] at h9
            unfold sealN
            rw [h9, List.take_append_drop]
          exact .inr ⟨_, _, hq, rfl, hs_9⟩
      · refine RP.ev rfl rfl rfl (fun w' hS' => Ev.ldArr (E := encN .u8) agg130 rfl (((hv.ext hS'.ext)).sub (a := (b.length - 4)) (b := (b).length) (by omega) (Nat.le_refl _)) (by show _ * 1 = _; simp; omega) (by decide)) hS_1 ?_
        refine RP.eff rfl rfl rfl (OpE.call ent102 rfl ((bytesOf_ok ((sumN (((b).take (b.length - 4)).drop 0))) _ (sumN_lt (fun x hx => hb x (List.mem_of_mem_take (List.mem_of_mem_drop hx))))).mono fun r_3 w_5 h_3 => ?_))
        obtain ⟨rfl, hp_3⟩ := h_3
        have hs_10 : Sat w [] _ := hs_3.adds hp_3
        have hS_3 : Sat w [] _ := hs_10.sub (.slnil)
        refine ⟨hS_3, ?_⟩
        refine RP.ev rfl rfl rfl (fun w' hS' => Ev.neqArr4 arr4_130 (rfl) (by simp; omega) rfl rfl) hS_3 ?_
        refine RP.fin ?_
        refine CW.condD rfl (fun hc_3 => ?_) (fun hc_3 => ?_)
        · refine CW.seq ?_
          refine CW.region ?_
          refine RT.ev rfl rfl (Ev.assign rfl) ?_
          refine RT.ev rfl rfl (Ev.assign rfl) ?_
          refine RT.nil ?_
          refine CW.ret ?_
          show PostK _ _ _ _ _ _
          refine post2 rfl rfl rfl ?_
          have hs_11 : Sat w [] w_5 := hs_10.sub (.slnil)
          exact .inl ⟨_, by decide, rfl, hs_11⟩
        · refine CW.skip ?_
          refine CW.seq ?_
          refine CW.region ?_
          refine RT.eff rfl rfl (OpE.lit0 (encN .u8) sl40 hs_10 fun v_3 w_6 hs_12 hch_3 => ?_)
          have hs_12d : Sat w [cL v_3 5 (encN .u8) ([])] _ := hs_12
          refine RT.ev rfl rfl (Ev.move rfl) ?_
          refine RT.ev rfl rfl (Ev.move rfl) ?_
          refine RT.ev rfl rfl (Ev.sliceL (E := encN .u8) (a := 0) (c := (b.length - 4)) sl40 rfl (hv.ext hs_12d.ext) rfl ⟨_, rfl⟩ (Nat.zero_le _) (by omega)) ?_
          refine RT.eff rfl rfl (OpE.appendL 0 sl40 hs_12d rfl rfl rfl Try.underlying40 (((hv.ext hs_12d.ext)).sub (a := 0) (b := (b.length - 4)) (Nat.zero_le _) (by omega)) (by simp; omega) (by simp; omega) fun v_4 w_7 hs_13 hch_4 => ?_)
          have hs_13d : Sat w [cL v_4 5 (encN .u8) (((b).take (b.length - 4)).drop 0)] _ := hs_13
          refine RT.ev rfl rfl (Ev.assign rfl) ?_
          refine RT.ev rfl rfl (Ev.assign rfl) ?_
          refine RT.nil ?_
          refine CW.ret ?_
          show PostK _ _ _ _ _ _
          refine post2 rfl rfl rfl ?_
          have hs_14 : Sat w [cL v_4 5 (encN .u8) (((b).take (b.length - 4)).drop 0)] w_7 := hs_13d.sub ((.cons_cons _ .slnil))
          have hs_15 : Sat w [cL v_4 5 (encN .u8) (b.take (b.length - 4))] w_7 := by
            have hq : ((b).take (b.length - 4)).drop 0 = b.take (b.length - 4) := by simp
            rw [← hq]; exact hs_14
          have hq : b = sealN (b.take (b.length - 4)) := by
            have h9 := Decidable.not_not.1 hc_3
            rw [List.drop_zero, List.take_length] at h9
            unfold sealN
            rw [h9, List.take_append_drop]
          exact .inr ⟨_, _, hq, rfl, hs_15⟩
    · refine RP.ev rfl rfl rfl (fun w' hS' => Ev.ldArr (E := encN .u8) agg130 rfl (((hv.ext hS'.ext)).sub (a := (b.length - 4)) (b := (b).length) (by omega) (Nat.le_refl _)) (by show _ * 1 = _; simp; omega) (by decide)) hs_2 ?_
      refine RP.eff rfl rfl rfl (OpE.call ent103 rfl ((sum_ok _ (((b).take (b.length - 4)).drop 0) _ (((hv.ext hs_2.ext)).sub (a := 0) (b := (b.length - 4)) (Nat.zero_le _) (by omega)) (fun x hx => hb x (List.mem_of_mem_take (List.mem_of_mem_drop hx))) (by simp; omega)).mono fun r_4 w_8 h_4 => ?_))
      obtain ⟨rfl, hp_4⟩ := h_4
      have hs_16 : Sat w [] _ := hs_2.adds hp_4
      have hS_4 : Sat w [] _ := hs_16.sub (.slnil)
      refine ⟨hS_4, ?_⟩
      refine RP.eff rfl rfl rfl (OpE.call ent102 rfl ((bytesOf_ok ((sumN (((b).take (b.length - 4)).drop 0))) _ (sumN_lt (fun x hx => hb x (List.mem_of_mem_take (List.mem_of_mem_drop hx))))).mono fun r_5 w_9 h_5 => ?_))
      obtain ⟨rfl, hp_5⟩ := h_5
      have hs_17 : Sat w [] _ := hs_16.adds hp_5
      have hS_5 : Sat w [] _ := hs_17.sub (.slnil)
      refine ⟨hS_5, ?_⟩
      refine RP.ev rfl rfl rfl (fun w' hS' => Ev.neqArr4 arr4_130 (rfl) (by simp; omega) rfl rfl) hS_5 ?_
      refine RP.fin ?_
      refine CW.condD rfl (fun hc_4 => ?_) (fun hc_4 => ?_)
      · refine CW.seq ?_
        refine CW.region ?_
        refine RT.ev rfl rfl (Ev.assign rfl) ?_
        refine RT.ev rfl rfl (Ev.assign rfl) ?_
        refine RT.nil ?_
        refine CW.ret ?_
        show PostK _ _ _ _ _ _
        refine post2 rfl rfl rfl ?_
        have hs_18 : Sat w [] w_9 := hs_17.sub (.slnil)
        exact .inl ⟨_, by decide, rfl, hs_18⟩
      · refine CW.skip ?_
        refine CW.seq ?_
        refine CW.region ?_
        refine RT.eff rfl rfl (OpE.lit0 (encN .u8) sl40 hs_17 fun v_5 w_10 hs_19 hch_5 => ?_)
        have hs_19d : Sat w [cL v_5 5 (encN .u8) ([])] _ := hs_19
        refine RT.ev rfl rfl (Ev.move rfl) ?_
        refine RT.ev rfl rfl (Ev.move rfl) ?_
        refine RT.ev rfl rfl (Ev.sliceL (E := encN .u8) (a := 0) (c := (b.length - 4)) sl40 rfl (hv.ext hs_19d.ext) rfl ⟨_, rfl⟩ (Nat.zero_le _) (by omega)) ?_
        refine RT.eff rfl rfl (OpE.appendL 0 sl40 hs_19d rfl rfl rfl Try.underlying40 (((hv.ext hs_19d.ext)).sub (a := 0) (b := (b.length - 4)) (Nat.zero_le _) (by omega)) (by simp; omega) (by simp; omega) fun v_6 w_11 hs_20 hch_6 => ?_)
        have hs_20d : Sat w [cL v_6 5 (encN .u8) (((b).take (b.length - 4)).drop 0)] _ := hs_20
        refine RT.ev rfl rfl (Ev.assign rfl) ?_
        refine RT.ev rfl rfl (Ev.assign rfl) ?_
        refine RT.nil ?_
        refine CW.ret ?_
        show PostK _ _ _ _ _ _
        refine post2 rfl rfl rfl ?_
        have hs_21 : Sat w [cL v_6 5 (encN .u8) (((b).take (b.length - 4)).drop 0)] w_11 := hs_20d.sub ((.cons_cons _ .slnil))
        have hs_22 : Sat w [cL v_6 5 (encN .u8) (b.take (b.length - 4))] w_11 := by
          have hq : ((b).take (b.length - 4)).drop 0 = b.take (b.length - 4) := by simp
          rw [← hq]; exact hs_21
        have hq : b = sealN (b.take (b.length - 4)) := by
          have h9 := Decidable.not_not.1 hc_4
          rw [List.drop_zero, List.take_length] at h9
          unfold sealN
          rw [h9, List.take_append_drop]
        exact .inr ⟨_, _, hq, rfl, hs_22⟩

theorem rnum_any (w0 w : World) (cs : List Chunk) (g : Nat) (bv : Value) (ok : Bool) (bl : List Nat) (n : Nat) (hs : Sat w0 ([cObj g 111 [bv, .bool ok]] ++ cs) w) (hb : RdL w0 bv (encN .u8) bl) (hbb : ∀ y ∈ bl, y < 256) (hn : bl.length ≤ 1000000000) (hlim : n ≤ 1000000000000) :
    CallsV Try.prog 85 [(Value.pointer (some ⟨g, 0, none⟩)), (Value.int .i64 ((n : Nat) : Int))] w fun r w' => ∃ x : Nat, x ≤ n ∧ r = .int .i64 (x : Int) ∧ ∃ ok' bv' bl', RdL w0 bv' (encN .u8) bl' ∧ (∀ y ∈ bl', y < 256) ∧ bl'.length ≤ 1000000000 ∧ Sat w0 ([cObj g 111 [bv', .bool ok']] ++ cs) w' := by
  refine callsV_of Try.func85 rfl rfl ?_
  refine CW.seq ?_
  refine CW.region ?_
  refine RT.ev rfl rfl (Ev.assign rfl) ?_
  refine RT.nil ?_
  refine CW.seq ?_
  refine CW.region ?_
  refine RT.ev rfl rfl (Ev.move rfl) ?_
  refine RT.ev rfl rfl (Ev.nilCheck rfl) ?_
  refine RT.ev rfl rfl (Ev.fieldAddr fld111_0 rfl rfl) ?_
  refine RT.ev rfl rfl (Ev.load scal40 rfl (hs.cell (i := 0) (j := 0) rfl rfl)) ?_
  refine RT.eff rfl rfl (OpE.call ent120 rfl ((uvarint_ok _ (bl) _ (hb.ext hs.ext) (hbb)).mono fun r_1 w_1 h_1 => ?_))
  obtain ⟨rfl, hp_1⟩ := h_1
  have hs_1 : Sat w0 ([cObj g 111 [bv, (Value.bool ok)]] ++ cs) _ := (hs.adds hp_1).mid
  refine RT.ev rfl rfl (Ev.move rfl) ?_
  refine RT.ev rfl rfl (Ev.extract rfl rfl) ?_
  refine RT.ev rfl rfl (Ev.extract rfl rfl) ?_
  refine RT.ev rfl rfl (Ev.extract rfl rfl) ?_
  refine RT.ev rfl rfl (Ev.assign rfl) ?_
  refine RT.ev rfl rfl (Ev.assign rfl) ?_
  refine RT.ev rfl rfl (Ev.assign rfl) ?_
  refine RT.nil ?_
  refine CW.seq ?_
  refine CW.seq ?_
  refine CW.mid (fun L' w' => Weak [(0, (Value.pointer (some ⟨g, 0, none⟩))), (1, (Value.int .i64 ((n : Nat) : Int))), (4, (Value.int .i64 ((0 : Nat) : Int))), (5, (Value.int .u64 (((uvR bl).1 : Nat) : Int))), (6, (Value.int .i64 (((uvR bl).2.1 : Nat) : Int))), (7, (Value.int .i64 (((uvR bl).2.2 : Nat) : Int))), (31, (Value.bool (decide ((((!ok) = true) ∨ ((uvR bl).2.2 ≠ 0)) ∨ (n < (uvR bl).1)))))] L' ∧ Sat w0 ([cObj g 111 [bv, (Value.bool ok)]] ++ cs) w') ?_ ?_
  · refine CW.region ?_
    refine RT.ev rfl rfl (Ev.move rfl) ?_
    refine RT.ev rfl rfl (Ev.nilCheck rfl) ?_
    refine RT.ev rfl rfl (Ev.fieldAddr fld111_1 rfl rfl) ?_
    refine RT.ev rfl rfl (Ev.load scal4 rfl (hs_1.cell (i := 0) (j := 1) rfl rfl)) ?_
    refine RT.ev rfl rfl (Ev.notB rfl) ?_
    refine RT.ev rfl rfl (Ev.move rfl) ?_
    by_cases hg_1 : (!ok) = true
    · refine RT.no rfl rfl rfl (hg_1) rfl ?_
      refine RT.no rfl rfl rfl (hg_1) rfl ?_
      refine RT.ev rfl rfl (Ev.pickY rfl (hg_1) rfl) ?_
      refine RT.ev rfl rfl (Ev.move rfl) ?_
      refine RT.no rfl rfl rfl (rfl) rfl ?_
      refine RT.no rfl rfl rfl (rfl) rfl ?_
      refine RT.no rfl rfl rfl (rfl) rfl ?_
      refine RT.no rfl rfl rfl (rfl) rfl ?_
      refine RT.ev rfl rfl (Ev.pickY rfl (rfl) rfl) ?_
      refine RT.nil ?_
      exact ⟨⟨rfl, rfl, rfl, rfl, rfl, rfl, congrArg some (congrArg Value.bool (by simp [hg_1])), trivial⟩, hs_1⟩
    · refine RT.yes rfl rfl rfl (by simpa using hg_1) ?_
      refine RT.ev rfl rfl (Ev.move rfl) ?_
      refine RT.yes rfl rfl rfl (by simpa using hg_1) ?_
      refine RT.ev rfl rfl (Ev.neqN (b := 0) rfl rfl) ?_
      refine RT.ev rfl rfl (Ev.pickN rfl (by simpa using hg_1) rfl) ?_
      refine RT.ev rfl rfl (Ev.move rfl) ?_
      by_cases hg_2 : (uvR bl).2.2 ≠ 0
      · refine RT.no rfl rfl rfl (decide_eq_true hg_2) rfl ?_
        refine RT.no rfl rfl rfl (decide_eq_true hg_2) rfl ?_
        refine RT.no rfl rfl rfl (decide_eq_true hg_2) rfl ?_
        refine RT.no rfl rfl rfl (decide_eq_true hg_2) rfl ?_
        refine RT.ev rfl rfl (Ev.pickY rfl (decide_eq_true hg_2) rfl) ?_
        refine RT.nil ?_
        exact ⟨⟨rfl, rfl, rfl, rfl, rfl, rfl, congrArg some (congrArg Value.bool (by simp [hg_1, hg_2])), trivial⟩, hs_1⟩
      · refine RT.yes rfl rfl rfl (decide_eq_false hg_2) ?_
        refine RT.ev rfl rfl (Ev.move rfl) ?_
        refine RT.yes rfl rfl rfl (decide_eq_false hg_2) ?_
        refine RT.ev rfl rfl (Ev.move rfl) ?_
        refine RT.yes rfl rfl rfl (decide_eq_false hg_2) ?_
        refine RT.ev rfl rfl (Ev.convK (by rw [Try.underlying3]; rfl) Try.underlying108 rfl (wrap_u rfl (by (try simp only [IntKind.bits]); omega))) ?_
        refine RT.yes rfl rfl rfl (decide_eq_false hg_2) ?_
        refine RT.ev rfl rfl (Ev.gtrN rfl rfl) ?_
        refine RT.ev rfl rfl (Ev.pickN rfl (decide_eq_false hg_2) rfl) ?_
        refine RT.nil ?_
        exact ⟨⟨rfl, rfl, rfl, rfl, rfl, rfl, congrArg some (congrArg Value.bool (by simp [hg_1, hg_2])), trivial⟩, hs_1⟩
  · rintro L' w_2 ⟨hw_1, hs_2⟩
    refine CW.weaken _ hw_1 ?_
    refine CW.condD rfl (fun hc_1 => ?_) (fun hc_1 => ?_)
    · refine CW.seq ?_
      refine CW.region ?_
      refine RT.ev rfl rfl (Ev.move rfl) ?_
      refine RT.ev rfl rfl (Ev.nilCheck rfl) ?_
      refine RT.ev rfl rfl (Ev.fieldAddr fld111_1 rfl rfl) ?_
      refine RT.eff rfl rfl (OpE.storeObj one4 hs_2 (i := 0) rfl rfl rfl (rfl) rfl fun w_3 hs_3 hch_1 => ?_)
      have hs_3d : Sat w0 ([cObj g 111 [bv, (Value.bool false)]] ++ cs) _ := hs_3
      refine RT.nil ?_
      refine CW.seq ?_
      refine CW.region ?_
      refine RT.ev rfl rfl (Ev.assign rfl) ?_
      refine RT.nil ?_
      refine CW.ret ?_
      show PostK _ _ _ _ _ _
      refine post1 rfl rfl ?_
      have hs_4 : Sat w0 ([cObj g 111 [bv, (Value.bool false)]] ++ cs) w_3 := hs_3d.sub ((.cons_cons _ (.refl _)))
      exact ⟨0, Nat.zero_le _, rfl, _, _, bl, hb, hbb, hn, hs_4⟩
    · refine CW.skip ?_
      refine CW.seq ?_
      have hule := uvR_le bl
      refine CW.region ?_
      refine RT.ev rfl rfl (Ev.move rfl) ?_
      refine RT.ev rfl rfl (Ev.move rfl) ?_
      refine RT.ev rfl rfl (Ev.nilCheck rfl) ?_
      refine RT.ev rfl rfl (Ev.fieldAddr fld111_0 rfl rfl) ?_
      refine RT.ev rfl rfl (Ev.load scal40 rfl (hs_2.cell (i := 0) (j := 0) rfl rfl)) ?_
      refine RT.ev rfl rfl (Ev.move rfl) ?_
      refine RT.ev rfl rfl (Ev.sliceL (E := encN .u8) (a := (uvR bl).2.1) (c := (bl).length) sl40 rfl (hb.ext hs_2.ext) ⟨_, rfl⟩ rfl (hule) (Nat.le_refl _)) ?_
      refine RT.ev rfl rfl (Ev.nilCheck rfl) ?_
      refine RT.ev rfl rfl (Ev.fieldAddr fld111_0 rfl rfl) ?_
      refine RT.eff rfl rfl (OpE.storeObj one40 hs_2 (i := 0) rfl rfl rfl ((((hb.ext hs_2.ext)).sub (a := (uvR bl).2.1) (b := (bl).length) (hule) (Nat.le_refl _)).oneCell) rfl fun w_4 hs_5 hch_2 => ?_)
      have hs_5d : Sat w0 ([cObj g 111 [(subSl (encN .u8).s bv ((uvR bl).2.1) ((bl).length)), (Value.bool ok)]] ++ cs) _ := hs_5
      refine RT.nil ?_
      refine CW.seq ?_
      have hlv : (uvR bl).1 ≤ n := Nat.le_of_not_lt fun h => hc_1 (by simp [h])
      refine CW.region ?_
      refine RT.ev rfl rfl (Ev.move rfl) ?_
      refine RT.ev rfl rfl (Ev.convK (by rw [Try.underlying108]; rfl) Try.underlying3 rfl (wrap_i (by omega))) ?_
      refine RT.ev rfl rfl (Ev.assign rfl) ?_
      refine RT.nil ?_
      refine CW.ret ?_
      show PostK _ _ _ _ _ _
      refine post1 rfl rfl ?_
      have hs_6 : Sat w0 ([cObj g 111 [(subSl (encN .u8).s bv ((uvR bl).2.1) ((bl).length)), (Value.bool ok)]] ++ cs) w_4 := hs_5d.sub ((.cons_cons _ (.refl _)))
      have hsub := hb.sub (a := (uvR bl).2.1) (b := bl.length) (by omega) (Nat.le_refl _)
      rw [List.take_length] at hsub
      exact ⟨_, hlv, rfl, _, _, _, hsub, fun y hy => hbb y (List.mem_of_mem_drop hy), by rw [List.length_drop]; omega, hs_6⟩

theorem rtext_any (w0 w : World) (cs : List Chunk) (g : Nat) (bv : Value) (ok : Bool) (bl : List Nat) (n : Nat) (hs : Sat w0 ([cObj g 111 [bv, .bool ok]] ++ cs) w) (hb : RdL w0 bv (encN .u8) bl) (hbb : ∀ y ∈ bl, y < 256) (hn : bl.length ≤ 1000000000) :
    CallsV Try.prog 86 [(Value.pointer (some ⟨g, 0, none⟩)), (Value.int .i64 ((n : Nat) : Int))] w fun r w' => ∃ s : ByteArray, s.size ≤ n ∧ r = .string s ∧ ∃ ok' bv' bl', RdL w0 bv' (encN .u8) bl' ∧ (∀ y ∈ bl', y < 256) ∧ bl'.length ≤ 1000000000 ∧ Sat w0 ([cObj g 111 [bv', .bool ok']] ++ cs) w' := by
  refine callsV_of Try.func86 rfl rfl ?_
  refine CW.seq ?_
  refine CW.region ?_
  refine RT.ev rfl rfl (Ev.assign rfl) ?_
  refine RT.nil ?_
  refine CW.seq ?_
  refine CW.seq ?_
  refine CW.mid (fun L' w' => Weak [(0, (Value.pointer (some ⟨g, 0, none⟩))), (1, (Value.int .i64 ((n : Nat) : Int))), (4, (Value.string (ByteArray.mk #[]))), (19, (Value.bool (decide (((!ok) = true) ∨ (bl.length < n)))))] L' ∧ Sat w0 ([cObj g 111 [bv, (Value.bool ok)]] ++ cs) w') ?_ ?_
  · refine CW.region ?_
    refine RT.ev rfl rfl (Ev.move rfl) ?_
    refine RT.ev rfl rfl (Ev.nilCheck rfl) ?_
    refine RT.ev rfl rfl (Ev.fieldAddr fld111_1 rfl rfl) ?_
    refine RT.ev rfl rfl (Ev.load scal4 rfl (hs.cell (i := 0) (j := 1) rfl rfl)) ?_
    refine RT.ev rfl rfl (Ev.notB rfl) ?_
    refine RT.ev rfl rfl (Ev.move rfl) ?_
    by_cases hg_1 : (!ok) = true
    · refine RT.no rfl rfl rfl (hg_1) rfl ?_
      refine RT.no rfl rfl rfl (hg_1) rfl ?_
      refine RT.no rfl rfl rfl (hg_1) rfl ?_
      refine RT.no rfl rfl rfl (hg_1) rfl ?_
      refine RT.no rfl rfl rfl (hg_1) rfl ?_
      refine RT.no rfl rfl rfl (hg_1) rfl ?_
      refine RT.no rfl rfl rfl (hg_1) rfl ?_
      refine RT.ev rfl rfl (Ev.pickY rfl (hg_1) rfl) ?_
      refine RT.nil ?_
      exact ⟨⟨rfl, rfl, rfl, congrArg some (congrArg Value.bool (by simp [hg_1])), trivial⟩, hs⟩
    · refine RT.yes rfl rfl rfl (by simpa using hg_1) ?_
      refine RT.ev rfl rfl (Ev.move rfl) ?_
      refine RT.yes rfl rfl rfl (by simpa using hg_1) ?_
      refine RT.ev rfl rfl (Ev.move rfl) ?_
      refine RT.yes rfl rfl rfl (by simpa using hg_1) ?_
      refine RT.ev rfl rfl (Ev.nilCheck rfl) ?_
      refine RT.yes rfl rfl rfl (by simpa using hg_1) ?_
      refine RT.ev rfl rfl (Ev.fieldAddr fld111_0 rfl rfl) ?_
      refine RT.yes rfl rfl rfl (by simpa using hg_1) ?_
      refine RT.ev rfl rfl (Ev.load scal40 rfl (hs.cell (i := 0) (j := 0) rfl rfl)) ?_
      refine RT.yes rfl rfl rfl (by simpa using hg_1) ?_
      refine RT.ev rfl rfl (Ev.lenL Try.underlying40 rfl (hb.ext hs.ext)) ?_
      refine RT.yes rfl rfl rfl (by simpa using hg_1) ?_
      refine RT.ev rfl rfl (Ev.gtrN rfl rfl) ?_
      refine RT.ev rfl rfl (Ev.pickN rfl (by simpa using hg_1) rfl) ?_
      refine RT.nil ?_
      exact ⟨⟨rfl, rfl, rfl, congrArg some (congrArg Value.bool (by simp [hg_1])), trivial⟩, hs⟩
  · rintro L' w_1 ⟨hw_1, hs_1⟩
    refine CW.weaken _ hw_1 ?_
    refine CW.condD rfl (fun hc_1 => ?_) (fun hc_1 => ?_)
    · refine CW.seq ?_
      refine CW.region ?_
      refine RT.ev rfl rfl (Ev.move rfl) ?_
      refine RT.ev rfl rfl (Ev.nilCheck rfl) ?_
      refine RT.ev rfl rfl (Ev.fieldAddr fld111_1 rfl rfl) ?_
      refine RT.eff rfl rfl (OpE.storeObj one4 hs_1 (i := 0) rfl rfl rfl (rfl) rfl fun w_2 hs_2 hch_1 => ?_)
      have hs_2d : Sat w0 ([cObj g 111 [bv, (Value.bool false)]] ++ cs) _ := hs_2
      refine RT.nil ?_
      refine CW.seq ?_
      refine CW.region ?_
      refine RT.ev rfl rfl (Ev.assign rfl) ?_
      refine RT.nil ?_
      refine CW.ret ?_
      show PostK _ _ _ _ _ _
      refine post1 rfl rfl ?_
      have hs_3 : Sat w0 ([cObj g 111 [bv, (Value.bool false)]] ++ cs) w_2 := hs_2d.sub ((.cons_cons _ (.refl _)))
      exact ⟨ByteArray.mk #[], Nat.zero_le _, rfl, _, _, bl, hb, hbb, hn, hs_3⟩
    · refine CW.skip ?_
      refine CW.seq ?_
      have hnl : n ≤ bl.length := Nat.le_of_not_lt fun h => hc_1 (by simp [h])
      refine CW.region ?_
      refine RT.ev rfl rfl (Ev.move rfl) ?_
      refine RT.ev rfl rfl (Ev.nilCheck rfl) ?_
      refine RT.ev rfl rfl (Ev.fieldAddr fld111_0 rfl rfl) ?_
      refine RT.ev rfl rfl (Ev.load scal40 rfl (hs_1.cell (i := 0) (j := 0) rfl rfl)) ?_
      refine RT.ev rfl rfl (Ev.move rfl) ?_
      refine RT.ev rfl rfl (Ev.sliceL (E := encN .u8) (a := 0) (c := n) sl40 rfl (hb.ext hs_1.ext) rfl ⟨_, rfl⟩ (Nat.zero_le _) (hnl)) ?_
      refine RT.ev rfl rfl (Ev.bytesStr Try.underlying40 Try.underlying9 Try.underlying5 rfl (((hb.ext hs_1.ext)).sub (a := 0) (b := n) (Nat.zero_le _) (hnl))) ?_
      refine RT.ev rfl rfl (Ev.assign rfl) ?_
      refine RT.nil ?_
      refine CW.seq ?_
      refine CW.region ?_
      refine RT.ev rfl rfl (Ev.move rfl) ?_
      refine RT.ev rfl rfl (Ev.move rfl) ?_
      refine RT.ev rfl rfl (Ev.nilCheck rfl) ?_
      refine RT.ev rfl rfl (Ev.fieldAddr fld111_0 rfl rfl) ?_
      refine RT.ev rfl rfl (Ev.load scal40 rfl (hs_1.cell (i := 0) (j := 0) rfl rfl)) ?_
      refine RT.ev rfl rfl (Ev.move rfl) ?_
      refine RT.ev rfl rfl (Ev.sliceL (E := encN .u8) (a := n) (c := (bl).length) sl40 rfl (hb.ext hs_1.ext) ⟨_, rfl⟩ rfl (hnl) (Nat.le_refl _)) ?_
      refine RT.ev rfl rfl (Ev.nilCheck rfl) ?_
      refine RT.ev rfl rfl (Ev.fieldAddr fld111_0 rfl rfl) ?_
      refine RT.eff rfl rfl (OpE.storeObj one40 hs_1 (i := 0) rfl rfl rfl ((((hb.ext hs_1.ext)).sub (a := n) (b := (bl).length) (hnl) (Nat.le_refl _)).oneCell) rfl fun w_3 hs_4 hch_2 => ?_)
      have hs_4d : Sat w0 ([cObj g 111 [(subSl (encN .u8).s bv n ((bl).length)), (Value.bool ok)]] ++ cs) _ := hs_4
      refine RT.nil ?_
      refine CW.seq ?_
      refine CW.region ?_
      refine RT.ev rfl rfl (Ev.move rfl) ?_
      refine RT.ev rfl rfl (Ev.assign rfl) ?_
      refine RT.nil ?_
      refine CW.ret ?_
      show PostK _ _ _ _ _ _
      refine post1 rfl rfl ?_
      have hs_5 : Sat w0 ([cObj g 111 [(subSl (encN .u8).s bv n ((bl).length)), (Value.bool ok)]] ++ cs) w_3 := hs_4d.sub ((.cons_cons _ (.refl _)))
      have hsub := hb.sub (a := n) (b := bl.length) (by omega) (Nat.le_refl _)
      rw [List.take_length] at hsub
      exact ⟨_, by rw [strOf_size, List.drop_zero, List.length_take]; omega, rfl, _, _, _, hsub, fun y hy => hbb y (List.mem_of_mem_drop hy), by rw [List.length_drop]; omega, hs_5⟩

theorem unseal_no {v : Value} {b : List Nat} {w : World} (hv : RdL w v (encN .u8) b) (hb : ∀ x ∈ b, x < 256) (hn : b.length ≤ 1000000000) (h : ¬ ∃ p, b = sealN p) : CallsV Try.prog 63 [v] w fun r w' => ∃ e : Int, e ≠ 0 ∧ r = .tuple #[.slice none 0 0, .int .i64 e] ∧ Sat w [] w' :=
  (unseal_any v b w hv hb hn).mono fun r w' hq => by rcases hq with h1 | ⟨_, p, hp, _⟩; exact h1; exact absurd ⟨p, hp⟩ h
def OkLex (W : List ByteArray) (C : List Nat) : Prop := okW W ∧ C.length = W.length ∧ (∀ x ∈ W, x.size ≤ 120) ∧ (∀ c ∈ C, 1 ≤ c ∧ c ≤ 4096) ∧ C.sum ≤ 4096 ∧ W.length ≤ 1024
theorem dec_cond {A B D F : Prop} {v : Bool} (h : ¬ ((((A ∧ ¬ B) ∨ D) ∨ ((!v) = true)) ∨ F)) : (A → B) ∧ ¬ D ∧ v = true ∧ ¬ F :=
  ⟨fun a => Classical.byContradiction fun nb => h (.inl (.inl (.inl ⟨a, nb⟩))), fun d => h (.inl (.inl (.inr d))), by cases v; exact absurd (.inl (.inr rfl)) h; rfl, fun f => h (.inr f)⟩
theorem okW_snoc {W : List ByteArray} {p x : ByteArray} (h : okW W) (hp : ∀ y ∈ W, y = p ∨ SLt y p) (hlt : 0 < W.length → SLt p x) (hv : validN x = true) : okW (W ++ [x]) ∧ ∀ y ∈ W ++ [x], y = x ∨ SLt y x := by
  have key : ∀ y ∈ W, SLt y x := fun y hy => by
    have hl := hlt (List.length_pos_of_mem hy)
    rcases hp y hy with rfl | h2
    · exact hl
    · exact h2.tr hl
  refine ⟨⟨List.pairwise_append.2 ⟨h.1, List.pairwise_singleton _ _, fun y hy z hz => by rw [List.mem_singleton.1 hz]; exact key y hy⟩, fun y hy => ?_⟩, fun y hy => ?_⟩
  · rcases List.mem_append.1 hy with hy | hy
    · exact h.2 y hy
    · rw [List.mem_singleton.1 hy]; exact hv
  · rcases List.mem_append.1 hy with hy | hy
    · exact .inr (key y hy)
    · exact .inl (List.mem_singleton.1 hy)
theorem all_snoc1 {α : Type} {P : α → Prop} {W : List α} {x : α} (h : ∀ y ∈ W, P y) (hx : P x) : ∀ y ∈ W ++ [x], P y := fun y hy => by
  rcases List.mem_append.1 hy with hy | hy
  · exact h y hy
  · rw [List.mem_singleton.1 hy]; exact hx
theorem dec_end {v : Bool} {P : Prop} (h : ¬ (((!v) = true) ∨ (¬ (P)))) : P := Classical.byContradiction fun hn => h (.inr hn)

theorem ldec_no (v : Value) (b : List Nat) (w : World) (hv : RdL w v (encN .u8) b) (hb : ∀ x ∈ b, x < 256) (hn : b.length ≤ 1000000) (hno : ¬ ∃ W C, OkLex W C ∧ b = sealN (encA W C W.length)) :
    CallsV Try.prog 51 [v] w fun r w' => r = .tuple #[.pointer none, .int .i64 9] ∧ Sat w [] w' := by
  have hs0 := Sat.start w
  refine callsV_of Try.func51 rfl rfl ?_
  refine CW.seq ?_
  refine CW.region ?_
  refine RT.ev rfl rfl (Ev.assign rfl) ?_
  refine RT.ev rfl rfl (Ev.assign rfl) ?_
  refine RT.nil ?_
  refine CW.seq ?_
  rcases Classical.em (∃ p, b = sealN p) with hun | hun
  · obtain ⟨p0, hp0⟩ := hun
    have hpb : ∀ y ∈ p0, y < 256 := fun y hy => hb y (by rw [hp0]; exact List.mem_append_left _ hy)
    have hpn : p0.length + 4 ≤ 1000000 := by rw [← sealN_length, ← hp0]; exact hn
    refine CW.region ?_
    refine RT.ev rfl rfl (Ev.move rfl) ?_
    refine RT.eff rfl rfl (OpE.call ent63 rfl ((unseal_p _ b p0 _ (hv.ext hs0.ext) hp0 hpb (by omega)).mono fun r_1 w_1 h_1 => ?_))
    obtain ⟨uv_1, rfl, hp_1⟩ := h_1
    have hs_1 : Sat w [cL uv_1 5 (encN .u8) (p0)] _ := hs0.adds hp_1
    refine RT.ev rfl rfl (Ev.move rfl) ?_
    refine RT.ev rfl rfl (Ev.extract rfl rfl) ?_
    refine RT.ev rfl rfl (Ev.extract rfl rfl) ?_
    refine RT.ev rfl rfl (Ev.assign rfl) ?_
    refine RT.ev rfl rfl (Ev.assign rfl) ?_
    refine RT.nil ?_
    refine CW.seq ?_
    refine CW.seq ?_
    refine CW.region ?_
    refine RT.ev rfl rfl (Ev.move rfl) ?_
    refine RT.ev rfl rfl (Ev.neqN (a := 0) (b := 0) rfl rfl) ?_
    refine RT.nil ?_
    refine CW.condF rfl (rfl) ?_
    refine CW.skip ?_
    refine CW.seq ?_
    have hpay := hs_1.rdL 0 rfl
    have hv1 := hv.ext hs_1.ext
    have hsb : Sat w_1 [] w_1 := Sat.start _
    have hpn2 : p0.length ≤ 1000000000 := by omega
    refine CW.region ?_
    refine RT.ev rfl rfl (Ev.move rfl) ?_
    refine RT.ev rfl rfl (Ev.build bt111 rfl ⟨(hpay.ext hsb.ext).oneCell, rfl, trivial⟩ rfl) ?_
    refine RT.eff rfl rfl (OpE.alloc hsb zero111 fun b_1 w_2 hs_2 hch_1 hb_1 => ?_)
    have hs_2d : Sat w_1 [cObj b_1 111 [(Value.slice none 0 0), (Value.bool false)]] _ := hs_2
    refine RT.eff rfl rfl (OpE.storeObjA (vs := [uv_1, (Value.bool true)]) agg111 hs_2d (i := 0) rfl rfl rfl rfl (fun v h => by simp only [List.mem_cons, List.not_mem_nil, or_false] at h; rcases h with rfl | rfl; exact (hpay.ext hs_2d.ext).oneCell; exact rfl) fun w_3 hs_3 hch_2 => ?_)
    have hs_3d : Sat w_1 [cObj b_1 111 [uv_1, (Value.bool true)]] _ := hs_3
    refine RT.nil ?_
    refine CW.seq ?_
    refine CW.region ?_
    refine RT.ev rfl rfl (Ev.build bt92 rfl trivial rfl) ?_
    refine RT.eff rfl rfl (OpE.box hs_3d rfl fun b_2 w_4 hs_4 hch_3 hb_2 => ?_)
    have hs_4d : Sat w_1 [cObj b_1 111 [uv_1, (Value.bool true)], cObj b_2 92 [(Value.slice none 0 0), (Value.slice none 0 0), (Value.slice none 0 0)]] _ := hs_4
    refine RT.ev rfl rfl (Ev.assign rfl) ?_
    refine RT.nil ?_
    refine CW.seq ?_
    refine CW.region ?_
    refine RT.ev rfl rfl (Ev.assign rfl) ?_
    refine RT.ev rfl rfl (Ev.assign rfl) ?_
    refine RT.nil ?_
    refine CW.seq ?_
    refine CW.seq ?_
    refine CW.region ?_
    have hA_1 : Sat w_1 ([cObj b_1 111 [uv_1, (Value.bool true)]] ++ ([cObj b_2 92 [(Value.slice none 0 0), (Value.slice none 0 0), (Value.slice none 0 0)]] ++ [])) _ := (Sat.order [0, 1] (by decide) hs_4d.tail).cut 1
    refine RT.eff rfl rfl (OpE.call ent85 rfl ((rnum_any _ _ _ _ _ true p0 1024 hA_1 hpay hpb hpn2 (by omega)).mono fun r_2 w_5 h_2 => ?_))
    obtain ⟨ax_1, hax_1, rfl, aok_1, abv_1, abl_1, hab_1, habb_1, habl_1, hp_2⟩ := h_2
    have hs_5 : Sat w_1 [cObj b_1 111 [abv_1, (Value.bool aok_1)], cObj b_2 92 [(Value.slice none 0 0), (Value.slice none 0 0), (Value.slice none 0 0)]] _ := (Sat.order [0, 1] (by decide) hp_2.join).untail
    refine RT.ev rfl rfl (Ev.assign rfl) ?_
    refine RT.nil ?_
    refine CW.block ?_
    have hs_6 : Sat w_1 [cObj b_1 111 [abv_1, (Value.bool aok_1)], cObj b_2 92 [(Value.slice none 0 0), (Value.slice none 0 0), (Value.slice none 0 0)], cL (Value.slice none 0 0) 9 (encTx) ([])] _ := hs_5.newNilL 9 (encTx)
    have hs_7 : Sat w_1 [cObj b_1 111 [abv_1, (Value.bool aok_1)], cObj b_2 92 [(Value.slice none 0 0), (Value.slice none 0 0), (Value.slice none 0 0)], cL (Value.slice none 0 0) 9 (encTx) ([]), cL (Value.slice none 0 0) 3 (encN .i64) ([])] _ := hs_6.newNilL 3 (encN .i64)
    refine CW.loop (α := Nat × Bool × Value × List Nat × ByteArray × Nat × Value × Value × List ByteArray × List Nat) (fun (m, ok, bv, bl, p, z, vw, vc, W, C) => [(0, v), (6, (Value.pointer (some ⟨b_1, 0, none⟩))), (7, (Value.pointer (some ⟨b_2, 0, none⟩))), (8, (Value.string p)), (9, (Value.int .i64 ((z : Nat) : Int))), (10, (Value.int .i64 ((m : Nat) : Int)))]) (fun (m, ok, bv, bl, p, z, vw, vc, W, C) w' => Sat w_1 [cObj b_1 111 [bv, (Value.bool ok)], cObj b_2 92 [vw, vc, (Value.slice none 0 0)], cL vw 9 (encTx) (W), cL vc 3 (encN .i64) (C)] w' ∧ (RdL w_1 bv (encN .u8) bl) ∧ (∀ y ∈ bl, y < 256) ∧ (bl.length ≤ 1000000000) ∧ (W.length + m ≤ 1024) ∧ (okW W) ∧ (C.length = W.length) ∧ (∀ x ∈ W, x.size ≤ 120) ∧ (∀ c ∈ C, 1 ≤ c ∧ c ≤ 4096) ∧ (z = C.sum) ∧ (z ≤ 4096) ∧ (p.size ≤ 120) ∧ (∀ y ∈ W, y = p ∨ SLt y p)) (fun (m, ok, bv, bl, p, z, vw, vc, W, C) => m) (ax_1, aok_1, abv_1, abl_1, (ByteArray.mk #[]), 0, (Value.slice none 0 0), (Value.slice none 0 0), [], []) ⟨rfl, rfl, rfl, rfl, rfl, rfl, trivial⟩ ⟨hs_7, hab_1, habb_1, habl_1, by simp only [List.length_nil]; omega, ⟨List.Pairwise.nil, (fun y hy => by cases hy)⟩, rfl, (fun y hy => by cases hy), (fun y hy => by cases hy), rfl, by decide, by decide, (fun y hy => by cases hy)⟩ ?_
    rintro ⟨m, ok, bv, bl, p, z, vw, vc, W, C⟩ w_6 ⟨hs_8, hbv, hbb, hbl, hWm, hok, hCl, hsz, hC, hz, hz2, hpl, hpa⟩
    show CW _ _ _ _ [(0, v), (6, (Value.pointer (some ⟨b_1, 0, none⟩))), (7, (Value.pointer (some ⟨b_2, 0, none⟩))), (8, (Value.string p)), (9, (Value.int .i64 ((z : Nat) : Int))), (10, (Value.int .i64 ((m : Nat) : Int)))] _
    refine CW.seq ?_
    refine CW.seq ?_
    refine CW.mid (fun L' w' => Weak [(0, v), (6, (Value.pointer (some ⟨b_1, 0, none⟩))), (7, (Value.pointer (some ⟨b_2, 0, none⟩))), (8, (Value.string p)), (9, (Value.int .i64 ((z : Nat) : Int))), (10, (Value.int .i64 ((m : Nat) : Int))), (31, (Value.bool (decide ((0 < m) ∧ (ok = true)))))] L' ∧ Sat w_1 [cObj b_1 111 [bv, (Value.bool ok)], cObj b_2 92 [vw, vc, (Value.slice none 0 0)], cL vw 9 (encTx) (W), cL vc 3 (encN .i64) (C)] w') ?_ ?_
    · refine CW.region ?_
      refine RT.ev rfl rfl (Ev.move rfl) ?_
      refine RT.ev rfl rfl (Ev.gtrN (b := 0) rfl rfl) ?_
      refine RT.ev rfl rfl (Ev.move rfl) ?_
      by_cases hg_1 : 0 < m
      · refine RT.yes rfl rfl rfl (decide_eq_true hg_1) ?_
        refine RT.ev rfl rfl (Ev.fieldAddr fld111_1 rfl rfl) ?_
        refine RT.yes rfl rfl rfl (decide_eq_true hg_1) ?_
        refine RT.ev rfl rfl (Ev.load scal4 rfl (hs_8.cell (i := 0) (j := 1) rfl rfl)) ?_
        refine RT.ev rfl rfl (Ev.pickY rfl (decide_eq_true hg_1) rfl) ?_
        refine RT.nil ?_
        exact ⟨⟨rfl, rfl, rfl, rfl, rfl, rfl, congrArg some (congrArg Value.bool (by simp [hg_1])), trivial⟩, hs_8⟩
      · refine RT.no rfl rfl rfl (decide_eq_false hg_1) rfl ?_
        refine RT.no rfl rfl rfl (decide_eq_false hg_1) rfl ?_
        refine RT.ev rfl rfl (Ev.pickN rfl (decide_eq_false hg_1) rfl) ?_
        refine RT.nil ?_
        exact ⟨⟨rfl, rfl, rfl, rfl, rfl, rfl, congrArg some (congrArg Value.bool (by simp [hg_1])), trivial⟩, hs_8⟩
    · rintro L' w_7 ⟨hw_1, hs_9⟩
      refine CW.weaken _ hw_1 ?_
      refine CW.condD rfl (fun hc_1 => ?_) (fun hc_1 => ?_)
      · refine CW.skip ?_
        refine CW.seq ?_
        refine CW.block ?_
        refine CW.seq ?_
        refine CW.region ?_
        refine RT.ev rfl rfl (Ev.move rfl) ?_
        refine RT.ev rfl rfl (Ev.lenStr Try.underlying9 rfl) ?_
        have hA_2 : Sat w_1 ([cObj b_1 111 [bv, (Value.bool ok)]] ++ ([cObj b_2 92 [vw, vc, (Value.slice none 0 0)], cL vw 9 (encTx) (W), cL vc 3 (encN .i64) (C)] ++ [])) _ := (Sat.order [0, 1, 2, 3] (by decide) hs_9.tail).cut 1
        refine RT.eff rfl rfl (OpE.call ent85 rfl ((rnum_any _ _ _ _ _ ok bl p.size hA_2 hbv hbb hbl (by omega)).mono fun r_3 w_8 h_3 => ?_))
        obtain ⟨ax_2, hax_2, rfl, aok_2, abv_2, abl_2, hab_2, habb_2, habl_2, hp_3⟩ := h_3
        have hs_10 : Sat w_1 [cObj b_1 111 [abv_2, (Value.bool aok_2)], cObj b_2 92 [vw, vc, (Value.slice none 0 0)], cL vw 9 (encTx) (W), cL vc 3 (encN .i64) (C)] _ := (Sat.order [0, 1, 2, 3] (by decide) hp_3.join).untail
        refine RT.ev rfl rfl (Ev.assign rfl) ?_
        refine RT.nil ?_
        refine CW.seq ?_
        refine CW.draw (fun w' => Sat w_1 [cObj b_2 92 [vw, vc, (Value.slice none 0 0)], cL vw 9 (encTx) (W), cL vc 3 (encN .i64) (C)] w') (.free 0 (.free 1 (.free 2 (.one 3 (.one 4 (.free 5 (.free 6 .fin))))))) mixed (by kernel_rfl) ?_
        have hs_11 := hs_10.drew
        have hS_1 : Sat w_1 [cObj b_2 92 [vw, vc, (Value.slice none 0 0)], cL vw 9 (encTx) (W), cL vc 3 (encN .i64) (C)] _ := hs_11.sub ((.cons _ (.cons_cons _ (.cons_cons _ (.cons_cons _ .slnil)))))
        refine RP.ev rfl rfl rfl (fun w' hS' => Ev.move rfl) hS_1 ?_
        refine RP.ev rfl rfl rfl (fun w' hS' => Ev.move rfl) hS_1 ?_
        refine RP.ev rfl rfl rfl (fun w' hS' => Ev.sliceStr (l := 0) (h := ax_2) Try.underlying9 rfl rfl ⟨_, rfl⟩ (Nat.zero_le _) (by omega)) hS_1 ?_
        have hA_3 : Sat w_1 ([cObj b_1 111 [abv_2, (Value.bool aok_2)]] ++ ([cObj b_2 92 [vw, vc, (Value.slice none 0 0)], cL vw 9 (encTx) (W), cL vc 3 (encN .i64) (C)] ++ [])) _ := (Sat.order [0, 1, 2, 3] (by decide) hs_11.tail).cut 1
        refine RP.eff rfl rfl rfl (OpE.call ent85 rfl ((rnum_any _ _ _ _ _ aok_2 abl_2 120 hA_3 hab_2 habb_2 habl_2 (by omega)).mono fun r_4 w_9 h_4 => ?_))
        obtain ⟨ax_3, hax_3, rfl, aok_3, abv_3, abl_3, hab_3, habb_3, habl_3, hp_4⟩ := h_4
        have hs_12 : Sat w_1 [cObj b_1 111 [abv_3, (Value.bool aok_3)], cObj b_2 92 [vw, vc, (Value.slice none 0 0)], cL vw 9 (encTx) (W), cL vc 3 (encN .i64) (C)] _ := (Sat.order [0, 1, 2, 3] (by decide) hp_4.join).untail
        have hS_2 : Sat w_1 [cObj b_2 92 [vw, vc, (Value.slice none 0 0)], cL vw 9 (encTx) (W), cL vc 3 (encN .i64) (C)] _ := hs_12.sub ((.cons _ (.cons_cons _ (.cons_cons _ (.cons_cons _ .slnil)))))
        refine ⟨hS_2, ?_⟩
        have hA_4 : Sat w_1 ([cObj b_1 111 [abv_3, (Value.bool aok_3)]] ++ ([cObj b_2 92 [vw, vc, (Value.slice none 0 0)], cL vw 9 (encTx) (W), cL vc 3 (encN .i64) (C)] ++ [])) _ := (Sat.order [0, 1, 2, 3] (by decide) hs_12.tail).cut 1
        refine RP.eff rfl rfl rfl (OpE.call ent86 rfl ((rtext_any _ _ _ _ _ aok_3 abl_3 ax_3 hA_4 hab_3 habb_3 habl_3).mono fun r_5 w_10 h_5 => ?_))
        obtain ⟨ax_4, hax_4, rfl, aok_4, abv_4, abl_4, hab_4, habb_4, habl_4, hp_5⟩ := h_5
        have hs_13 : Sat w_1 [cObj b_1 111 [abv_4, (Value.bool aok_4)], cObj b_2 92 [vw, vc, (Value.slice none 0 0)], cL vw 9 (encTx) (W), cL vc 3 (encN .i64) (C)] _ := (Sat.order [0, 1, 2, 3] (by decide) hp_5.join).untail
        have hS_3 : Sat w_1 [cObj b_2 92 [vw, vc, (Value.slice none 0 0)], cL vw 9 (encTx) (W), cL vc 3 (encN .i64) (C)] _ := hs_13.sub ((.cons _ (.cons_cons _ (.cons_cons _ (.cons_cons _ .slnil)))))
        refine ⟨hS_3, ?_⟩
        refine RP.ev rfl rfl rfl (fun w' hS' => Ev.strAdd rfl rfl (by rw [ByteArray.size_extract]; omega)) hS_3 ?_
        refine RP.ev rfl rfl rfl (fun w' hS' => Ev.assign rfl) hS_3 ?_
        refine RP.fin ?_
        refine CW.seq ?_
        obtain ⟨x, hx⟩ : ∃ x, x = ((p.extract 0 ax_2) ++ ax_4) := ⟨_, rfl⟩
        have hxs : x.size ≤ 240 := by rw [hx, ByteArray.size_append, ByteArray.size_extract]; omega
        refine CW.weaken [(0, _), (6, _), (7, _), (8, _), (9, _), (10, _), (11, _), (12, (Value.string x)), (31, _), (34, _), (35, _), (36, _), (37, _), (38, _), (39, _), (40, _), (41, _), (42, _)] ⟨rfl, rfl, rfl, rfl, rfl, rfl, rfl, congrArg some (congrArg Value.string hx.symm), rfl, rfl, rfl, rfl, rfl, rfl, rfl, rfl, rfl, rfl, trivial⟩ ?_
        refine CW.region ?_
        have hA_5 : Sat w_1 ([cObj b_1 111 [abv_4, (Value.bool aok_4)]] ++ ([cObj b_2 92 [vw, vc, (Value.slice none 0 0)], cL vw 9 (encTx) (W), cL vc 3 (encN .i64) (C)] ++ [])) _ := (Sat.order [0, 1, 2, 3] (by decide) hs_13.tail).cut 1
        refine RT.eff rfl rfl (OpE.call ent85 rfl ((rnum_any _ _ _ _ _ aok_4 abl_4 4095 hA_5 hab_4 habb_4 habl_4 (by omega)).mono fun r_6 w_11 h_6 => ?_))
        obtain ⟨ax_5, hax_5, rfl, aok_5, abv_5, abl_5, hab_5, habb_5, habl_5, hp_6⟩ := h_6
        have hs_14 : Sat w_1 [cObj b_1 111 [abv_5, (Value.bool aok_5)], cObj b_2 92 [vw, vc, (Value.slice none 0 0)], cL vw 9 (encTx) (W), cL vc 3 (encN .i64) (C)] _ := (Sat.order [0, 1, 2, 3] (by decide) hp_6.join).untail
        refine RT.ev rfl rfl (Ev.addI (b := 1) rfl rfl (by omega)) ?_
        refine RT.ev rfl rfl (Ev.assign rfl) ?_
        refine RT.nil ?_
        refine CW.seq ?_
        refine CW.region ?_
        refine RT.ev rfl rfl (Ev.move rfl) ?_
        refine RT.ev rfl rfl (Ev.move rfl) ?_
        refine RT.ev rfl rfl (Ev.addI rfl rfl (by omega)) ?_
        refine RT.ev rfl rfl (Ev.assign rfl) ?_
        refine RT.nil ?_
        refine CW.seq ?_
        refine CW.seq ?_
        refine CW.mid (fun L' w' => Weak [(0, v), (6, (Value.pointer (some ⟨b_1, 0, none⟩))), (7, (Value.pointer (some ⟨b_2, 0, none⟩))), (8, (Value.string p)), (9, (Value.int .i64 (((z + (ax_5 + 1)) : Nat) : Int))), (10, (Value.int .i64 ((m : Nat) : Int))), (11, (Value.int .i64 ((ax_2 : Nat) : Int))), (12, (Value.string x)), (13, (Value.int .i64 (((ax_5 + 1) : Nat) : Int))), (31, (Value.bool (decide ((0 < m) ∧ (ok = true))))), (72, (Value.bool (decide (((((0 < W.length) ∧ (¬ SLt p x)) ∨ (120 < x.size)) ∨ ((!(validN x)) = true)) ∨ (4096 < (z + (ax_5 + 1)))))))] L' ∧ Sat w_1 [cObj b_1 111 [abv_5, (Value.bool aok_5)], cObj b_2 92 [vw, vc, (Value.slice none 0 0)], cL vw 9 (encTx) (W), cL vc 3 (encN .i64) (C)] w') ?_ ?_
        · refine CW.region ?_
          refine RT.ev rfl rfl (Ev.move rfl) ?_
          refine RT.ev rfl rfl (Ev.nilCheck rfl) ?_
          refine RT.ev rfl rfl (Ev.fieldAddr fld92_0 rfl rfl) ?_
          refine RT.ev rfl rfl (Ev.load scal45 rfl (hs_14.cell (i := 1) (j := 0) rfl rfl)) ?_
          refine RT.ev rfl rfl (Ev.lenL Try.underlying45 rfl (hs_14.rdL 2 rfl)) ?_
          refine RT.ev rfl rfl (Ev.gtrN (b := 0) rfl rfl) ?_
          refine RT.ev rfl rfl (Ev.move rfl) ?_
          by_cases hg_2 : 0 < W.length
          · refine RT.yes rfl rfl rfl (decide_eq_true hg_2) ?_
            refine RT.ev rfl rfl (Ev.move rfl) ?_
            refine RT.yes rfl rfl rfl (decide_eq_true hg_2) ?_
            refine RT.ev rfl rfl (Ev.move rfl) ?_
            refine RT.yes rfl rfl rfl (decide_eq_true hg_2) ?_
            refine RT.ev rfl rfl (Ev.strLeq rfl rfl) ?_
            refine RT.ev rfl rfl (Ev.pickY rfl (decide_eq_true hg_2) rfl) ?_
            refine RT.ev rfl rfl (Ev.move rfl) ?_
            by_cases hg_3 : ¬ SLt p x
            · refine RT.no rfl rfl rfl (decide_eq_true hg_3) rfl ?_
              refine RT.no rfl rfl rfl (decide_eq_true hg_3) rfl ?_
              refine RT.no rfl rfl rfl (decide_eq_true hg_3) rfl ?_
              refine RT.ev rfl rfl (Ev.pickY rfl (decide_eq_true hg_3) rfl) ?_
              refine RT.ev rfl rfl (Ev.move rfl) ?_
              refine RT.no rfl rfl rfl (rfl) rfl ?_
              refine RT.no rfl rfl rfl (rfl) rfl ?_
              refine RT.no rfl rfl rfl (rfl) rfl ?_
              refine RT.ev rfl rfl (Ev.pickY rfl (rfl) rfl) ?_
              refine RT.ev rfl rfl (Ev.move rfl) ?_
              refine RT.no rfl rfl rfl (rfl) rfl ?_
              refine RT.no rfl rfl rfl (rfl) rfl ?_
              refine RT.ev rfl rfl (Ev.pickY rfl (rfl) rfl) ?_
              refine RT.nil ?_
              exact ⟨⟨rfl, rfl, rfl, rfl, rfl, rfl, rfl, rfl, rfl, rfl, congrArg some (congrArg Value.bool (by simp [hg_2, hg_3])), trivial⟩, hs_14⟩
            · refine RT.yes rfl rfl rfl (decide_eq_false hg_3) ?_
              refine RT.ev rfl rfl (Ev.move rfl) ?_
              refine RT.yes rfl rfl rfl (decide_eq_false hg_3) ?_
              refine RT.ev rfl rfl (Ev.lenStr Try.underlying9 rfl) ?_
              refine RT.yes rfl rfl rfl (decide_eq_false hg_3) ?_
              refine RT.ev rfl rfl (Ev.gtrN (b := 120) rfl rfl) ?_
              refine RT.ev rfl rfl (Ev.pickN rfl (decide_eq_false hg_3) rfl) ?_
              refine RT.ev rfl rfl (Ev.move rfl) ?_
              by_cases hg_4 : 120 < x.size
              · refine RT.no rfl rfl rfl (decide_eq_true hg_4) rfl ?_
                refine RT.no rfl rfl rfl (decide_eq_true hg_4) rfl ?_
                refine RT.no rfl rfl rfl (decide_eq_true hg_4) rfl ?_
                refine RT.ev rfl rfl (Ev.pickY rfl (decide_eq_true hg_4) rfl) ?_
                refine RT.ev rfl rfl (Ev.move rfl) ?_
                refine RT.no rfl rfl rfl (rfl) rfl ?_
                refine RT.no rfl rfl rfl (rfl) rfl ?_
                refine RT.ev rfl rfl (Ev.pickY rfl (rfl) rfl) ?_
                refine RT.nil ?_
                exact ⟨⟨rfl, rfl, rfl, rfl, rfl, rfl, rfl, rfl, rfl, rfl, congrArg some (congrArg Value.bool (by simp [hg_2, hg_3, hg_4])), trivial⟩, hs_14⟩
              · refine RT.yes rfl rfl rfl (decide_eq_false hg_4) ?_
                refine RT.ev rfl rfl (Ev.move rfl) ?_
                refine RT.yes rfl rfl rfl (decide_eq_false hg_4) ?_
                refine RT.eff rfl rfl (OpE.call ent69 rfl ((valid_ok x _ (by omega)).mono fun r_7 w_12 h_7 => ?_))
                obtain ⟨rfl, hp_7⟩ := h_7
                have hs_15 : Sat w_1 [cObj b_1 111 [abv_5, (Value.bool aok_5)], cObj b_2 92 [vw, vc, (Value.slice none 0 0)], cL vw 9 (encTx) (W), cL vc 3 (encN .i64) (C)] _ := hs_14.adds hp_7
                refine RT.yes rfl rfl rfl (decide_eq_false hg_4) ?_
                refine RT.ev rfl rfl (Ev.notB rfl) ?_
                refine RT.ev rfl rfl (Ev.pickN rfl (decide_eq_false hg_4) rfl) ?_
                refine RT.ev rfl rfl (Ev.move rfl) ?_
                by_cases hg_5 : (!(validN x)) = true
                · refine RT.no rfl rfl rfl (hg_5) rfl ?_
                  refine RT.no rfl rfl rfl (hg_5) rfl ?_
                  refine RT.ev rfl rfl (Ev.pickY rfl (hg_5) rfl) ?_
                  refine RT.nil ?_
                  exact ⟨⟨rfl, rfl, rfl, rfl, rfl, rfl, rfl, rfl, rfl, rfl, congrArg some (congrArg Value.bool (by simp [hg_2, hg_3, hg_4, hg_5])), trivial⟩, hs_15⟩
                · refine RT.yes rfl rfl rfl (by simpa using hg_5) ?_
                  refine RT.ev rfl rfl (Ev.move rfl) ?_
                  refine RT.yes rfl rfl rfl (by simpa using hg_5) ?_
                  refine RT.ev rfl rfl (Ev.gtrN (b := 4096) rfl rfl) ?_
                  refine RT.ev rfl rfl (Ev.pickN rfl (by simpa using hg_5) rfl) ?_
                  refine RT.nil ?_
                  exact ⟨⟨rfl, rfl, rfl, rfl, rfl, rfl, rfl, rfl, rfl, rfl, congrArg some (congrArg Value.bool (by simp [hg_2, hg_3, hg_4, hg_5])), trivial⟩, hs_15⟩
          · refine RT.no rfl rfl rfl (decide_eq_false hg_2) rfl ?_
            refine RT.no rfl rfl rfl (decide_eq_false hg_2) rfl ?_
            refine RT.no rfl rfl rfl (decide_eq_false hg_2) rfl ?_
            refine RT.ev rfl rfl (Ev.pickN rfl (decide_eq_false hg_2) rfl) ?_
            refine RT.ev rfl rfl (Ev.move rfl) ?_
            refine RT.yes rfl rfl rfl (rfl) ?_
            refine RT.ev rfl rfl (Ev.move rfl) ?_
            refine RT.yes rfl rfl rfl (rfl) ?_
            refine RT.ev rfl rfl (Ev.lenStr Try.underlying9 rfl) ?_
            refine RT.yes rfl rfl rfl (rfl) ?_
            refine RT.ev rfl rfl (Ev.gtrN (b := 120) rfl rfl) ?_
            refine RT.ev rfl rfl (Ev.pickN rfl (rfl) rfl) ?_
            refine RT.ev rfl rfl (Ev.move rfl) ?_
            by_cases hg_6 : 120 < x.size
            · refine RT.no rfl rfl rfl (decide_eq_true hg_6) rfl ?_
              refine RT.no rfl rfl rfl (decide_eq_true hg_6) rfl ?_
              refine RT.no rfl rfl rfl (decide_eq_true hg_6) rfl ?_
              refine RT.ev rfl rfl (Ev.pickY rfl (decide_eq_true hg_6) rfl) ?_
              refine RT.ev rfl rfl (Ev.move rfl) ?_
              refine RT.no rfl rfl rfl (rfl) rfl ?_
              refine RT.no rfl rfl rfl (rfl) rfl ?_
              refine RT.ev rfl rfl (Ev.pickY rfl (rfl) rfl) ?_
              refine RT.nil ?_
              exact ⟨⟨rfl, rfl, rfl, rfl, rfl, rfl, rfl, rfl, rfl, rfl, congrArg some (congrArg Value.bool (by simp [hg_2, hg_6])), trivial⟩, hs_14⟩
            · refine RT.yes rfl rfl rfl (decide_eq_false hg_6) ?_
              refine RT.ev rfl rfl (Ev.move rfl) ?_
              refine RT.yes rfl rfl rfl (decide_eq_false hg_6) ?_
              refine RT.eff rfl rfl (OpE.call ent69 rfl ((valid_ok x _ (by omega)).mono fun r_8 w_13 h_8 => ?_))
              obtain ⟨rfl, hp_8⟩ := h_8
              have hs_16 : Sat w_1 [cObj b_1 111 [abv_5, (Value.bool aok_5)], cObj b_2 92 [vw, vc, (Value.slice none 0 0)], cL vw 9 (encTx) (W), cL vc 3 (encN .i64) (C)] _ := hs_14.adds hp_8
              refine RT.yes rfl rfl rfl (decide_eq_false hg_6) ?_
              refine RT.ev rfl rfl (Ev.notB rfl) ?_
              refine RT.ev rfl rfl (Ev.pickN rfl (decide_eq_false hg_6) rfl) ?_
              refine RT.ev rfl rfl (Ev.move rfl) ?_
              by_cases hg_7 : (!(validN x)) = true
              · refine RT.no rfl rfl rfl (hg_7) rfl ?_
                refine RT.no rfl rfl rfl (hg_7) rfl ?_
                refine RT.ev rfl rfl (Ev.pickY rfl (hg_7) rfl) ?_
                refine RT.nil ?_
                exact ⟨⟨rfl, rfl, rfl, rfl, rfl, rfl, rfl, rfl, rfl, rfl, congrArg some (congrArg Value.bool (by simp [hg_2, hg_6, hg_7])), trivial⟩, hs_16⟩
              · refine RT.yes rfl rfl rfl (by simpa using hg_7) ?_
                refine RT.ev rfl rfl (Ev.move rfl) ?_
                refine RT.yes rfl rfl rfl (by simpa using hg_7) ?_
                refine RT.ev rfl rfl (Ev.gtrN (b := 4096) rfl rfl) ?_
                refine RT.ev rfl rfl (Ev.pickN rfl (by simpa using hg_7) rfl) ?_
                refine RT.nil ?_
                exact ⟨⟨rfl, rfl, rfl, rfl, rfl, rfl, rfl, rfl, rfl, rfl, congrArg some (congrArg Value.bool (by simp [hg_2, hg_6, hg_7])), trivial⟩, hs_16⟩
        · rintro L' w_14 ⟨hw_2, hs_17⟩
          refine CW.weaken _ hw_2 ?_
          refine CW.condD rfl (fun hc_2 => ?_) (fun hc_2 => ?_)
          · refine CW.seq ?_
            refine CW.region ?_
            refine RT.ev rfl rfl (Ev.assign rfl) ?_
            refine RT.ev rfl rfl (Ev.assign rfl) ?_
            refine RT.nil ?_
            refine CW.ret ?_
            show PostK _ _ _ _ _ _
            refine post2 rfl rfl rfl ?_
            have hs_18 : Sat w_1 [] w_14 := hs_17.sub ((.cons _ (.cons _ (.cons _ (.cons _ .slnil)))))
            exact ⟨rfl, (hs_1.adds hs_18).sub (.cons _ .slnil)⟩
          · refine CW.skip ?_
            refine CW.seq ?_
            obtain ⟨hq1, hq2, hq3, hq4⟩ := dec_cond hc_2
            have hos := okW_snoc hok hpa hq1 hq3
            have hshp_1 := (hs_17.rdL (E := encTx) 2 rfl).shp (by decide)
            have hshp_2 := (hs_17.rdL (E := encN .i64) 3 rfl).shp (by decide)
            refine CW.draw2 (fun w' => Sat w_1 [cObj b_1 111 [abv_5, (Value.bool aok_5)], cObj b_2 92 [vw, vc, (Value.slice none 0 0)]] w') (fun w' => Sat w_1 [cObj b_1 111 [abv_5, (Value.bool aok_5)]] w') 18 (.free 0 (.loose 1 (.free 2 (.free 3 (.free 4 (.free 5 (.free 6 (.loose 9 (.loose 10 (.loose 11 (.free 12 (.loose 13 (.two 7 14 (.two 8 14 (.one 14 (.one 15 (.loose 16 (.free 17 (.bar 18 (.free 19 (.free 20 (.one 21 .fin)))))))) (.one 8 (.one 15 (.loose 16 (.free 17 (.bar 18 (.free 19 (.free 20 (.one 21 .fin))))))))) (.one 7 (.one 8 (.one 15 (.loose 16 (.free 17 (.bar 18 (.free 19 (.free 20 (.one 21 .fin)))))))))))))))))))))) (fun w' h => h.sub ((.cons_cons _ (.cons _ .slnil)))) mixed (by kernel_rfl) ?_
            have hs_19 := hs_17.drew
            have hS_4 : Sat w_1 [cObj b_1 111 [abv_5, (Value.bool aok_5)], cObj b_2 92 [vw, vc, (Value.slice none 0 0)]] _ := hs_19.sub ((.cons_cons _ (.cons_cons _ (.cons _ (.cons _ .slnil)))))
            refine RP.ev rfl rfl rfl (fun w' hS' => Ev.move rfl) hS_4 ?_
            refine RP.loose rfl rfl rfl (fun w' hS' => Ev.move rfl) hS_4 ?_
            refine RP.ev rfl rfl rfl (fun w' hS' => Ev.move rfl) hS_4 ?_
            refine RP.ev rfl rfl rfl (fun w' hS' => Ev.nilCheck rfl) hS_4 ?_
            refine RP.ev rfl rfl rfl (fun w' hS' => Ev.fieldAddr fld92_0 rfl rfl) hS_4 ?_
            refine RP.ev rfl rfl rfl (fun w' hS' => Ev.load scal45 rfl (hS'.cell (i := 1) (j := 0) rfl rfl)) hS_4 ?_
            refine RP.ev rfl rfl rfl (fun w' hS' => Ev.move rfl) hS_4 ?_
            refine RP.loose rfl rfl rfl (fun w' hS' => Ev.move rfl) hS_4 ?_
            refine RP.loose rfl rfl rfl (fun w' hS' => Ev.nilCheck rfl) hS_4 ?_
            refine RP.loose rfl rfl rfl (fun w' hS' => Ev.fieldAddr fld92_1 rfl rfl) hS_4 ?_
            refine RP.ev rfl rfl rfl (fun w' hS' => Ev.load scal22 rfl (hS'.cell (i := 1) (j := 1) rfl rfl)) hS_4 ?_
            refine RP.loose rfl rfl rfl (fun w' hS' => Ev.move rfl) hS_4 ?_
            refine RP.two rfl rfl rfl rfl rfl rfl (OpE.lit1 (encTx) x sl45 rfl hs_19 rfl fun v_1 w_15 hs_20 hch_4 => ?_) (OpE.lit1 (encN .i64) (ax_5 + 1) sl22 rfl hs_19 rfl fun v_2 w_16 hs_21 hch_5 => ?_)
            · have hs_20d : Sat w_1 [cObj b_1 111 [abv_5, (Value.bool aok_5)], cObj b_2 92 [vw, vc, (Value.slice none 0 0)], cL vw 9 (encTx) (W), cL vc 3 (encN .i64) (C), cL v_1 9 (encTx) ([x])] _ := hs_20
              have hS_5 : Sat w_1 [cObj b_1 111 [abv_5, (Value.bool aok_5)], cObj b_2 92 [vw, vc, (Value.slice none 0 0)]] _ := hs_20d.sub ((.cons_cons _ (.cons_cons _ (.cons _ (.cons _ (.cons _ .slnil))))))
              refine ⟨hS_5, ?_⟩
              refine RP.two rfl rfl rfl rfl rfl rfl (OpE.appendL 2 sl45 hs_20d rfl rfl rfl Try.underlying45 (hs_20d.rdL 4 rfl) (by simp only [List.length_cons, List.length_nil]; omega) (by simp only [List.length_cons, List.length_nil]; omega) fun v_3 w_17 hs_22 hch_6 => ?_) (OpE.lit1 (encN .i64) (ax_5 + 1) sl22 rfl hs_20d rfl fun v_4 w_18 hs_23 hch_7 => ?_)
              · have hs_22d : Sat w_1 [cObj b_1 111 [abv_5, (Value.bool aok_5)], cObj b_2 92 [vw, vc, (Value.slice none 0 0)], cL v_3 9 (encTx) (W ++ [x]), cL vc 3 (encN .i64) (C)] _ := hs_22.drop 4
                have hS_6 : Sat w_1 [cObj b_1 111 [abv_5, (Value.bool aok_5)], cObj b_2 92 [vw, vc, (Value.slice none 0 0)]] _ := hs_22d.sub ((.cons_cons _ (.cons_cons _ (.cons _ (.cons _ .slnil)))))
                refine ⟨hS_6, ?_⟩
                refine RP.eff rfl rfl rfl (OpE.lit1 (encN .i64) (ax_5 + 1) sl22 rfl hs_22d rfl fun v_5 w_19 hs_24 hch_8 => ?_)
                have hs_24d : Sat w_1 [cObj b_1 111 [abv_5, (Value.bool aok_5)], cObj b_2 92 [vw, vc, (Value.slice none 0 0)], cL v_3 9 (encTx) (W ++ [x]), cL vc 3 (encN .i64) (C), cL v_5 3 (encN .i64) ([(ax_5 + 1)])] _ := hs_24
                have hS_7 : Sat w_1 [cObj b_1 111 [abv_5, (Value.bool aok_5)], cObj b_2 92 [vw, vc, (Value.slice none 0 0)]] _ := hs_24d.sub ((.cons_cons _ (.cons_cons _ (.cons _ (.cons _ (.cons _ .slnil))))))
                refine ⟨hS_7, ?_⟩
                refine RP.eff rfl rfl rfl (OpE.appendL 3 sl22 hs_24d rfl rfl rfl Try.underlying22 (hs_24d.rdL 4 rfl) (by simp only [List.length_cons, List.length_nil]; omega) (by simp only [List.length_cons, List.length_nil]; omega) fun v_6 w_20 hs_25 hch_9 => ?_)
                have hs_25d : Sat w_1 [cObj b_1 111 [abv_5, (Value.bool aok_5)], cObj b_2 92 [vw, vc, (Value.slice none 0 0)], cL v_3 9 (encTx) (W ++ [x]), cL v_6 3 (encN .i64) (C ++ [(ax_5 + 1)])] _ := hs_25.drop 4
                have hS_8 : Sat w_1 [cObj b_1 111 [abv_5, (Value.bool aok_5)], cObj b_2 92 [vw, vc, (Value.slice none 0 0)]] _ := hs_25d.sub ((.cons_cons _ (.cons_cons _ (.cons _ (.cons _ .slnil)))))
                refine ⟨hS_8, ?_⟩
                refine RP.loose rfl rfl rfl (fun w' hS' => Ev.nilCheck rfl) hS_8 ?_
                refine RP.ev rfl rfl rfl (fun w' hS' => Ev.fieldAddr fld92_0 rfl rfl) hS_8 ?_
                refine RP.bar rfl rfl rfl (OpE.storeObj one45 hs_25d (i := 1) rfl rfl rfl ((hs_25d.rdL 2 rfl).oneCell) rfl fun w_21 hs_26 hch_10 => ?_)
                have hs_26d : Sat w_1 [cObj b_1 111 [abv_5, (Value.bool aok_5)], cObj b_2 92 [v_3, vc, (Value.slice none 0 0)], cL v_3 9 (encTx) (W ++ [x]), cL v_6 3 (encN .i64) (C ++ [(ax_5 + 1)])] _ := hs_26
                have hS_9 : Sat w_1 [cObj b_1 111 [abv_5, (Value.bool aok_5)]] _ := hs_26d.sub ((.cons_cons _ (.cons _ (.cons _ (.cons _ .slnil)))))
                refine ⟨hS_9, ?_⟩
                refine RP.ev rfl rfl rfl (fun w' hS' => Ev.nilCheck rfl) hS_9 ?_
                refine RP.ev rfl rfl rfl (fun w' hS' => Ev.fieldAddr fld92_1 rfl rfl) hS_9 ?_
                refine RP.eff rfl rfl rfl (OpE.storeObj one22 hs_26d (i := 1) rfl rfl rfl ((hs_26d.rdL 3 rfl).oneCell) rfl fun w_22 hs_27 hch_11 => ?_)
                have hs_27d : Sat w_1 [cObj b_1 111 [abv_5, (Value.bool aok_5)], cObj b_2 92 [v_3, v_6, (Value.slice none 0 0)], cL v_3 9 (encTx) (W ++ [x]), cL v_6 3 (encN .i64) (C ++ [(ax_5 + 1)])] _ := hs_27
                have hS_10 : Sat w_1 [cObj b_1 111 [abv_5, (Value.bool aok_5)]] _ := hs_27d.sub ((.cons_cons _ (.cons _ (.cons _ (.cons _ .slnil)))))
                refine ⟨hS_10, ?_⟩
                refine RP.fin ?_
                refine CW.region ?_
                refine RT.ev rfl rfl (Ev.move rfl) ?_
                refine RT.ev rfl rfl (Ev.assign rfl) ?_
                refine RT.nil ?_
                refine CW.region ?_
                refine RT.ev rfl rfl (Ev.move rfl) ?_
                refine RT.ev rfl rfl (Ev.subI (b := 1) rfl rfl (by omega) (by omega)) ?_
                refine RT.ev rfl rfl (Ev.assign rfl) ?_
                refine RT.nil ?_
                have hs_28 : Sat w_1 [cObj b_1 111 [abv_5, (Value.bool aok_5)], cObj b_2 92 [v_3, v_6, (Value.slice none 0 0)], cL v_3 9 (encTx) (W ++ [x]), cL v_6 3 (encN .i64) (C ++ [(ax_5 + 1)])] w_22 := hs_27d.sub ((.cons_cons _ (.cons_cons _ (.cons_cons _ (.cons_cons _ .slnil)))))
                exact ⟨(m - 1, aok_5, abv_5, abl_5, x, (z + (ax_5 + 1)), v_3, v_6, W ++ [x], C ++ [(ax_5 + 1)]), ⟨rfl, rfl, rfl, rfl, rfl, rfl, trivial⟩, ⟨hs_28, hab_5, habb_5, habl_5, by rw [List.length_append, List.length_singleton]; omega, hos.1, by rw [List.length_append, List.length_append, hCl]; rfl, all_snoc1 hsz (by omega), all_snoc1 hC (by omega), by rw [List.sum_append, hz]; simp, by omega, by omega, hos.2⟩, (show ((m - 1)) < (m) from by omega)⟩
              · have hs_23d : Sat w_1 [cObj b_1 111 [abv_5, (Value.bool aok_5)], cObj b_2 92 [vw, vc, (Value.slice none 0 0)], cL vw 9 (encTx) (W), cL vc 3 (encN .i64) (C), cL v_1 9 (encTx) ([x]), cL v_4 3 (encN .i64) ([(ax_5 + 1)])] _ := hs_23
                have hS_11 : Sat w_1 [cObj b_1 111 [abv_5, (Value.bool aok_5)], cObj b_2 92 [vw, vc, (Value.slice none 0 0)]] _ := hs_23d.sub ((.cons_cons _ (.cons_cons _ (.cons _ (.cons _ (.cons _ (.cons _ .slnil)))))))
                refine ⟨hS_11, ?_⟩
                refine RP.eff rfl rfl rfl (OpE.appendL 2 sl45 hs_23d rfl rfl rfl Try.underlying45 (hs_23d.rdL 4 rfl) (by simp only [List.length_cons, List.length_nil]; omega) (by simp only [List.length_cons, List.length_nil]; omega) fun v_7 w_23 hs_29 hch_12 => ?_)
                have hs_29d : Sat w_1 [cObj b_1 111 [abv_5, (Value.bool aok_5)], cObj b_2 92 [vw, vc, (Value.slice none 0 0)], cL v_7 9 (encTx) (W ++ [x]), cL vc 3 (encN .i64) (C), cL v_4 3 (encN .i64) ([(ax_5 + 1)])] _ := hs_29.drop 4
                have hS_12 : Sat w_1 [cObj b_1 111 [abv_5, (Value.bool aok_5)], cObj b_2 92 [vw, vc, (Value.slice none 0 0)]] _ := hs_29d.sub ((.cons_cons _ (.cons_cons _ (.cons _ (.cons _ (.cons _ .slnil))))))
                refine ⟨hS_12, ?_⟩
                refine RP.eff rfl rfl rfl (OpE.appendL 3 sl22 hs_29d rfl rfl rfl Try.underlying22 (hs_29d.rdL 4 rfl) (by simp only [List.length_cons, List.length_nil]; omega) (by simp only [List.length_cons, List.length_nil]; omega) fun v_8 w_24 hs_30 hch_13 => ?_)
                have hs_30d : Sat w_1 [cObj b_1 111 [abv_5, (Value.bool aok_5)], cObj b_2 92 [vw, vc, (Value.slice none 0 0)], cL v_7 9 (encTx) (W ++ [x]), cL v_8 3 (encN .i64) (C ++ [(ax_5 + 1)])] _ := hs_30.drop 4
                have hS_13 : Sat w_1 [cObj b_1 111 [abv_5, (Value.bool aok_5)], cObj b_2 92 [vw, vc, (Value.slice none 0 0)]] _ := hs_30d.sub ((.cons_cons _ (.cons_cons _ (.cons _ (.cons _ .slnil)))))
                refine ⟨hS_13, ?_⟩
                refine RP.loose rfl rfl rfl (fun w' hS' => Ev.nilCheck rfl) hS_13 ?_
                refine RP.ev rfl rfl rfl (fun w' hS' => Ev.fieldAddr fld92_0 rfl rfl) hS_13 ?_
                refine RP.bar rfl rfl rfl (OpE.storeObj one45 hs_30d (i := 1) rfl rfl rfl ((hs_30d.rdL 2 rfl).oneCell) rfl fun w_25 hs_31 hch_14 => ?_)
                have hs_31d : Sat w_1 [cObj b_1 111 [abv_5, (Value.bool aok_5)], cObj b_2 92 [v_7, vc, (Value.slice none 0 0)], cL v_7 9 (encTx) (W ++ [x]), cL v_8 3 (encN .i64) (C ++ [(ax_5 + 1)])] _ := hs_31
                have hS_14 : Sat w_1 [cObj b_1 111 [abv_5, (Value.bool aok_5)]] _ := hs_31d.sub ((.cons_cons _ (.cons _ (.cons _ (.cons _ .slnil)))))
                refine ⟨hS_14, ?_⟩
                refine RP.ev rfl rfl rfl (fun w' hS' => Ev.nilCheck rfl) hS_14 ?_
                refine RP.ev rfl rfl rfl (fun w' hS' => Ev.fieldAddr fld92_1 rfl rfl) hS_14 ?_
                refine RP.eff rfl rfl rfl (OpE.storeObj one22 hs_31d (i := 1) rfl rfl rfl ((hs_31d.rdL 3 rfl).oneCell) rfl fun w_26 hs_32 hch_15 => ?_)
                have hs_32d : Sat w_1 [cObj b_1 111 [abv_5, (Value.bool aok_5)], cObj b_2 92 [v_7, v_8, (Value.slice none 0 0)], cL v_7 9 (encTx) (W ++ [x]), cL v_8 3 (encN .i64) (C ++ [(ax_5 + 1)])] _ := hs_32
                have hS_15 : Sat w_1 [cObj b_1 111 [abv_5, (Value.bool aok_5)]] _ := hs_32d.sub ((.cons_cons _ (.cons _ (.cons _ (.cons _ .slnil)))))
                refine ⟨hS_15, ?_⟩
                refine RP.fin ?_
                refine CW.region ?_
                refine RT.ev rfl rfl (Ev.move rfl) ?_
                refine RT.ev rfl rfl (Ev.assign rfl) ?_
                refine RT.nil ?_
                refine CW.region ?_
                refine RT.ev rfl rfl (Ev.move rfl) ?_
                refine RT.ev rfl rfl (Ev.subI (b := 1) rfl rfl (by omega) (by omega)) ?_
                refine RT.ev rfl rfl (Ev.assign rfl) ?_
                refine RT.nil ?_
                have hs_33 : Sat w_1 [cObj b_1 111 [abv_5, (Value.bool aok_5)], cObj b_2 92 [v_7, v_8, (Value.slice none 0 0)], cL v_7 9 (encTx) (W ++ [x]), cL v_8 3 (encN .i64) (C ++ [(ax_5 + 1)])] w_26 := hs_32d.sub ((.cons_cons _ (.cons_cons _ (.cons_cons _ (.cons_cons _ .slnil)))))
                exact ⟨(m - 1, aok_5, abv_5, abl_5, x, (z + (ax_5 + 1)), v_7, v_8, W ++ [x], C ++ [(ax_5 + 1)]), ⟨rfl, rfl, rfl, rfl, rfl, rfl, trivial⟩, ⟨hs_33, hab_5, habb_5, habl_5, by rw [List.length_append, List.length_singleton]; omega, hos.1, by rw [List.length_append, List.length_append, hCl]; rfl, all_snoc1 hsz (by omega), all_snoc1 hC (by omega), by rw [List.sum_append, hz]; simp, by omega, by omega, hos.2⟩, (show ((m - 1)) < (m) from by omega)⟩
            · have hs_21d : Sat w_1 [cObj b_1 111 [abv_5, (Value.bool aok_5)], cObj b_2 92 [vw, vc, (Value.slice none 0 0)], cL vw 9 (encTx) (W), cL vc 3 (encN .i64) (C), cL v_2 3 (encN .i64) ([(ax_5 + 1)])] _ := hs_21
              have hS_16 : Sat w_1 [cObj b_1 111 [abv_5, (Value.bool aok_5)], cObj b_2 92 [vw, vc, (Value.slice none 0 0)]] _ := hs_21d.sub ((.cons_cons _ (.cons_cons _ (.cons _ (.cons _ (.cons _ .slnil))))))
              refine ⟨hS_16, ?_⟩
              refine RP.eff rfl rfl rfl (OpE.lit1 (encTx) x sl45 rfl hs_21d rfl fun v_9 w_27 hs_34 hch_16 => ?_)
              have hs_34d : Sat w_1 [cObj b_1 111 [abv_5, (Value.bool aok_5)], cObj b_2 92 [vw, vc, (Value.slice none 0 0)], cL vw 9 (encTx) (W), cL vc 3 (encN .i64) (C), cL v_2 3 (encN .i64) ([(ax_5 + 1)]), cL v_9 9 (encTx) ([x])] _ := hs_34
              have hS_17 : Sat w_1 [cObj b_1 111 [abv_5, (Value.bool aok_5)], cObj b_2 92 [vw, vc, (Value.slice none 0 0)]] _ := hs_34d.sub ((.cons_cons _ (.cons_cons _ (.cons _ (.cons _ (.cons _ (.cons _ .slnil)))))))
              refine ⟨hS_17, ?_⟩
              refine RP.eff rfl rfl rfl (OpE.appendL 2 sl45 hs_34d rfl rfl rfl Try.underlying45 (hs_34d.rdL 5 rfl) (by simp only [List.length_cons, List.length_nil]; omega) (by simp only [List.length_cons, List.length_nil]; omega) fun v_10 w_28 hs_35 hch_17 => ?_)
              have hs_35d : Sat w_1 [cObj b_1 111 [abv_5, (Value.bool aok_5)], cObj b_2 92 [vw, vc, (Value.slice none 0 0)], cL v_10 9 (encTx) (W ++ [x]), cL vc 3 (encN .i64) (C), cL v_2 3 (encN .i64) ([(ax_5 + 1)])] _ := hs_35.drop 5
              have hS_18 : Sat w_1 [cObj b_1 111 [abv_5, (Value.bool aok_5)], cObj b_2 92 [vw, vc, (Value.slice none 0 0)]] _ := hs_35d.sub ((.cons_cons _ (.cons_cons _ (.cons _ (.cons _ (.cons _ .slnil))))))
              refine ⟨hS_18, ?_⟩
              refine RP.eff rfl rfl rfl (OpE.appendL 3 sl22 hs_35d rfl rfl rfl Try.underlying22 (hs_35d.rdL 4 rfl) (by simp only [List.length_cons, List.length_nil]; omega) (by simp only [List.length_cons, List.length_nil]; omega) fun v_11 w_29 hs_36 hch_18 => ?_)
              have hs_36d : Sat w_1 [cObj b_1 111 [abv_5, (Value.bool aok_5)], cObj b_2 92 [vw, vc, (Value.slice none 0 0)], cL v_10 9 (encTx) (W ++ [x]), cL v_11 3 (encN .i64) (C ++ [(ax_5 + 1)])] _ := hs_36.drop 4
              have hS_19 : Sat w_1 [cObj b_1 111 [abv_5, (Value.bool aok_5)], cObj b_2 92 [vw, vc, (Value.slice none 0 0)]] _ := hs_36d.sub ((.cons_cons _ (.cons_cons _ (.cons _ (.cons _ .slnil)))))
              refine ⟨hS_19, ?_⟩
              refine RP.loose rfl rfl rfl (fun w' hS' => Ev.nilCheck rfl) hS_19 ?_
              refine RP.ev rfl rfl rfl (fun w' hS' => Ev.fieldAddr fld92_0 rfl rfl) hS_19 ?_
              refine RP.bar rfl rfl rfl (OpE.storeObj one45 hs_36d (i := 1) rfl rfl rfl ((hs_36d.rdL 2 rfl).oneCell) rfl fun w_30 hs_37 hch_19 => ?_)
              have hs_37d : Sat w_1 [cObj b_1 111 [abv_5, (Value.bool aok_5)], cObj b_2 92 [v_10, vc, (Value.slice none 0 0)], cL v_10 9 (encTx) (W ++ [x]), cL v_11 3 (encN .i64) (C ++ [(ax_5 + 1)])] _ := hs_37
              have hS_20 : Sat w_1 [cObj b_1 111 [abv_5, (Value.bool aok_5)]] _ := hs_37d.sub ((.cons_cons _ (.cons _ (.cons _ (.cons _ .slnil)))))
              refine ⟨hS_20, ?_⟩
              refine RP.ev rfl rfl rfl (fun w' hS' => Ev.nilCheck rfl) hS_20 ?_
              refine RP.ev rfl rfl rfl (fun w' hS' => Ev.fieldAddr fld92_1 rfl rfl) hS_20 ?_
              refine RP.eff rfl rfl rfl (OpE.storeObj one22 hs_37d (i := 1) rfl rfl rfl ((hs_37d.rdL 3 rfl).oneCell) rfl fun w_31 hs_38 hch_20 => ?_)
              have hs_38d : Sat w_1 [cObj b_1 111 [abv_5, (Value.bool aok_5)], cObj b_2 92 [v_10, v_11, (Value.slice none 0 0)], cL v_10 9 (encTx) (W ++ [x]), cL v_11 3 (encN .i64) (C ++ [(ax_5 + 1)])] _ := hs_38
              have hS_21 : Sat w_1 [cObj b_1 111 [abv_5, (Value.bool aok_5)]] _ := hs_38d.sub ((.cons_cons _ (.cons _ (.cons _ (.cons _ .slnil)))))
              refine ⟨hS_21, ?_⟩
              refine RP.fin ?_
              refine CW.region ?_
              refine RT.ev rfl rfl (Ev.move rfl) ?_
              refine RT.ev rfl rfl (Ev.assign rfl) ?_
              refine RT.nil ?_
              refine CW.region ?_
              refine RT.ev rfl rfl (Ev.move rfl) ?_
              refine RT.ev rfl rfl (Ev.subI (b := 1) rfl rfl (by omega) (by omega)) ?_
              refine RT.ev rfl rfl (Ev.assign rfl) ?_
              refine RT.nil ?_
              have hs_39 : Sat w_1 [cObj b_1 111 [abv_5, (Value.bool aok_5)], cObj b_2 92 [v_10, v_11, (Value.slice none 0 0)], cL v_10 9 (encTx) (W ++ [x]), cL v_11 3 (encN .i64) (C ++ [(ax_5 + 1)])] w_31 := hs_38d.sub ((.cons_cons _ (.cons_cons _ (.cons_cons _ (.cons_cons _ .slnil)))))
              exact ⟨(m - 1, aok_5, abv_5, abl_5, x, (z + (ax_5 + 1)), v_10, v_11, W ++ [x], C ++ [(ax_5 + 1)]), ⟨rfl, rfl, rfl, rfl, rfl, rfl, trivial⟩, ⟨hs_39, hab_5, habb_5, habl_5, by rw [List.length_append, List.length_singleton]; omega, hos.1, by rw [List.length_append, List.length_append, hCl]; rfl, all_snoc1 hsz (by omega), all_snoc1 hC (by omega), by rw [List.sum_append, hz]; simp, by omega, by omega, hos.2⟩, (show ((m - 1)) < (m) from by omega)⟩
      · refine CW.exit0 ?_
        refine CW.seq ?_
        refine CW.seq ?_
        have hs_40 : Sat w_1 [cObj b_1 111 [bv, (Value.bool ok)], cObj b_2 92 [vw, vc, (Value.slice none 0 0)], cL vw 9 (encTx) (W), cL vc 3 (encN .i64) (C), cL (Value.slice none 0 0) 3 (encN .i64) ([])] _ := hs_9.newNilL 3 (encN .i64)
        refine CW.mid (fun L' w' => Weak [(0, v), (6, (Value.pointer (some ⟨b_1, 0, none⟩))), (7, (Value.pointer (some ⟨b_2, 0, none⟩))), (8, (Value.string p)), (9, (Value.int .i64 ((z : Nat) : Int))), (10, (Value.int .i64 ((m : Nat) : Int))), (31, (Value.bool (decide ((0 < m) ∧ (ok = true))))), (103, (Value.bool (decide (((!ok) = true) ∨ (¬ ((sealN (encA W C W.length)) = b))))))] L' ∧ Sat w_1 [cObj b_1 111 [bv, (Value.bool ok)], cObj b_2 92 [vw, vc, (Value.slice none 0 0)], cL vw 9 (encTx) (W), cL vc 3 (encN .i64) (C), cL (Value.slice none 0 0) 3 (encN .i64) ([])] w') ?_ ?_
        · refine CW.region ?_
          refine RT.ev rfl rfl (Ev.fieldAddr fld111_1 rfl rfl) ?_
          refine RT.ev rfl rfl (Ev.load scal4 rfl (hs_40.cell (i := 0) (j := 1) rfl rfl)) ?_
          refine RT.ev rfl rfl (Ev.notB rfl) ?_
          refine RT.ev rfl rfl (Ev.move rfl) ?_
          by_cases hg_8 : (!ok) = true
          · refine RT.no rfl rfl rfl (hg_8) rfl ?_
            refine RT.no rfl rfl rfl (hg_8) rfl ?_
            refine RT.no rfl rfl rfl (hg_8) rfl ?_
            refine RT.no rfl rfl rfl (hg_8) rfl ?_
            refine RT.no rfl rfl rfl (hg_8) rfl ?_
            refine RT.ev rfl rfl (Ev.pickY rfl (hg_8) rfl) ?_
            refine RT.nil ?_
            exact ⟨⟨rfl, rfl, rfl, rfl, rfl, rfl, rfl, congrArg some (congrArg Value.bool (by simp [hg_8])), trivial⟩, hs_40⟩
          · refine RT.yes rfl rfl rfl (by simpa using hg_8) ?_
            refine RT.ev rfl rfl (Ev.move rfl) ?_
            refine RT.yes rfl rfl rfl (by simpa using hg_8) ?_
            refine RT.eff rfl rfl (OpE.call ent50 rfl ((lexEnc_ok _ _ _ _ _ _ _ _ (hs_40.lexAt 1 2 3 4 rfl rfl rfl rfl) hCl hsz (fun c hc => ⟨(hC c hc).1, by have := (hC c hc).2; omega⟩) (by omega)).mono fun r_9 w_32 h_9 => ?_))
            have hp_9 := h_9
            have hs_41 : Sat w_1 [cObj b_1 111 [bv, (Value.bool ok)], cObj b_2 92 [vw, vc, (Value.slice none 0 0)], cL vw 9 (encTx) (W), cL vc 3 (encN .i64) (C), cL (Value.slice none 0 0) 3 (encN .i64) ([]), cL r_9 5 (encN .u8) (sealN (encA W C W.length))] _ := hs_40.adds hp_9
            refine RT.yes rfl rfl rfl (by simpa using hg_8) ?_
            refine RT.ev rfl rfl (Ev.move rfl) ?_
            refine RT.yes rfl rfl rfl (by simpa using hg_8) ?_
            refine RT.eff rfl rfl (OpE.call ent65 rfl ((beq_ok _ _ (sealN (encA W C W.length)) (b) _ (hs_41.rdL 5 rfl) (hv1.ext hs_41.ext) (seal_lt (encA_lt W C _)) (hb)).mono fun r_10 w_33 h_10 => ?_))
            obtain ⟨rfl, hp_10⟩ := h_10
            have hs_42 : Sat w_1 [cObj b_1 111 [bv, (Value.bool ok)], cObj b_2 92 [vw, vc, (Value.slice none 0 0)], cL vw 9 (encTx) (W), cL vc 3 (encN .i64) (C), cL (Value.slice none 0 0) 3 (encN .i64) ([]), cL r_9 5 (encN .u8) (sealN (encA W C W.length))] _ := hs_41.adds hp_10
            refine RT.yes rfl rfl rfl (by simpa using hg_8) ?_
            refine RT.ev rfl rfl (Ev.notP rfl) ?_
            refine RT.ev rfl rfl (Ev.pickN rfl (by simpa using hg_8) rfl) ?_
            refine RT.nil ?_
            exact ⟨⟨rfl, rfl, rfl, rfl, rfl, rfl, rfl, congrArg some (congrArg Value.bool (by simp [hg_8])), trivial⟩, hs_42.sub ((.cons_cons _ (.cons_cons _ (.cons_cons _ (.cons_cons _ (.cons_cons _ (.cons _ .slnil)))))))⟩
        · rintro L' w_34 ⟨hw_3, hs_43⟩
          refine CW.weaken _ hw_3 ?_
          refine CW.condD rfl (fun hc_3 => ?_) (fun hc_3 => ?_)
          · refine CW.seq ?_
            refine CW.region ?_
            refine RT.ev rfl rfl (Ev.assign rfl) ?_
            refine RT.ev rfl rfl (Ev.assign rfl) ?_
            refine RT.nil ?_
            refine CW.ret ?_
            show PostK _ _ _ _ _ _
            refine post2 rfl rfl rfl ?_
            have hs_44 : Sat w_1 [] w_34 := hs_43.sub ((.cons _ (.cons _ (.cons _ (.cons _ (.cons _ .slnil))))))
            exact ⟨rfl, (hs_1.adds hs_44).sub (.cons _ .slnil)⟩
          · refine CW.skip ?_
            refine CW.seq ?_
            exact absurd ⟨W, C, ⟨hok, hCl, hsz, hC, by omega, by omega⟩, (dec_end hc_3).symm⟩ hno
  · refine CW.region ?_
    refine RT.ev rfl rfl (Ev.move rfl) ?_
    refine RT.eff rfl rfl (OpE.call ent63 rfl ((unseal_no (hv.ext hs0.ext) hb (by omega) hun).mono fun r_11 w_35 h_11 => ?_))
    obtain ⟨ue_1, hue_1, rfl, hp_11⟩ := h_11
    have hs_45 : Sat w [] _ := hs0.adds hp_11
    refine RT.ev rfl rfl (Ev.move rfl) ?_
    refine RT.ev rfl rfl (Ev.extract rfl rfl) ?_
    refine RT.ev rfl rfl (Ev.extract rfl rfl) ?_
    refine RT.ev rfl rfl (Ev.assign rfl) ?_
    refine RT.ev rfl rfl (Ev.assign rfl) ?_
    refine RT.nil ?_
    refine CW.seq ?_
    refine CW.seq ?_
    refine CW.region ?_
    refine RT.ev rfl rfl (Ev.move rfl) ?_
    refine RT.ev rfl rfl (Ev.neq rfl rfl) ?_
    refine RT.nil ?_
    refine CW.condT rfl (decide_eq_true hue_1) ?_
    refine CW.seq ?_
    refine CW.region ?_
    refine RT.ev rfl rfl (Ev.assign rfl) ?_
    refine RT.ev rfl rfl (Ev.assign rfl) ?_
    refine RT.nil ?_
    refine CW.ret ?_
    show PostK _ _ _ _ _ _
    refine post2 rfl rfl rfl ?_
    have hs_46 : Sat w [] w_35 := hs_45.sub (.slnil)
    exact ⟨rfl, hs_46⟩

end Go.Proofs.Ytfhbflhnelbkfaa
