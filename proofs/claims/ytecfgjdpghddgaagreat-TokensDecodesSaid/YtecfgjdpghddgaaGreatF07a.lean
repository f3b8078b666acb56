/- The walks of the functions of F07a, printed by our own program (kwgen.py) out of our descriptions (base.py). -/
import Derived.Test.YtecfgjdpghddgaaGreatF16t
import Derived.Test.YtecfgjdpghddgaaGreatM02v
import Derived.Test.YtecfgjdpghddgaaGreatTab
set_option linter.unusedVariables false
set_option linter.unusedSimpArgs false
set_option linter.unusedSectionVars false
namespace Go.Proofs.YtecfgjdpghddgaaGreat
open Go.RowKit Go.Kw
set_option maxRecDepth 100000
theorem unseal_any (v : Value) (b : List Nat) (w : World) (hv : RdL w v (encN .u8) b) (hb : ∀ x ∈ b, x < 256) (hn : b.length ≤ 1000000000) :
    CallsV Tryz.prog 18 [v] w fun r w' => (∃ e : Int, e ≠ 0 ∧ r = .tuple #[.slice none 0 0, .int .i64 e] ∧ Sat w [] w') ∨ ∃ v' p, b = sealN p ∧ r = .tuple #[v', .int .i64 ((0 : Nat) : Int)] ∧ Sat w [cL v' 5 (encN .u8) p] w' := by
  have hs0 := Sat.start w
  refine callsV_of Tryz.func18 rfl rfl ?_
  refine .seq <| .region <| .s rfl rfl <| .s rfl rfl <| .nil <| .seq <| .seq <| .region <| .m rfl rfl <| .e rfl (.lenL Tryz.underlying22 rfl (hv.ext hs0.ext)) <| .e rfl (.lssN (b := 4) rfl rfl) <| .nil <| .condD rfl (fun hc_1 => ?_) (fun hc_1 => ?_)
  · refine .seq <| .region <| .s rfl rfl <| .s rfl rfl <| .nil <| .ret ?_
    show PostK _ _ _ _ _ _
    refine post2 rfl rfl rfl ?_
    have hs_1 : Sat w [] w := hs0.sub (.slnil)
    exact .inl ⟨_, by decide, rfl, hs_1⟩
  · refine .skip <| .seq <| .region <| .m rfl rfl <| .e rfl (.lenL Tryz.underlying22 rfl (hv.ext hs0.ext)) <| .e rfl (.subI (b := 4) rfl rfl (by omega) (by omega)) <| .s rfl rfl <| .nil <| .seq <| .seq <| .draw (fun w' => Sat w [] w') (.free 0 (.free 1 (.free 2 (.free 5 (.free 6 (.free 7 (.two 3 8 (.two 4 8 (.one 8 (.free 9 (.free 10 .fin))) (.free 9 (.one 4 (.free 10 .fin)))) (.free 9 (.one 3 (.one 4 (.free 10 .fin))))))))))) mixed (by kernel_rfl) ?_
    have hs_2 := hs0.drew
    refine .m rfl rfl hs_2 <| .m rfl rfl hs_2 <| .e rfl (fun w' hS' => .sliceL (E := encN .u8) (a := 0) (c := (b.length - 4)) sl22 rfl (hv.ext hS'.ext) rfl ⟨_, rfl⟩ (Nat.zero_le _) (by omega)) hs_2 <| .m rfl rfl hs_2 <| .m rfl rfl hs_2 <| .e rfl (fun w' hS' => .sliceL (E := encN .u8) (a := (b.length - 4)) (c := (b).length) sl22 rfl (hv.ext hS'.ext) ⟨_, rfl⟩ rfl (by omega) (Nat.le_refl _)) hs_2 <| .two rfl rfl rfl rfl rfl rfl (OpE.call ent42 rfl ((sum_ok _ (((b).take (b.length - 4)).drop 0) _ (((hv.ext hs_2.ext)).sub (a := 0) (b := (b.length - 4)) (Nat.zero_le _) (by omega)) (fun x hx => hb x (List.mem_of_mem_take (List.mem_of_mem_drop hx))) (by simp; omega)).mono fun r_1 w_1 h_1 => ?_)) (OpE.ev (Ev.toArr (E := encN .u8) Tryz.underlying81 rfl (((hv.ext hs_2.ext)).sub (a := (b.length - 4)) (b := (b).length) (by omega) (Nat.le_refl _)) (by simp; omega)) ⟨hs_2, ?_⟩)
    · obtain ⟨rfl, hp_1⟩ := h_1
      have hs_3 := hs_2.adds hp_1
      have hS_1 : Sat w [] _ := hs_3.sub (.slnil)
      refine ⟨hS_1, ?_⟩
      refine .two rfl rfl rfl rfl rfl rfl (OpE.call ent41 rfl ((bytesOf_ok ((sumN (((b).take (b.length - 4)).drop 0))) _ (sumN_lt (fun x hx => hb x (List.mem_of_mem_take (List.mem_of_mem_drop hx))))).mono fun r_2 w_2 h_2 => ?_)) (OpE.ev (Ev.toArr (E := encN .u8) Tryz.underlying81 rfl (((hv.ext hs_3.ext)).sub (a := (b.length - 4)) (b := (b).length) (by omega) (Nat.le_refl _)) (by simp; omega)) ⟨hS_1, ?_⟩)
      · obtain ⟨rfl, hp_2⟩ := h_2
        have hs_4 := hs_3.adds hp_2
        have hS_2 : Sat w [] _ := hs_4.sub (.slnil)
        refine ⟨hS_2, ?_⟩
        refine .f rfl (.ev (Ev.toArr (E := encN .u8) Tryz.underlying81 rfl (((hv.ext hs_4.ext)).sub (a := (b.length - 4)) (b := (b).length) (by omega) (Nat.le_refl _)) (by simp; omega)) ⟨hS_2, ?_⟩)
        refine .e rfl (fun w' hS' => .ldArr (E := encN .u8) agg81 rfl (((hv.ext hS'.ext)).sub (a := (b.length - 4)) (b := (b).length) (by omega) (Nat.le_refl _)) (by show _ * 1 = _; simp; omega) (by decide)) hS_2 <| .e rfl (fun w' hS' => .neqArr4 arr4_81 (rfl) (by simp; omega) rfl rfl) hS_2 <| .fin <| .condD rfl (fun hc_2 => ?_) (fun hc_2 => ?_)
        · refine .seq <| .region <| .s rfl rfl <| .s rfl rfl <| .nil <| .ret ?_
          show PostK _ _ _ _ _ _
          refine post2 rfl rfl rfl ?_
          have hs_5 : Sat w [] w_2 := hs_4.sub (.slnil)
          exact .inl ⟨_, by decide, rfl, hs_5⟩
        · refine .skip <| .seq <| .region <| .f rfl (.lit0 (encN .u8) sl22 hs_4 fun v_1 w_3 hs_6 hch_1 => ?_)
          refine .m rfl rfl <| .m rfl rfl <| .e rfl (.sliceL (E := encN .u8) (a := 0) (c := (b.length - 4)) sl22 rfl (hv.ext hs_6.ext) rfl ⟨_, rfl⟩ (Nat.zero_le _) (by omega)) <| .f rfl (.appendL 0 sl22 hs_6 rfl rfl rfl Tryz.underlying22 (((hv.ext hs_6.ext)).sub (a := 0) (b := (b.length - 4)) (Nat.zero_le _) (by omega)) (by simp; omega) (by simp; omega) fun v_2 w_4 hs_7 hch_2 => ?_)
          refine .s rfl rfl <| .s rfl rfl <| .nil <| .ret ?_
          show PostK _ _ _ _ _ _
          refine post2 rfl rfl rfl ?_
          have hs_8 : Sat w [_] w_4 := hs_7.sub ((.cons_cons _ .slnil))
          have hs_9 : Sat w [cL v_2 5 (encN .u8) (b.take (b.length - 4))] w_4 := by
            have hq : ((b).take (b.length - 4)).drop 0 = b.take (b.length - 4) := by simp
            rw [← hq]; exact hs_8
          have hq : b = sealN (b.take (b.length - 4)) := by
            have h9 := Decidable.not_not.1 hc_2
            rw [List.drop_zero, List.take_length] at h9
            unfold sealN
            rw [h9, List.take_append_drop]
          exact .inr ⟨_, _, hq, rfl, hs_9⟩
      · refine .e rfl (fun w' hS' => .ldArr (E := encN .u8) agg81 rfl (((hv.ext hS'.ext)).sub (a := (b.length - 4)) (b := (b).length) (by omega) (Nat.le_refl _)) (by show _ * 1 = _; simp; omega) (by decide)) hS_1 <| .f rfl (.call ent41 rfl ((bytesOf_ok ((sumN (((b).take (b.length - 4)).drop 0))) _ (sumN_lt (fun x hx => hb x (List.mem_of_mem_take (List.mem_of_mem_drop hx))))).mono fun r_3 w_5 h_3 => ?_))
        obtain ⟨rfl, hp_3⟩ := h_3
        have hs_10 := hs_3.adds hp_3
        have hS_3 : Sat w [] _ := hs_10.sub (.slnil)
        refine ⟨hS_3, ?_⟩
        refine .e rfl (fun w' hS' => .neqArr4 arr4_81 (rfl) (by simp; omega) rfl rfl) hS_3 <| .fin <| .condD rfl (fun hc_3 => ?_) (fun hc_3 => ?_)
        · refine .seq <| .region <| .s rfl rfl <| .s rfl rfl <| .nil <| .ret ?_
          show PostK _ _ _ _ _ _
          refine post2 rfl rfl rfl ?_
          have hs_11 : Sat w [] w_5 := hs_10.sub (.slnil)
          exact .inl ⟨_, by decide, rfl, hs_11⟩
        · refine .skip <| .seq <| .region <| .f rfl (.lit0 (encN .u8) sl22 hs_10 fun v_3 w_6 hs_12 hch_3 => ?_)
          refine .m rfl rfl <| .m rfl rfl <| .e rfl (.sliceL (E := encN .u8) (a := 0) (c := (b.length - 4)) sl22 rfl (hv.ext hs_12.ext) rfl ⟨_, rfl⟩ (Nat.zero_le _) (by omega)) <| .f rfl (.appendL 0 sl22 hs_12 rfl rfl rfl Tryz.underlying22 (((hv.ext hs_12.ext)).sub (a := 0) (b := (b.length - 4)) (Nat.zero_le _) (by omega)) (by simp; omega) (by simp; omega) fun v_4 w_7 hs_13 hch_4 => ?_)
          refine .s rfl rfl <| .s rfl rfl <| .nil <| .ret ?_
          show PostK _ _ _ _ _ _
          refine post2 rfl rfl rfl ?_
          have hs_14 : Sat w [_] w_7 := hs_13.sub ((.cons_cons _ .slnil))
          have hs_15 : Sat w [cL v_4 5 (encN .u8) (b.take (b.length - 4))] w_7 := by
            have hq : ((b).take (b.length - 4)).drop 0 = b.take (b.length - 4) := by simp
            rw [← hq]; exact hs_14
          have hq : b = sealN (b.take (b.length - 4)) := by
            have h9 := Decidable.not_not.1 hc_3
            rw [List.drop_zero, List.take_length] at h9
            unfold sealN
            rw [h9, List.take_append_drop]
          exact .inr ⟨_, _, hq, rfl, hs_15⟩
    · refine .e rfl (fun w' hS' => .ldArr (E := encN .u8) agg81 rfl (((hv.ext hS'.ext)).sub (a := (b.length - 4)) (b := (b).length) (by omega) (Nat.le_refl _)) (by show _ * 1 = _; simp; omega) (by decide)) hs_2 <| .f rfl (.call ent42 rfl ((sum_ok _ (((b).take (b.length - 4)).drop 0) _ (((hv.ext hs_2.ext)).sub (a := 0) (b := (b.length - 4)) (Nat.zero_le _) (by omega)) (fun x hx => hb x (List.mem_of_mem_take (List.mem_of_mem_drop hx))) (by simp; omega)).mono fun r_4 w_8 h_4 => ?_))
      obtain ⟨rfl, hp_4⟩ := h_4
      have hs_16 := hs_2.adds hp_4
      have hS_4 : Sat w [] _ := hs_16.sub (.slnil)
      refine ⟨hS_4, ?_⟩
      refine .f rfl (.call ent41 rfl ((bytesOf_ok ((sumN (((b).take (b.length - 4)).drop 0))) _ (sumN_lt (fun x hx => hb x (List.mem_of_mem_take (List.mem_of_mem_drop hx))))).mono fun r_5 w_9 h_5 => ?_))
      obtain ⟨rfl, hp_5⟩ := h_5
      have hs_17 := hs_16.adds hp_5
      have hS_5 : Sat w [] _ := hs_17.sub (.slnil)
      refine ⟨hS_5, ?_⟩
      refine .e rfl (fun w' hS' => .neqArr4 arr4_81 (rfl) (by simp; omega) rfl rfl) hS_5 <| .fin <| .condD rfl (fun hc_4 => ?_) (fun hc_4 => ?_)
      · refine .seq <| .region <| .s rfl rfl <| .s rfl rfl <| .nil <| .ret ?_
        show PostK _ _ _ _ _ _
        refine post2 rfl rfl rfl ?_
        have hs_18 : Sat w [] w_9 := hs_17.sub (.slnil)
        exact .inl ⟨_, by decide, rfl, hs_18⟩
      · refine .skip <| .seq <| .region <| .f rfl (.lit0 (encN .u8) sl22 hs_17 fun v_5 w_10 hs_19 hch_5 => ?_)
        refine .m rfl rfl <| .m rfl rfl <| .e rfl (.sliceL (E := encN .u8) (a := 0) (c := (b.length - 4)) sl22 rfl (hv.ext hs_19.ext) rfl ⟨_, rfl⟩ (Nat.zero_le _) (by omega)) <| .f rfl (.appendL 0 sl22 hs_19 rfl rfl rfl Tryz.underlying22 (((hv.ext hs_19.ext)).sub (a := 0) (b := (b.length - 4)) (Nat.zero_le _) (by omega)) (by simp; omega) (by simp; omega) fun v_6 w_11 hs_20 hch_6 => ?_)
        refine .s rfl rfl <| .s rfl rfl <| .nil <| .ret ?_
        show PostK _ _ _ _ _ _
        refine post2 rfl rfl rfl ?_
        have hs_21 : Sat w [_] w_11 := hs_20.sub ((.cons_cons _ .slnil))
        have hs_22 : Sat w [cL v_6 5 (encN .u8) (b.take (b.length - 4))] w_11 := by
          have hq : ((b).take (b.length - 4)).drop 0 = b.take (b.length - 4) := by simp
          rw [← hq]; exact hs_21
        have hq : b = sealN (b.take (b.length - 4)) := by
          have h9 := Decidable.not_not.1 hc_4
          rw [List.drop_zero, List.take_length] at h9
          unfold sealN
          rw [h9, List.take_append_drop]
        exact .inr ⟨_, _, hq, rfl, hs_22⟩
theorem unseal_no {v : Value} {b : List Nat} {w : World} (hv : RdL w v (encN .u8) b) (hb : ∀ x ∈ b, x < 256) (hn : b.length ≤ 1000000000) (h : ¬ ∃ p, b = sealN p) : CallsV Tryz.prog 18 [v] w fun r w' => ∃ e : Int, e ≠ 0 ∧ r = .tuple #[.slice none 0 0, .int .i64 e] ∧ Sat w [] w' :=
  (unseal_any v b w hv hb hn).mono fun r w' hq => by rcases hq with h1 | ⟨_, p, hp, _⟩; exact h1; exact absurd ⟨p, hp⟩ h
theorem newReader_no (v : Value) (l : List Nat) (m : Nat) (w : World) (hv : RdL w v (encN .u8) l) (hm : 8 * l.length < m) (hn : l.length ≤ 1000000000) :
    CallsV Tryz.prog 74 [v, (.int .i64 m)] w fun r w' => r = .tuple #[.pointer none, .int .i64 ((1 : Nat) : Int)] ∧ Sat w [] w' := by
  have hs0 := Sat.start w
  refine callsV_of Tryz.func74 rfl rfl ?_
  refine .seq <| .region <| .s rfl rfl <| .s rfl rfl <| .nil <| .seq <| .seq <| .mid (fun L' w' => Weak [(0, v), (1, (.int .i64 m)), (4, (.pointer none)), (5, (.int .i64 (0 : Nat))), (14, (.bool (decide ((m < 0) ∨ ((8 * l.length) < m)))))] L' ∧ Sat w [] w') ?_ ?_
  · refine .region <| .m rfl rfl <| .e rfl (.lssN (b := 0) rfl rfl) <| .m rfl rfl ?_
    by_cases hg_1 : m < 0
    · refine .no rfl rfl rfl (decide_eq_true hg_1) rfl <| .no rfl rfl rfl (decide_eq_true hg_1) rfl <| .no rfl rfl rfl (decide_eq_true hg_1) rfl <| .no rfl rfl rfl (decide_eq_true hg_1) rfl <| .no rfl rfl rfl (decide_eq_true hg_1) rfl <| .e rfl (.pickY rfl (decide_eq_true hg_1) rfl) <| .nil ?_
      exact ⟨⟨rfl, rfl, rfl, rfl, congrArg some (congrArg Value.bool (by simp [hg_1])), trivial⟩, hs0⟩
    · refine .yes rfl rfl rfl (decide_eq_false hg_1) <| .m rfl rfl <| .yes rfl rfl rfl (decide_eq_false hg_1) <| .m rfl rfl <| .yes rfl rfl rfl (decide_eq_false hg_1) <| .e rfl (.lenL Tryz.underlying22 rfl (hv.ext hs0.ext)) <| .yes rfl rfl rfl (decide_eq_false hg_1) <| .e rfl (.mulI (a := 8) rfl rfl (by omega)) <| .yes rfl rfl rfl (decide_eq_false hg_1) <| .e rfl (.gtrN rfl rfl) <| .e rfl (.pickN rfl (decide_eq_false hg_1) rfl) <| .nil ?_
      exact ⟨⟨rfl, rfl, rfl, rfl, congrArg some (congrArg Value.bool (by simp [hg_1])), trivial⟩, hs0⟩
  · rintro L' w_1 ⟨hw_1, hs_1⟩
    refine .weaken _ hw_1 <| .condT rfl (decide_eq_true (by omega)) <| .seq <| .region <| .s rfl rfl <| .s rfl rfl <| .nil <| .ret ?_
    show PostK _ _ _ _ _ _
    refine post2 rfl rfl rfl ?_
    exact ⟨rfl, hs_1⟩
theorem hdecode_bad (v u : Value) (l b : List Nat) (bits count : Nat) (w : World) (hv : RdL w v (encN .i64) l) (hu : RdL w u (encN .u8) b) (hn : l.length ≤ 1024) (hbl : b.length ≤ 1000000) (hcount : count ≤ 4096) (hbad : validB l = false ∨ 8 * b.length < bits) :
    CallsV Tryz.prog 46 [v, u, (.int .i64 bits), (.int .i64 count)] w fun r w' => r = .tuple #[.slice none 0 0, .int .i64 ((1 : Nat) : Int)] ∧ Sat w [] w' := by
  have hs0 := Sat.start w
  refine callsV_of Tryz.func46 rfl rfl ?_
  refine .seq <| .region <| .s rfl rfl <| .s rfl rfl <| .nil <| .seq <| .seq ?_
  rcases (show validB l = false ∨ (validB l = true ∧ 8 * b.length < bits) from by rcases hbad with h | h; exact .inl h; exact (Bool.eq_false_or_eq_true (validB l)).elim (fun h9 => .inr ⟨h9, h⟩) .inl) with hval | ⟨hval, h8⟩
  · refine .region <| .m rfl rfl <| .f rfl (.call ent73 rfl ((valid_ok _ (l) _ (hv.ext hs0.ext) (hn)).mono fun r_1 w_1 h_1 => ?_))
    obtain ⟨rfl, hp_1⟩ := h_1
    have hs_1 := hs0.adds hp_1
    refine .e rfl (.notB rfl) <| .m rfl rfl <| .no rfl rfl rfl (by simp [hval]) rfl <| .no rfl rfl rfl (by simp [hval]) rfl <| .e rfl (.pickY rfl (by simp [hval]) rfl) <| .m rfl rfl <| .no rfl rfl rfl (rfl) rfl <| .no rfl rfl rfl (rfl) rfl <| .e rfl (.pickY rfl (rfl) rfl) <| .nil <| .condT rfl (rfl) <| .seq <| .region <| .s rfl rfl <| .s rfl rfl <| .nil <| .ret ?_
    show PostK _ _ _ _ _ _
    refine post2 rfl rfl rfl ?_
    exact ⟨rfl, hs_1⟩
  · refine .region <| .m rfl rfl <| .f rfl (.call ent73 rfl ((valid_ok _ (l) _ (hv.ext hs0.ext) (hn)).mono fun r_2 w_2 h_2 => ?_))
    obtain ⟨rfl, hp_2⟩ := h_2
    have hs_2 := hs0.adds hp_2
    refine .e rfl (.notB rfl) <| .m rfl rfl <| .yes rfl rfl rfl (by simp [hval]) <| .m rfl rfl <| .yes rfl rfl rfl (by simp [hval]) <| .e rfl (.lssN (b := 0) rfl rfl) <| .e rfl (.pickN rfl (by simp [hval]) rfl) <| .m rfl rfl <| .yes rfl rfl rfl (decide_eq_false (by omega)) <| .m rfl rfl <| .yes rfl rfl rfl (decide_eq_false (by omega)) <| .e rfl (.gtrN (b := 4096) rfl rfl) <| .e rfl (.pickN rfl (decide_eq_false (by omega)) rfl) <| .nil <| .condF rfl (decide_eq_false (by omega)) <| .skip <| .seq <| .region <| .m rfl rfl <| .m rfl rfl <| .f rfl (.call ent74 rfl ((newReader_no _ (b) (bits) _ (hu.ext hs_2.ext) h8 (by omega)).mono fun r_3 w_3 h_3 => ?_))
    obtain ⟨rfl, hp_3⟩ := h_3
    have hs_3 : Sat w [] _ := hs_2.adds hp_3
    refine .m rfl rfl <| .e rfl (.extract rfl rfl) <| .e rfl (.extract rfl rfl) <| .s rfl rfl <| .s rfl rfl <| .nil <| .seq <| .seq <| .region <| .m rfl rfl <| .e rfl (.neqN (a := 1) (b := 0) rfl rfl) <| .nil <| .condT rfl (rfl) <| .seq <| .region <| .s rfl rfl <| .s rfl rfl <| .nil <| .ret ?_
    show PostK _ _ _ _ _ _
    refine post2 rfl rfl rfl ?_
    exact ⟨rfl, hs_3⟩
theorem tnum_any (w0 w : World) (cs : List Chunk) (g : Nat) (bv : Value) (ok : Bool) (bl : List Nat) (n : Nat) (hs : Sat w0 ([cObj g 51 [bv, .bool ok]] ++ cs) w) (hb : RdL w0 bv (encN .u8) bl) (hbb : ∀ y ∈ bl, y < 256) (hn : bl.length ≤ 1000000) (hlim : n ≤ 1000000000000) : CallsV Tryz.prog 43 [.pointer (some ⟨g, 0, none⟩), .int .i64 (n : Int)] w fun r w' => ∃ x : Nat, x ≤ n ∧ r = .int .i64 (x : Int) ∧ ∃ ok' bv' bl', RdL w0 bv' (encN .u8) bl' ∧ (∀ y ∈ bl', y < 256) ∧ bl'.length ≤ 1000000 ∧ Sat w0 ([cObj g 51 [bv', .bool ok']] ++ cs) w' := by
  refine (tnum_ok w0 w cs g bv ok bl n hs hb hbb (by omega) hlim).mono fun r w' hq => ?_
  obtain ⟨h1, bv', h2, h3⟩ := hq
  exact ⟨_, numN_le _ _ _, h1, _, bv', _, h2, fun y hy => hbb y (numN_mem _ _ _ y hy), Nat.le_trans (numN_len _ _ _) hn, h3⟩
theorem unpack_any {v : Value} {b : List Nat} {w : World} (hv : RdL w v (encN .u8) b) (hb : ∀ x ∈ b, x < 256) (hn : b.length ≤ 1000000000) : CallsV Tryz.prog 45 [v] w fun r w' => ∃ (v' : Value) (l : List Nat) (e : Nat), r = .tuple #[v', .int .i64 (e : Int)] ∧ Sat w [cL v' 3 (encN .i64) l] w' :=
  (unpack_all v b w hv hb hn).mono fun r w' hq => by
    rcases hq with ⟨l, v', _, h1, h2⟩ | ⟨_, h1, h2⟩
    · exact ⟨v', l, 0, h1, h2⟩
    · exact ⟨_, [], 9, h1, h2.newNilL 3 (encN .i64)⟩
theorem hdec_any {v u : Value} {l b : List Nat} {bits count : Nat} {w : World} (hv : RdL w v (encN .i64) l) (hu : RdL w u (encN .u8) b) (hn : l.length ≤ 1024) (hb : ∀ x ∈ b, x < 256) (hbl : b.length ≤ 1000000) (hcount : count ≤ 4096) : CallsV Tryz.prog 46 [v, u, .int .i64 (bits : Int), .int .i64 (count : Int)] w fun r w' => ∃ (v' : Value) (s : List Nat) (e : Nat), r = .tuple #[v', .int .i64 (e : Int)] ∧ Sat w [cL v' 3 (encN .i64) s] w' := by
  by_cases hgd : validB l = true ∧ bits ≤ 8 * b.length
  · refine (hdecode_all v u l b bits count w hv hu hn hgd.1 hb hgd.2 hbl hcount).mono fun r w' hq => ?_
    rcases hq with ⟨s, v', _, h1, h2⟩ | ⟨_, e, _, h1, h2⟩
    · exact ⟨v', s, 0, h1, h2⟩
    · exact ⟨_, [], e, h1, h2.newNilL 3 (encN .i64)⟩
  · refine (hdecode_bad v u l b bits count w hv hu hn hbl hcount ?_).mono fun r w' hq => ⟨_, [], 1, hq.1, hq.2.newNilL 3 (encN .i64)⟩
    rcases Nat.lt_or_ge (8 * b.length) bits with h | h
    · exact .inr h
    · exact .inl (Bool.eq_false_iff.2 fun h9 => hgd ⟨h9, h⟩)
theorem toI_all {k : IntKind} : ∀ l : List Nat, (Kw.encI k).all (l.map fun x : Nat => (x : Int)) = (encN k).all l
  | [] => rfl
  | x :: r => by rw [List.map_cons, Enc.all_cons, Enc.all_cons, toI_all r]; rfl
theorem RdL_toI {k : IntKind} {w : World} {v : Value} {l : List Nat} (h : RdL w v (encN k) l) : RdL w v (Kw.encI k) (l.map fun x : Nat => (x : Int)) := by
  unfold RdL at h ⊢
  rw [toI_all, List.length_map]; exact h
theorem build_no {v : Value} {l : List Nat} {w : World} (hv : RdL w v (encN .i64) l) (hz : l.length ≤ 4096) (hbad : ¬ OkN l) : CallsV Tryz.prog 13 [v] w fun r w' => r = .tuple #[.pointer none, .int .i64 ((8 : Nat) : Int)] ∧ Sat w [] w' := by
  have h1 : ∃ x ∈ l, 1024 ≤ x := Classical.byContradiction fun h => hbad ⟨hz, fun x hx => Nat.lt_of_not_le fun h9 => h ⟨x, hx, h9⟩⟩
  obtain ⟨x, hx, h9⟩ := h1
  exact build_range v (l.map fun x : Nat => (x : Int)) w (RdL_toI hv) (by rw [List.length_map]; exact hz) ⟨(x : Int), List.mem_map_of_mem hx, .inr (by omega)⟩
theorem tbytes_any (w0 w : World) (cs : List Chunk) (g : Nat) (bv : Value) (ok : Bool) (bl : List Nat) (n : Nat) (hs : Sat w0 ([cObj g 51 [bv, .bool ok]] ++ cs) w) (hb : RdL w0 bv (encN .u8) bl) (hbb : ∀ y ∈ bl, y < 256) (hn : bl.length ≤ 1000000) :
    CallsV Tryz.prog 44 [(.pointer (some ⟨g, 0, none⟩)), (.int .i64 n)] w fun r w' => ∃ lr : List Nat, lr.length ≤ n ∧ (∀ y ∈ lr, y < 256) ∧ RdL w0 r (encN .u8) lr ∧ ∃ ok' bv' bl', RdL w0 bv' (encN .u8) bl' ∧ (∀ y ∈ bl', y < 256) ∧ bl'.length ≤ 1000000 ∧ Sat w0 ([cObj g 51 [bv', .bool ok']] ++ cs) w' := by
  refine callsV_of Tryz.func44 rfl rfl ?_
  refine .seq <| .region <| .s rfl rfl <| .nil <| .seq <| .seq <| .mid (fun L' w' => Weak [(0, (.pointer (some ⟨g, 0, none⟩))), (1, (.int .i64 n)), (4, (.slice none 0 0)), (19, (.bool (decide (((!ok) = true) ∨ (bl.length < n)))))] L' ∧ Sat w0 ([cObj g 51 [bv, (.bool ok)]] ++ cs) w') ?_ ?_
  · refine .region <| .m rfl rfl <| .e rfl (.nilCheck rfl) <| .e rfl (.fieldAddr fld51_1 rfl rfl) <| .e rfl (.load scal4 rfl (hs.cell (i := 0) (j := 1) rfl rfl)) <| .e rfl (.notB rfl) <| .m rfl rfl ?_
    by_cases hg_1 : (!ok) = true
    · refine .no rfl rfl rfl (hg_1) rfl <| .no rfl rfl rfl (hg_1) rfl <| .no rfl rfl rfl (hg_1) rfl <| .no rfl rfl rfl (hg_1) rfl <| .no rfl rfl rfl (hg_1) rfl <| .no rfl rfl rfl (hg_1) rfl <| .no rfl rfl rfl (hg_1) rfl <| .e rfl (.pickY rfl (hg_1) rfl) <| .nil ?_
      exact ⟨⟨rfl, rfl, rfl, congrArg some (congrArg Value.bool (by simp [hg_1])), trivial⟩, hs⟩
    · refine .yes rfl rfl rfl (by simpa using hg_1) <| .m rfl rfl <| .yes rfl rfl rfl (by simpa using hg_1) <| .m rfl rfl <| .yes rfl rfl rfl (by simpa using hg_1) <| .e rfl (.nilCheck rfl) <| .yes rfl rfl rfl (by simpa using hg_1) <| .e rfl (.fieldAddr fld51_0 rfl rfl) <| .yes rfl rfl rfl (by simpa using hg_1) <| .e rfl (.load scal22 rfl (hs.cell (i := 0) (j := 0) rfl rfl)) <| .yes rfl rfl rfl (by simpa using hg_1) <| .e rfl (.lenL Tryz.underlying22 rfl (hb.ext hs.ext)) <| .yes rfl rfl rfl (by simpa using hg_1) <| .e rfl (.gtrN rfl rfl) <| .e rfl (.pickN rfl (by simpa using hg_1) rfl) <| .nil ?_
      exact ⟨⟨rfl, rfl, rfl, congrArg some (congrArg Value.bool (by simp [hg_1])), trivial⟩, hs⟩
  · rintro L' w_1 ⟨hw_1, hs_1⟩
    refine .weaken _ hw_1 <| .condD rfl (fun hc_1 => ?_) (fun hc_1 => ?_)
    · refine .seq <| .region <| .m rfl rfl <| .e rfl (.nilCheck rfl) <| .e rfl (.fieldAddr fld51_1 rfl rfl) <| .f rfl (.storeObj one4 hs_1 (i := 0) rfl rfl rfl (rfl) rfl fun w_2 hs_2 hch_1 => ?_)
      refine .nil <| .seq <| .region <| .s rfl rfl <| .nil <| .ret ?_
      show PostK _ _ _ _ _ _
      refine post1 rfl rfl ?_
      have hs_3 : Sat w0 ([_] ++ cs) w_2 := hs_2.sub ((.cons_cons _ (.refl _)))
      exact ⟨[], Nat.zero_le _, (fun y hy => by cases hy), RdL.nil _ _, _, _, bl, hb, hbb, hn, hs_3⟩
    · refine .skip <| .seq ?_
      have hnl : n ≤ bl.length := Nat.le_of_not_lt fun h => hc_1 (by simp [h])
      refine .region <| .m rfl rfl <| .e rfl (.nilCheck rfl) <| .e rfl (.fieldAddr fld51_0 rfl rfl) <| .e rfl (.load scal22 rfl (hs_1.cell (i := 0) (j := 0) rfl rfl)) <| .m rfl rfl <| .e rfl (.sliceL (E := encN .u8) (a := 0) (c := n) sl22 rfl (hb.ext hs_1.ext) rfl ⟨_, rfl⟩ (Nat.zero_le _) (hnl)) <| .s rfl rfl <| .nil <| .seq <| .region <| .m rfl rfl <| .m rfl rfl <| .e rfl (.nilCheck rfl) <| .e rfl (.fieldAddr fld51_0 rfl rfl) <| .e rfl (.load scal22 rfl (hs_1.cell (i := 0) (j := 0) rfl rfl)) <| .m rfl rfl <| .e rfl (.sliceL (E := encN .u8) (a := n) (c := (bl).length) sl22 rfl (hb.ext hs_1.ext) ⟨_, rfl⟩ rfl (hnl) (Nat.le_refl _)) <| .e rfl (.nilCheck rfl) <| .e rfl (.fieldAddr fld51_0 rfl rfl) <| .f rfl (.storeObj one22 hs_1 (i := 0) rfl rfl rfl ((((hb.ext hs_1.ext)).sub (a := n) (b := (bl).length) (hnl) (Nat.le_refl _)).oneCell) rfl fun w_3 hs_4 hch_2 => ?_)
      refine .nil <| .seq <| .region <| .m rfl rfl <| .s rfl rfl <| .nil <| .ret ?_
      show PostK _ _ _ _ _ _
      refine post1 rfl rfl ?_
      have hs_5 : Sat w0 ([_] ++ cs) w_3 := hs_4.sub ((.cons_cons _ (.refl _)))
      have hr1 := hb.sub (a := 0) (b := n) (Nat.zero_le _) hnl
      have hr2 := hb.sub (a := n) (b := bl.length) hnl (Nat.le_refl _)
      rw [List.take_length] at hr2
      exact ⟨_, by rw [List.drop_zero, List.length_take]; omega, fun y hy => hbb y (List.mem_of_mem_take (List.mem_of_mem_drop hy)), hr1, _, _, _, hr2, fun y hy => hbb y (List.mem_of_mem_drop hy), by rw [List.length_drop]; omega, hs_5⟩
set_option maxHeartbeats 2000000 in
theorem numbers_any (w0 w : World) (cs : List Chunk) (g : Nat) (bv : Value) (ok : Bool) (bl : List Nat) (hs : Sat w0 ([cObj g 51 [bv, .bool ok]] ++ cs) w) (hb : RdL w0 bv (encN .u8) bl) (hbb : ∀ y ∈ bl, y < 256) (hn : bl.length ≤ 1000000) :
    CallsV Tryz.prog 19 [(.pointer (some ⟨g, 0, none⟩))] w fun r w' => ∃ v' l ok', r = .tuple #[v', .bool ok'] ∧ l.length ≤ 4096 ∧ ∃ bv' ok2, Sat w0 ([cObj g 51 [bv', .bool ok2], cL v' 3 (encN .i64) l] ++ cs) w' := by
  refine callsV_of Tryz.func19 rfl rfl ?_
  refine .seq <| .region <| .s rfl rfl <| .s rfl rfl <| .nil <| .seq <| .region <| .m rfl rfl ?_
  have hA_1 : Sat w0 ([cObj g 51 [bv, (.bool ok)]] ++ ([] ++ cs)) _ := (Sat.order [0] (by decide) hs).cut 1
  refine .f rfl (.call ent43 rfl ((tnum_any _ _ _ _ _ ok bl 4096 hA_1 hb hbb hn (by omega)).mono fun r_1 w_1 h_1 => ?_))
  obtain ⟨ax_1, hax_1, rfl, aok_1, abv_1, abl_1, hab_1, habb_1, habl_1, hp_1⟩ := h_1
  have hs_1 : Sat w0 ([cObj g 51 [abv_1, (.bool aok_1)]] ++ cs) _ := hp_1
  refine .m rfl rfl ?_
  have hA_2 : Sat w0 ([cObj g 51 [abv_1, (.bool aok_1)]] ++ ([] ++ cs)) _ := (Sat.order [0] (by decide) hs_1).cut 1
  refine .f rfl (.call ent43 rfl ((tnum_any _ _ _ _ _ aok_1 abl_1 1 hA_2 hab_1 habb_1 habl_1 (by omega)).mono fun r_2 w_2 h_2 => ?_))
  obtain ⟨ax_2, hax_2, rfl, aok_2, abv_2, abl_2, hab_2, habb_2, habl_2, hp_2⟩ := h_2
  have hs_2 : Sat w0 ([cObj g 51 [abv_2, (.bool aok_2)]] ++ cs) _ := hp_2
  refine .e rfl (.build bt65 rfl ⟨rfl, rfl, trivial⟩ rfl) <| .f rfl (.alloc hs_2 zero65 fun b_1 w_3 hs_3 hch_1 hb_1 => ?_)
  have hs_3d : Sat w0 ([cObj g 51 [abv_2, (.bool aok_2)], cObj b_1 65 [(.int .i64 (0 : Nat)), (.int .i64 (0 : Nat)), (.slice none 0 0), (.slice none 0 0), (.int .i64 (0 : Nat)), (.slice none 0 0)]] ++ cs) _ := (hs_3).mid
  refine .f rfl (.storeObjA (vs := [(.int .i64 ax_1), (.int .i64 ax_2), (.slice none 0 0), (.slice none 0 0), (.int .i64 (0 : Nat)), (.slice none 0 0)]) agg65 hs_3d (i := 1) rfl rfl rfl rfl (fun v h => by simp only [List.mem_cons, List.not_mem_nil, or_false] at h; rcases h with rfl | rfl | rfl | rfl | rfl | rfl; exact rfl; exact rfl; exact rfl; exact rfl; exact rfl; exact rfl) fun w_4 hs_4 hch_2 => ?_)
  have hs_4d : Sat w0 ([cObj g 51 [abv_2, (.bool aok_2)], cObj b_1 65 [(.int .i64 ax_1), (.int .i64 ax_2), (.slice none 0 0), (.slice none 0 0), (.int .i64 (0 : Nat)), (.slice none 0 0)]] ++ cs) _ := hs_4
  refine .nil <| .seq <| .seq ?_
  rcases (show ax_2 = 0 ∨ ax_2 = 1 by omega) with hk0 | hk1
  · refine .region <| .e rfl (.fieldAddr fld65_1 rfl rfl) <| .e rfl (.load scal3 rfl (hs_4d.cell (i := 1) (j := 1) rfl rfl)) <| .e rfl (.eqlN (b := 1) rfl rfl) <| .nil <| .condF rfl (decide_eq_false (by omega)) <| .skip <| .seq <| .region <| .s rfl rfl <| .nil <| .seq <| .seq <| .region <| .s rfl rfl <| .nil <| .block ?_
    have hs_5 : Sat w0 ([_, _, cL (Value.slice none 0 0) 3 (encN .i64) ([])] ++ cs) _ := (hs_4d.newNilL 3 (encN .i64)).mid
    refine .loop (α := Nat × Value × List Nat × Bool × Value × List Nat) (fun (k, bv2, bl2, ok2, ov, out) => [(0, (.pointer (some ⟨g, 0, none⟩))), (4, (.pointer (some ⟨b_1, 0, none⟩))), (7, ov), (8, (.int .i64 k))]) (fun (k, bv2, bl2, ok2, ov, out) w' => Sat w0 ([cObj g 51 [bv2, (.bool ok2)], cObj b_1 65 [(.int .i64 ax_1), (.int .i64 ax_2), (.slice none 0 0), (.slice none 0 0), (.int .i64 (0 : Nat)), (.slice none 0 0)], cL ov 3 (encN .i64) (out)] ++ cs) w' ∧ (k ≤ 64) ∧ (RdL w0 bv2 (encN .u8) bl2) ∧ (∀ y ∈ bl2, y < 256) ∧ (bl2.length ≤ 1000000) ∧ (out.length ≤ 64 * k)) (fun (k, bv2, bl2, ok2, ov, out) => 65 - k) (0, abv_2, abl_2, aok_2, (.slice none 0 0), []) ⟨rfl, rfl, rfl, rfl, trivial⟩ ⟨hs_5, Nat.zero_le _, hab_2, habb_2, habl_2, Nat.zero_le _⟩ ?_
    rintro ⟨k, bv2, bl2, ok2, ov, out⟩ w_5 ⟨hs_6, hk, hbv, hbb2, hbl, hol⟩
    show CW _ _ _ _ [(0, (.pointer (some ⟨g, 0, none⟩))), (4, (.pointer (some ⟨b_1, 0, none⟩))), (7, ov), (8, (.int .i64 k))] _
    refine .seq <| .seq <| .mid (fun L' w' => Weak [(0, (.pointer (some ⟨g, 0, none⟩))), (4, (.pointer (some ⟨b_1, 0, none⟩))), (7, ov), (8, (.int .i64 k)), (47, (.bool (decide ((ok2 = true) ∧ ((k * 64) < ax_1)))))] L' ∧ Sat w0 ([cObj g 51 [bv2, (.bool ok2)], cObj b_1 65 [(.int .i64 ax_1), (.int .i64 ax_2), (.slice none 0 0), (.slice none 0 0), (.int .i64 (0 : Nat)), (.slice none 0 0)], cL ov 3 (encN .i64) (out)] ++ cs) w') ?_ ?_
    · refine .region <| .m rfl rfl <| .e rfl (.nilCheck rfl) <| .e rfl (.fieldAddr fld51_1 rfl rfl) <| .e rfl (.load scal4 rfl (hs_6.cell (i := 0) (j := 1) rfl rfl)) <| .m rfl rfl ?_
      by_cases hg_1 : ok2 = true
      · refine .yes rfl rfl rfl (hg_1) <| .m rfl rfl <| .yes rfl rfl rfl (hg_1) <| .e rfl (.mulI (b := 64) rfl rfl (by omega)) <| .yes rfl rfl rfl (hg_1) <| .e rfl (.fieldAddr fld65_0 rfl rfl) <| .yes rfl rfl rfl (hg_1) <| .e rfl (.load scal3 rfl (hs_6.cell (i := 1) (j := 0) rfl rfl)) <| .yes rfl rfl rfl (hg_1) <| .e rfl (.lssN rfl rfl) <| .e rfl (.pickY rfl (hg_1) rfl) <| .nil ?_
        exact ⟨⟨rfl, rfl, rfl, rfl, congrArg some (congrArg Value.bool (by simp [hg_1])), trivial⟩, hs_6⟩
      · refine .no rfl rfl rfl (by simpa using hg_1) rfl <| .no rfl rfl rfl (by simpa using hg_1) rfl <| .no rfl rfl rfl (by simpa using hg_1) rfl <| .no rfl rfl rfl (by simpa using hg_1) rfl <| .no rfl rfl rfl (by simpa using hg_1) rfl <| .e rfl (.pickN rfl (by simpa using hg_1) rfl) <| .nil ?_
        exact ⟨⟨rfl, rfl, rfl, rfl, congrArg some (congrArg Value.bool (by simp [hg_1])), trivial⟩, hs_6⟩
    · rintro L' w_6 ⟨hw_1, hs_7⟩
      refine .weaken _ hw_1 <| .condD rfl (fun hc_1 => ?_) (fun hc_1 => ?_)
      · refine .skip <| .seq <| .block <| .seq ?_
        have hkn : k * 64 < ax_1 := hc_1.2
        refine .region <| .s rfl rfl <| .nil <| .seq <| .region <| .s rfl rfl <| .nil <| .seq <| .seq <| .region <| .e rfl (.fieldAddr fld65_1 rfl rfl) <| .e rfl (.load scal3 rfl (hs_7.cell (i := 1) (j := 1) rfl rfl)) <| .e rfl (.eqlN (b := 0) rfl rfl) <| .nil <| .condT rfl (decide_eq_true hk0) <| .region <| .m rfl rfl <| .m rfl rfl <| .m rfl rfl <| .e rfl (.nilCheck rfl) <| .e rfl (.fieldAddr fld51_0 rfl rfl) <| .e rfl (.load scal22 rfl (hs_7.cell (i := 0) (j := 0) rfl rfl)) <| .e rfl (.lenL Tryz.underlying22 rfl (hbv.ext hs_7.ext)) ?_
        have hA_3 : Sat w0 ([cObj g 51 [bv2, (.bool ok2)]] ++ ([cObj b_1 65 [(.int .i64 ax_1), (.int .i64 ax_2), (.slice none 0 0), (.slice none 0 0), (.int .i64 (0 : Nat)), (.slice none 0 0)], cL ov 3 (encN .i64) (out)] ++ cs)) _ := (Sat.order [0, 1, 2] (by decide) hs_7).cut 1
        refine .f rfl (.call ent43 rfl ((tnum_any _ _ _ _ _ ok2 bl2 bl2.length hA_3 hbv hbb2 hbl (by omega)).mono fun r_3 w_7 h_3 => ?_))
        obtain ⟨ax_3, hax_3, rfl, aok_3, abv_3, abl_3, hab_3, habb_3, habl_3, hp_3⟩ := h_3
        have hs_8 : Sat w0 ([cObj g 51 [abv_3, (.bool aok_3)], cObj b_1 65 [(.int .i64 ax_1), (.int .i64 ax_2), (.slice none 0 0), (.slice none 0 0), (.int .i64 (0 : Nat)), (.slice none 0 0)], cL ov 3 (encN .i64) (out)] ++ cs) _ := Sat.order [0, 1, 2] (by decide) hp_3.join
        have hA_4 : Sat w0 ([cObj g 51 [abv_3, (.bool aok_3)]] ++ ([cObj b_1 65 [(.int .i64 ax_1), (.int .i64 ax_2), (.slice none 0 0), (.slice none 0 0), (.int .i64 (0 : Nat)), (.slice none 0 0)], cL ov 3 (encN .i64) (out)] ++ cs)) _ := (Sat.order [0, 1, 2] (by decide) hs_8).cut 1
        refine .f rfl (.call ent44 rfl ((tbytes_any _ _ _ _ _ aok_3 abl_3 ax_3 hA_4 hab_3 habb_3 habl_3).mono fun r_4 w_8 h_4 => ?_))
        obtain ⟨lr_1, hlr_1, hlb_1, hrd_1, aok_4, abv_4, abl_4, hab_4, habb_4, habl_4, hp_4⟩ := h_4
        have hs_9 : Sat w0 ([cObj g 51 [abv_4, (.bool aok_4)], cObj b_1 65 [(.int .i64 ax_1), (.int .i64 ax_2), (.slice none 0 0), (.slice none 0 0), (.int .i64 (0 : Nat)), (.slice none 0 0)], cL ov 3 (encN .i64) (out)] ++ cs) _ := Sat.order [0, 1, 2] (by decide) hp_4.join
        refine .f rfl (.call ent45 rfl ((unpack_any (hrd_1.ext hs_9.ext) hlb_1 (by omega)).mono fun r_5 w_9 h_5 => ?_))
        obtain ⟨uv_1, ul_1, ue_1, rfl, hp_5⟩ := h_5
        have hs_10 : Sat w0 ([cObj g 51 [abv_4, (.bool aok_4)], cObj b_1 65 [(.int .i64 ax_1), (.int .i64 ax_2), (.slice none 0 0), (.slice none 0 0), (.int .i64 (0 : Nat)), (.slice none 0 0)], cL ov 3 (encN .i64) (out), cL uv_1 3 (encN .i64) (ul_1)] ++ cs) _ := (hs_9.adds hp_5).mid
        refine .m rfl rfl <| .e rfl (.extract rfl rfl) <| .e rfl (.extract rfl rfl) <| .s rfl rfl <| .s rfl rfl <| .nil <| .seq <| .seq <| .mid (fun L' w' => Weak [(0, (.pointer (some ⟨g, 0, none⟩))), (4, (.pointer (some ⟨b_1, 0, none⟩))), (7, ov), (8, (.int .i64 k)), (9, uv_1), (10, (.int .i64 ue_1)), (47, (.bool (decide ((ok2 = true) ∧ ((k * 64) < ax_1))))), (52, (.bool (decide (ax_2 = 0)))), (103, (.bool (decide ((((!aok_4) = true) ∨ (ue_1 ≠ 0)) ∨ (ul_1.length ≠ (min 64 (ax_1 - k * 64)))))))] L' ∧ Sat w0 ([cObj g 51 [abv_4, (.bool aok_4)], cObj b_1 65 [(.int .i64 ax_1), (.int .i64 ax_2), (.slice none 0 0), (.slice none 0 0), (.int .i64 (0 : Nat)), (.slice none 0 0)], cL ov 3 (encN .i64) (out), cL uv_1 3 (encN .i64) (ul_1)] ++ cs) w') ?_ ?_
        · refine .region <| .m rfl rfl <| .e rfl (.nilCheck rfl) <| .e rfl (.fieldAddr fld51_1 rfl rfl) <| .e rfl (.load scal4 rfl (hs_10.cell (i := 0) (j := 1) rfl rfl)) <| .e rfl (.notB rfl) <| .m rfl rfl ?_
          by_cases hg_2 : (!aok_4) = true
          · refine .no rfl rfl rfl (hg_2) rfl <| .no rfl rfl rfl (hg_2) rfl <| .e rfl (.pickY rfl (hg_2) rfl) <| .m rfl rfl <| .no rfl rfl rfl (rfl) rfl <| .no rfl rfl rfl (rfl) rfl <| .no rfl rfl rfl (rfl) rfl <| .no rfl rfl rfl (rfl) rfl <| .no rfl rfl rfl (rfl) rfl <| .e rfl (.pickY rfl (rfl) rfl) <| .nil ?_
            exact ⟨⟨rfl, rfl, rfl, rfl, rfl, rfl, rfl, rfl, congrArg some (congrArg Value.bool (by simp [hg_2])), trivial⟩, hs_10⟩
          · refine .yes rfl rfl rfl (by simpa using hg_2) <| .m rfl rfl <| .yes rfl rfl rfl (by simpa using hg_2) <| .e rfl (.neqN (b := 0) rfl rfl) <| .e rfl (.pickN rfl (by simpa using hg_2) rfl) <| .m rfl rfl ?_
            by_cases hg_3 : ue_1 ≠ 0
            · refine .no rfl rfl rfl (decide_eq_true hg_3) rfl <| .no rfl rfl rfl (decide_eq_true hg_3) rfl <| .no rfl rfl rfl (decide_eq_true hg_3) rfl <| .no rfl rfl rfl (decide_eq_true hg_3) rfl <| .no rfl rfl rfl (decide_eq_true hg_3) rfl <| .e rfl (.pickY rfl (decide_eq_true hg_3) rfl) <| .nil ?_
              exact ⟨⟨rfl, rfl, rfl, rfl, rfl, rfl, rfl, rfl, congrArg some (congrArg Value.bool (by simp [hg_2, hg_3])), trivial⟩, hs_10⟩
            · refine .yes rfl rfl rfl (decide_eq_false hg_3) <| .m rfl rfl <| .yes rfl rfl rfl (decide_eq_false hg_3) <| .e rfl (.lenL Tryz.underlying27 rfl (hs_10.rdL 3 rfl)) <| .yes rfl rfl rfl (decide_eq_false hg_3) <| .m rfl rfl <| .yes rfl rfl rfl (decide_eq_false hg_3) <| .f rfl (.call ent47 rfl ((ssize_ok _ (ax_1) (k) _ (hs_10.cell (i := 1) (j := 0) rfl rfl) (by omega) (by omega)).mono fun r_6 w_10 h_6 => ?_))
              obtain ⟨rfl, hp_6⟩ := h_6
              have hs_11 : Sat w0 ([_, _, _, _] ++ cs) _ := (hs_10.adds hp_6).mid
              refine .yes rfl rfl rfl (decide_eq_false hg_3) <| .e rfl (.neqN rfl rfl) <| .e rfl (.pickN rfl (decide_eq_false hg_3) rfl) <| .nil ?_
              exact ⟨⟨rfl, rfl, rfl, rfl, rfl, rfl, rfl, rfl, congrArg some (congrArg Value.bool (by simp [hg_2, hg_3])), trivial⟩, hs_11⟩
        · rintro L' w_11 ⟨hw_2, hs_12⟩
          refine .weaken _ hw_2 <| .condD rfl (fun hc_2 => ?_) (fun hc_2 => ?_)
          · refine .seq <| .region <| .s rfl rfl <| .s rfl rfl <| .nil <| .ret ?_
            show PostK _ _ _ _ _ _
            refine post2 rfl rfl rfl ?_
            have hs_13 : Sat w0 ([_, _, _, _, cL (Value.slice none 0 0) 3 (encN .i64) ([])] ++ cs) _ := (hs_12.newNilL 3 (encN .i64)).mid
            have hs_14 : Sat w0 ([_, _] ++ cs) w_11 := hs_13.sub ((.cons_cons _ (.cons _ (.cons _ (.cons _ (.cons_cons _ (.refl _)))))))
            exact ⟨_, [], _, rfl, Nat.zero_le _, _, _, hs_14⟩
          · refine .skip ?_
            have hlen9 : (ul_1).length = min 64 (ax_1 - k * 64) := Classical.byContradiction fun h9 => hc_2 (by simp [h9])
            refine .region <| .m rfl rfl <| .m rfl rfl <| .f rfl (.appendL 2 sl27 hs_12 rfl rfl rfl Tryz.underlying27 (hs_12.rdL 3 rfl) (by omega) (by omega) fun v_1 w_12 hs_15 hch_3 => ?_)
            refine .s rfl rfl <| .nil <| .region <| .m rfl rfl <| .e rfl (.addI (b := 1) rfl rfl (by omega)) <| .s rfl rfl <| .nil ?_
            have hs_16 : Sat w0 ([_, _, _] ++ cs) w_12 := hs_15.sub ((.cons_cons _ (.cons_cons _ (.cons_cons _ (.cons _ (.refl _))))))
            exact ⟨(k + 1, abv_4, abl_4, aok_4, v_1, out ++ ul_1), ⟨rfl, rfl, rfl, rfl, trivial⟩, ⟨hs_16, by omega, hab_4, habb_4, habl_4, by rw [List.length_append]; omega⟩, (show (65 - (k + 1)) < (65 - k) from by omega)⟩
      · refine .exit0 <| .seq <| .draw (fun w' => Sat w0 ([cObj g 51 [bv2, (.bool ok2)], cObj b_1 65 [(.int .i64 ax_1), (.int .i64 ax_2), (.slice none 0 0), (.slice none 0 0), (.int .i64 (0 : Nat)), (.slice none 0 0)], cL ov 3 (encN .i64) (out)] ++ cs) w') (.free 0 (.free 1 (.free 2 (.free 3 (.free 4 (.free 5 (.free 6 .fin))))))) mixed (by kernel_rfl) ?_
        have hs_17 := hs_7.drew
        refine .m rfl rfl hs_17 <| .m rfl rfl hs_17 <| .e rfl (fun w' hS' => .nilCheck rfl) hs_17 <| .e rfl (fun w' hS' => .fieldAddr fld51_1 rfl rfl) hs_17 <| .e rfl (fun w' hS' => .load scal4 rfl (hS'.cell (i := 0) (j := 1) rfl rfl)) hs_17 <| .e rfl (fun w' hS' => .assign rfl) hs_17 <| .e rfl (fun w' hS' => .assign rfl) hs_17 <| .fin <| .ret ?_
        show PostK _ _ _ _ _ _
        refine post2 rfl rfl rfl ?_
        have hs_18 : Sat w0 ([cObj g 51 [bv2, (.bool ok2)], cL ov 3 (encN .i64) (out)] ++ cs) w_6.drew := hs_17.sub ((.cons_cons _ (.cons _ (.cons_cons _ (.refl _)))))
        exact ⟨_, out, _, rfl, by omega, _, _, hs_18⟩
  · refine .region <| .e rfl (.fieldAddr fld65_1 rfl rfl) <| .e rfl (.load scal3 rfl (hs_4d.cell (i := 1) (j := 1) rfl rfl)) <| .e rfl (.eqlN (b := 1) rfl rfl) <| .nil <| .condT rfl (decide_eq_true hk1) <| .seq <| .region <| .m rfl rfl <| .m rfl rfl ?_
    have hA_5 : Sat w0 ([cObj g 51 [abv_2, (.bool aok_2)]] ++ ([cObj b_1 65 [(.int .i64 ax_1), (.int .i64 ax_2), (.slice none 0 0), (.slice none 0 0), (.int .i64 (0 : Nat)), (.slice none 0 0)]] ++ cs)) _ := (Sat.order [0, 1] (by decide) hs_4d).cut 1
    refine .f rfl (.call ent43 rfl ((tnum_any _ _ _ _ _ aok_2 abl_2 1024 hA_5 hab_2 habb_2 habl_2 (by omega)).mono fun r_7 w_13 h_7 => ?_))
    obtain ⟨ax_4, hax_4, rfl, aok_5, abv_5, abl_5, hab_5, habb_5, habl_5, hp_7⟩ := h_7
    have hs_19 : Sat w0 ([cObj g 51 [abv_5, (.bool aok_5)], cObj b_1 65 [(.int .i64 ax_1), (.int .i64 ax_2), (.slice none 0 0), (.slice none 0 0), (.int .i64 (0 : Nat)), (.slice none 0 0)]] ++ cs) _ := Sat.order [0, 1] (by decide) hp_7.join
    have hA_6 : Sat w0 ([cObj g 51 [abv_5, (.bool aok_5)]] ++ ([cObj b_1 65 [(.int .i64 ax_1), (.int .i64 ax_2), (.slice none 0 0), (.slice none 0 0), (.int .i64 (0 : Nat)), (.slice none 0 0)]] ++ cs)) _ := (Sat.order [0, 1] (by decide) hs_19).cut 1
    refine .f rfl (.call ent44 rfl ((tbytes_any _ _ _ _ _ aok_5 abl_5 ax_4 hA_6 hab_5 habb_5 habl_5).mono fun r_8 w_14 h_8 => ?_))
    obtain ⟨lr_2, hlr_2, hlb_2, hrd_2, aok_6, abv_6, abl_6, hab_6, habb_6, habl_6, hp_8⟩ := h_8
    have hs_20 : Sat w0 ([cObj g 51 [abv_6, (.bool aok_6)], cObj b_1 65 [(.int .i64 ax_1), (.int .i64 ax_2), (.slice none 0 0), (.slice none 0 0), (.int .i64 (0 : Nat)), (.slice none 0 0)]] ++ cs) _ := Sat.order [0, 1] (by decide) hp_8.join
    refine .e rfl (.lenL Tryz.underlying22 rfl (hrd_2.ext hs_20.ext)) <| .m rfl rfl <| .nil <| .block ?_
    have hs_21 : Sat w0 ([_, _, cL (Value.slice none 0 0) 3 (encN .i64) ([])] ++ cs) _ := (hs_20.newNilL 3 (encN .i64)).mid
    have hs_22 : Sat w0 ([cObj g 51 [abv_6, (.bool aok_6)], cObj b_1 65 [(.int .i64 ax_1), (.int .i64 ax_2), (.slice none 0 0), (.slice none 0 0), (.int .i64 (0 : Nat)), (.slice none 0 0)], cL (Value.slice none 0 0) 3 (encN .i64) ((lr_2).take 0)] ++ cs) w_14 := by
      have hq : [] = (lr_2).take 0 := rfl
      rw [← hq]; exact hs_21
    refine .loop (α := Nat × Value) (fun (k, lv) => [(0, (.pointer (some ⟨g, 0, none⟩))), (4, (.pointer (some ⟨b_1, 0, none⟩))), (23, r_8), (24, (.int .i64 lr_2.length)), (25, (.int .i64 k))]) (fun (k, lv) w' => Sat w0 ([cObj g 51 [abv_6, (.bool aok_6)], cObj b_1 65 [(.int .i64 ax_1), (.int .i64 ax_2), lv, (.slice none 0 0), (.int .i64 (0 : Nat)), (.slice none 0 0)], cL lv 3 (encN .i64) ((lr_2).take k)] ++ cs) w' ∧ (k ≤ (lr_2).length)) (fun (k, lv) => (lr_2).length - k) (0, (.slice none 0 0)) ⟨rfl, rfl, rfl, rfl, rfl, trivial⟩ ⟨hs_22, Nat.zero_le _⟩ ?_
    rintro ⟨k, lv⟩ w_15 ⟨hs_23, hk⟩
    show CW _ _ _ _ [(0, (.pointer (some ⟨g, 0, none⟩))), (4, (.pointer (some ⟨b_1, 0, none⟩))), (23, r_8), (24, (.int .i64 lr_2.length)), (25, (.int .i64 k))] _
    refine .seq <| .region <| .e rfl (.lssN rfl rfl) <| .nil <| .seq <| .condD rfl (fun hc_3 => ?_) (fun hc_3 => ?_)
    · refine .skip <| .seq <| .block <| .seq ?_
      obtain ⟨x, hx⟩ : ∃ x, (lr_2)[k]? = some x := ⟨_, List.getElem?_eq_getElem hc_3⟩
      have hx256 := hlb_2 x (mem_of_get hx)
      refine .region <| .e rfl (.idxL (E := encN .u8) sl22 rfl rfl (hrd_2.ext hs_23.ext) (by omega)) <| .e rfl (.ldL (E := encN .u8) scal5 rfl (hrd_2.ext hs_23.ext) hx (by decide) rfl) <| .s rfl rfl <| .nil <| .region <| .e rfl (.fieldAddr fld65_2 rfl rfl) <| .e rfl (.load scal27 rfl (hs_23.cell (i := 1) (j := 2) rfl rfl)) <| .m rfl rfl <| .e rfl (.convK (by rw [Tryz.underlying5]; rfl) Tryz.underlying3 rfl (wrap_i (by omega))) <| .f rfl (.lit1 (encN .i64) x sl27 rfl hs_23 rfl fun v_2 w_16 hs_24 hch_4 => ?_)
      have hs_24d : Sat w0 ([cObj g 51 [abv_6, (.bool aok_6)], cObj b_1 65 [(.int .i64 ax_1), (.int .i64 ax_2), lv, (.slice none 0 0), (.int .i64 (0 : Nat)), (.slice none 0 0)], cL lv 3 (encN .i64) ((lr_2).take k), cL v_2 3 (encN .i64) ([x])] ++ cs) _ := (hs_24).mid
      refine .f rfl (.appendL 2 sl27 hs_24d rfl rfl rfl Tryz.underlying27 (hs_24d.rdL 3 rfl) (by simp; omega) (by simp; omega) fun v_3 w_17 hs_25 hch_5 => ?_)
      have hs_25d : Sat w0 ([_, _, cL v_3 3 (encN .i64) ((lr_2).take k ++ [x])] ++ cs) _ := hs_25.drop 3
      refine .e rfl (.fieldAddr fld65_2 rfl rfl) <| .f rfl (.storeObj one27 hs_25d (i := 1) rfl rfl rfl ((hs_25d.rdL 2 rfl).oneCell) rfl fun w_18 hs_26 hch_6 => ?_)
      refine .nil <| .region <| .e rfl (.addI (b := 1) rfl rfl (by omega)) <| .m rfl rfl <| .nil ?_
      have hs_27 : Sat w0 ([_, _, _] ++ cs) w_18 := hs_26.sub ((.cons_cons _ (.cons_cons _ (.cons_cons _ (.refl _)))))
      have hs_28 : Sat w0 ([cObj g 51 [abv_6, (.bool aok_6)], cObj b_1 65 [(.int .i64 ax_1), (.int .i64 ax_2), v_3, (.slice none 0 0), (.int .i64 (0 : Nat)), (.slice none 0 0)], cL v_3 3 (encN .i64) ((lr_2).take (k + 1))] ++ cs) w_18 := by
        have hq : (lr_2).take k ++ [x] = (lr_2).take (k + 1) := by rw [take_succ_of hx]
        rw [← hq]; exact hs_27
      exact ⟨(k + 1, v_3), ⟨rfl, rfl, rfl, rfl, rfl, trivial⟩, ⟨hs_28, by omega⟩, (show ((lr_2).length - (k + 1)) < ((lr_2).length - k) from by omega)⟩
    · refine .exit0 <| .seq <| .region <| .s rfl rfl <| .nil <| .seq <| .seq <| .region <| .s rfl rfl <| .nil <| .block ?_
      have hs_29 : Sat w0 ([cObj g 51 [abv_6, (.bool aok_6)], cObj b_1 65 [(.int .i64 ax_1), (.int .i64 ax_2), lv, (.slice none 0 0), (.int .i64 (0 : Nat)), (.slice none 0 0)], cL lv 3 (encN .i64) (lr_2)] ++ cs) w_15 := by
        have hq : (lr_2).take k = lr_2 := by rw [show k = (lr_2).length by omega, List.take_length]
        rw [← hq]; exact hs_23
      have hs_30 : Sat w0 ([_, _, _, cL (Value.slice none 0 0) 3 (encN .i64) ([])] ++ cs) _ := (hs_29.newNilL 3 (encN .i64)).mid
      refine .loop (α := Nat × Value × List Nat × Bool × Value × List Nat) (fun (k, bv2, bl2, ok2, ov, out) => [(0, (.pointer (some ⟨g, 0, none⟩))), (4, (.pointer (some ⟨b_1, 0, none⟩))), (7, ov), (8, (.int .i64 k))]) (fun (k, bv2, bl2, ok2, ov, out) w' => Sat w0 ([cObj g 51 [bv2, (.bool ok2)], cObj b_1 65 [(.int .i64 ax_1), (.int .i64 ax_2), lv, (.slice none 0 0), (.int .i64 (0 : Nat)), (.slice none 0 0)], cL lv 3 (encN .i64) (lr_2), cL ov 3 (encN .i64) (out)] ++ cs) w' ∧ (k ≤ 64) ∧ (RdL w0 bv2 (encN .u8) bl2) ∧ (∀ y ∈ bl2, y < 256) ∧ (bl2.length ≤ 1000000) ∧ (out.length ≤ 64 * k)) (fun (k, bv2, bl2, ok2, ov, out) => 65 - k) (0, abv_6, abl_6, aok_6, (.slice none 0 0), []) ⟨rfl, rfl, rfl, rfl, trivial⟩ ⟨hs_30, Nat.zero_le _, hab_6, habb_6, habl_6, Nat.zero_le _⟩ ?_
      rintro ⟨k, bv2, bl2, ok2, ov, out⟩ w_19 ⟨hs_31, hk, hbv, hbb2, hbl, hol⟩
      show CW _ _ _ _ [(0, (.pointer (some ⟨g, 0, none⟩))), (4, (.pointer (some ⟨b_1, 0, none⟩))), (7, ov), (8, (.int .i64 k))] _
      refine .seq <| .seq <| .mid (fun L' w' => Weak [(0, (.pointer (some ⟨g, 0, none⟩))), (4, (.pointer (some ⟨b_1, 0, none⟩))), (7, ov), (8, (.int .i64 k)), (47, (.bool (decide ((ok2 = true) ∧ ((k * 64) < ax_1)))))] L' ∧ Sat w0 ([cObj g 51 [bv2, (.bool ok2)], cObj b_1 65 [(.int .i64 ax_1), (.int .i64 ax_2), lv, (.slice none 0 0), (.int .i64 (0 : Nat)), (.slice none 0 0)], cL lv 3 (encN .i64) (lr_2), cL ov 3 (encN .i64) (out)] ++ cs) w') ?_ ?_
      · refine .region <| .m rfl rfl <| .e rfl (.nilCheck rfl) <| .e rfl (.fieldAddr fld51_1 rfl rfl) <| .e rfl (.load scal4 rfl (hs_31.cell (i := 0) (j := 1) rfl rfl)) <| .m rfl rfl ?_
        by_cases hg_4 : ok2 = true
        · refine .yes rfl rfl rfl (hg_4) <| .m rfl rfl <| .yes rfl rfl rfl (hg_4) <| .e rfl (.mulI (b := 64) rfl rfl (by omega)) <| .yes rfl rfl rfl (hg_4) <| .e rfl (.fieldAddr fld65_0 rfl rfl) <| .yes rfl rfl rfl (hg_4) <| .e rfl (.load scal3 rfl (hs_31.cell (i := 1) (j := 0) rfl rfl)) <| .yes rfl rfl rfl (hg_4) <| .e rfl (.lssN rfl rfl) <| .e rfl (.pickY rfl (hg_4) rfl) <| .nil ?_
          exact ⟨⟨rfl, rfl, rfl, rfl, congrArg some (congrArg Value.bool (by simp [hg_4])), trivial⟩, hs_31⟩
        · refine .no rfl rfl rfl (by simpa using hg_4) rfl <| .no rfl rfl rfl (by simpa using hg_4) rfl <| .no rfl rfl rfl (by simpa using hg_4) rfl <| .no rfl rfl rfl (by simpa using hg_4) rfl <| .no rfl rfl rfl (by simpa using hg_4) rfl <| .e rfl (.pickN rfl (by simpa using hg_4) rfl) <| .nil ?_
          exact ⟨⟨rfl, rfl, rfl, rfl, congrArg some (congrArg Value.bool (by simp [hg_4])), trivial⟩, hs_31⟩
      · rintro L' w_20 ⟨hw_3, hs_32⟩
        refine .weaken _ hw_3 <| .condD rfl (fun hc_4 => ?_) (fun hc_4 => ?_)
        · refine .skip <| .seq <| .block <| .seq ?_
          have hkn : k * 64 < ax_1 := hc_4.2
          refine .region <| .s rfl rfl <| .nil <| .seq <| .region <| .s rfl rfl <| .nil <| .seq <| .seq <| .region <| .e rfl (.fieldAddr fld65_1 rfl rfl) <| .e rfl (.load scal3 rfl (hs_32.cell (i := 1) (j := 1) rfl rfl)) <| .e rfl (.eqlN (b := 0) rfl rfl) <| .nil <| .condF rfl (decide_eq_false (by omega)) <| .seq <| .region <| .m rfl rfl <| .m rfl rfl <| .e rfl (.nilCheck rfl) <| .e rfl (.fieldAddr fld51_0 rfl rfl) <| .e rfl (.load scal22 rfl (hs_32.cell (i := 0) (j := 0) rfl rfl)) <| .e rfl (.lenL Tryz.underlying22 rfl (hbv.ext hs_32.ext)) <| .e rfl (.mulI (a := 8) rfl rfl (by omega)) ?_
          have hA_7 : Sat w0 ([cObj g 51 [bv2, (.bool ok2)]] ++ ([cObj b_1 65 [(.int .i64 ax_1), (.int .i64 ax_2), lv, (.slice none 0 0), (.int .i64 (0 : Nat)), (.slice none 0 0)], cL lv 3 (encN .i64) (lr_2), cL ov 3 (encN .i64) (out)] ++ cs)) _ := (Sat.order [0, 1, 2, 3] (by decide) hs_32).cut 1
          refine .f rfl (.call ent43 rfl ((tnum_any _ _ _ _ _ ok2 bl2 (8 * bl2.length) hA_7 hbv hbb2 hbl (by omega)).mono fun r_9 w_21 h_9 => ?_))
          obtain ⟨ax_5, hax_5, rfl, aok_7, abv_7, abl_7, hab_7, habb_7, habl_7, hp_9⟩ := h_9
          have hs_33 : Sat w0 ([cObj g 51 [abv_7, (.bool aok_7)], cObj b_1 65 [(.int .i64 ax_1), (.int .i64 ax_2), lv, (.slice none 0 0), (.int .i64 (0 : Nat)), (.slice none 0 0)], cL lv 3 (encN .i64) (lr_2), cL ov 3 (encN .i64) (out)] ++ cs) _ := Sat.order [0, 1, 2, 3] (by decide) hp_9.join
          refine .s rfl rfl <| .nil <| .draw (fun w' => Sat w0 ([cObj b_1 65 [(.int .i64 ax_1), (.int .i64 ax_2), lv, (.slice none 0 0), (.int .i64 (0 : Nat)), (.slice none 0 0)], cL lv 3 (encN .i64) (lr_2), cL ov 3 (encN .i64) (out)] ++ cs) w') (.free 0 (.free 1 (.free 2 (.free 3 (.free 4 (.free 5 (.free 7 (.free 8 (.one 6 (.one 9 (.one 10 (.free 11 (.free 12 (.free 13 (.free 14 (.free 15 .fin)))))))))))))))) mixed (by kernel_rfl) ?_
          have hs_34 := hs_33.drew
          have hS_1 : Sat w0 ([_, _, _] ++ cs) _ := hs_34.sub ((.cons _ (.cons_cons _ (.cons_cons _ (.cons_cons _ (.refl _))))))
          refine .e rfl (fun w' hS' => .fieldAddr fld65_2 rfl rfl) hS_1 <| .e rfl (fun w' hS' => .load scal27 rfl (hS'.cell (i := 0) (j := 2) rfl rfl)) hS_1 <| .m rfl rfl hS_1 <| .m rfl rfl hS_1 <| .e rfl (fun w' hS' => .addI (b := 7) rfl rfl (by omega)) hS_1 <| .e rfl (fun w' hS' => .quo (b := 8) rfl rfl (by omega) (by unfold inI64; omega)) hS_1 <| .m rfl rfl hS_1 <| .m rfl rfl hS_1 ?_
          have hA_8 : Sat w0 ([cObj g 51 [abv_7, (.bool aok_7)]] ++ ([cObj b_1 65 [(.int .i64 ax_1), (.int .i64 ax_2), lv, (.slice none 0 0), (.int .i64 (0 : Nat)), (.slice none 0 0)], cL lv 3 (encN .i64) (lr_2), cL ov 3 (encN .i64) (out)] ++ cs)) _ := (Sat.order [0, 1, 2, 3] (by decide) hs_34).cut 1
          refine .f rfl (.call ent44 rfl ((tbytes_any _ _ _ _ _ aok_7 abl_7 ((ax_5 + 7) / 8) hA_8 hab_7 habb_7 habl_7).mono fun r_10 w_22 h_10 => ?_))
          obtain ⟨lr_3, hlr_3, hlb_3, hrd_3, aok_8, abv_8, abl_8, hab_8, habb_8, habl_8, hp_10⟩ := h_10
          have hs_35 : Sat w0 ([cObj g 51 [abv_8, (.bool aok_8)], cObj b_1 65 [(.int .i64 ax_1), (.int .i64 ax_2), lv, (.slice none 0 0), (.int .i64 (0 : Nat)), (.slice none 0 0)], cL lv 3 (encN .i64) (lr_2), cL ov 3 (encN .i64) (out)] ++ cs) _ := Sat.order [0, 1, 2, 3] (by decide) hp_10.join
          have hS_2 : Sat w0 ([_, _, _] ++ cs) _ := hs_35.sub ((.cons _ (.cons_cons _ (.cons_cons _ (.cons_cons _ (.refl _))))))
          refine ⟨hS_2, ?_⟩
          refine .f rfl (.call ent47 rfl ((ssize_ok _ (ax_1) (k) _ (hs_35.cell (i := 1) (j := 0) rfl rfl) (by omega) (by omega)).mono fun r_11 w_23 h_11 => ?_))
          obtain ⟨rfl, hp_11⟩ := h_11
          have hs_36 : Sat w0 ([cObj g 51 [abv_8, (.bool aok_8)], cObj b_1 65 [(.int .i64 ax_1), (.int .i64 ax_2), lv, (.slice none 0 0), (.int .i64 (0 : Nat)), (.slice none 0 0)], cL lv 3 (encN .i64) (lr_2), cL ov 3 (encN .i64) (out)] ++ cs) _ := (hs_35.adds hp_11).mid
          have hS_3 : Sat w0 ([_, _, _] ++ cs) _ := hs_36.sub ((.cons _ (.cons_cons _ (.cons_cons _ (.cons_cons _ (.refl _))))))
          refine ⟨hS_3, ?_⟩
          refine .f rfl (.call ent46 rfl ((hdec_any (bits := ax_5) (count := (min 64 (ax_1 - k * 64))) (hs_36.rdL 2 rfl) (hrd_3.ext hs_36.ext) (by omega) hlb_3 (by omega) (by omega)).mono fun r_12 w_24 h_12 => ?_))
          obtain ⟨uv_2, ul_2, ue_2, rfl, hp_12⟩ := h_12
          have hs_37 : Sat w0 ([cObj g 51 [abv_8, (.bool aok_8)], cObj b_1 65 [(.int .i64 ax_1), (.int .i64 ax_2), lv, (.slice none 0 0), (.int .i64 (0 : Nat)), (.slice none 0 0)], cL lv 3 (encN .i64) (lr_2), cL ov 3 (encN .i64) (out), cL uv_2 3 (encN .i64) (ul_2)] ++ cs) _ := (hs_36.adds hp_12).mid
          have hS_4 : Sat w0 ([_, _, _] ++ cs) _ := hs_37.sub ((.cons _ (.cons_cons _ (.cons_cons _ (.cons_cons _ (.cons _ (.refl _)))))))
          refine ⟨hS_4, ?_⟩
          refine .m rfl rfl hS_4 <| .e rfl (fun w' hS' => .extract rfl rfl) hS_4 <| .e rfl (fun w' hS' => .extract rfl rfl) hS_4 <| .e rfl (fun w' hS' => .assign rfl) hS_4 <| .e rfl (fun w' hS' => .assign rfl) hS_4 <| .fin <| .seq <| .seq <| .mid (fun L' w' => Weak [(0, (.pointer (some ⟨g, 0, none⟩))), (4, (.pointer (some ⟨b_1, 0, none⟩))), (7, ov), (8, (.int .i64 k)), (9, uv_2), (10, (.int .i64 ue_2)), (11, (.int .i64 ax_5)), (47, (.bool (decide ((ok2 = true) ∧ ((k * 64) < ax_1))))), (52, (.bool (decide (ax_2 = 0)))), (103, (.bool (decide ((((!aok_8) = true) ∨ (ue_2 ≠ 0)) ∨ (ul_2.length ≠ (min 64 (ax_1 - k * 64)))))))] L' ∧ Sat w0 ([cObj g 51 [abv_8, (.bool aok_8)], cObj b_1 65 [(.int .i64 ax_1), (.int .i64 ax_2), lv, (.slice none 0 0), (.int .i64 (0 : Nat)), (.slice none 0 0)], cL lv 3 (encN .i64) (lr_2), cL ov 3 (encN .i64) (out), cL uv_2 3 (encN .i64) (ul_2)] ++ cs) w') ?_ ?_
          · refine .region <| .m rfl rfl <| .e rfl (.nilCheck rfl) <| .e rfl (.fieldAddr fld51_1 rfl rfl) <| .e rfl (.load scal4 rfl (hs_37.cell (i := 0) (j := 1) rfl rfl)) <| .e rfl (.notB rfl) <| .m rfl rfl ?_
            by_cases hg_5 : (!aok_8) = true
            · refine .no rfl rfl rfl (hg_5) rfl <| .no rfl rfl rfl (hg_5) rfl <| .e rfl (.pickY rfl (hg_5) rfl) <| .m rfl rfl <| .no rfl rfl rfl (rfl) rfl <| .no rfl rfl rfl (rfl) rfl <| .no rfl rfl rfl (rfl) rfl <| .no rfl rfl rfl (rfl) rfl <| .no rfl rfl rfl (rfl) rfl <| .e rfl (.pickY rfl (rfl) rfl) <| .nil ?_
              exact ⟨⟨rfl, rfl, rfl, rfl, rfl, rfl, rfl, rfl, rfl, congrArg some (congrArg Value.bool (by simp [hg_5])), trivial⟩, hs_37⟩
            · refine .yes rfl rfl rfl (by simpa using hg_5) <| .m rfl rfl <| .yes rfl rfl rfl (by simpa using hg_5) <| .e rfl (.neqN (b := 0) rfl rfl) <| .e rfl (.pickN rfl (by simpa using hg_5) rfl) <| .m rfl rfl ?_
              by_cases hg_6 : ue_2 ≠ 0
              · refine .no rfl rfl rfl (decide_eq_true hg_6) rfl <| .no rfl rfl rfl (decide_eq_true hg_6) rfl <| .no rfl rfl rfl (decide_eq_true hg_6) rfl <| .no rfl rfl rfl (decide_eq_true hg_6) rfl <| .no rfl rfl rfl (decide_eq_true hg_6) rfl <| .e rfl (.pickY rfl (decide_eq_true hg_6) rfl) <| .nil ?_
                exact ⟨⟨rfl, rfl, rfl, rfl, rfl, rfl, rfl, rfl, rfl, congrArg some (congrArg Value.bool (by simp [hg_5, hg_6])), trivial⟩, hs_37⟩
              · refine .yes rfl rfl rfl (decide_eq_false hg_6) <| .m rfl rfl <| .yes rfl rfl rfl (decide_eq_false hg_6) <| .e rfl (.lenL Tryz.underlying27 rfl (hs_37.rdL 4 rfl)) <| .yes rfl rfl rfl (decide_eq_false hg_6) <| .m rfl rfl <| .yes rfl rfl rfl (decide_eq_false hg_6) <| .f rfl (.call ent47 rfl ((ssize_ok _ (ax_1) (k) _ (hs_37.cell (i := 1) (j := 0) rfl rfl) (by omega) (by omega)).mono fun r_13 w_25 h_13 => ?_))
                obtain ⟨rfl, hp_13⟩ := h_13
                have hs_38 : Sat w0 ([cObj g 51 [abv_8, (.bool aok_8)], _, _, _, cL uv_2 3 (encN .i64) (ul_2)] ++ cs) _ := (hs_37.adds hp_13).mid
                refine .yes rfl rfl rfl (decide_eq_false hg_6) <| .e rfl (.neqN rfl rfl) <| .e rfl (.pickN rfl (decide_eq_false hg_6) rfl) <| .nil ?_
                exact ⟨⟨rfl, rfl, rfl, rfl, rfl, rfl, rfl, rfl, rfl, congrArg some (congrArg Value.bool (by simp [hg_5, hg_6])), trivial⟩, hs_38⟩
          · rintro L' w_26 ⟨hw_4, hs_39⟩
            refine .weaken _ hw_4 <| .condD rfl (fun hc_5 => ?_) (fun hc_5 => ?_)
            · refine .seq <| .region <| .s rfl rfl <| .s rfl rfl <| .nil <| .ret ?_
              show PostK _ _ _ _ _ _
              refine post2 rfl rfl rfl ?_
              have hs_40 : Sat w0 ([cObj g 51 [abv_8, (.bool aok_8)], _, _, _, cL uv_2 3 (encN .i64) (ul_2), cL (Value.slice none 0 0) 3 (encN .i64) ([])] ++ cs) _ := (hs_39.newNilL 3 (encN .i64)).mid
              have hs_41 : Sat w0 ([_, _] ++ cs) w_26 := hs_40.sub ((.cons_cons _ (.cons _ (.cons _ (.cons _ (.cons _ (.cons_cons _ (.refl _))))))))
              exact ⟨_, [], _, rfl, Nat.zero_le _, _, _, hs_41⟩
            · refine .skip ?_
              have hlen9 : (ul_2).length = min 64 (ax_1 - k * 64) := Classical.byContradiction fun h9 => hc_5 (by simp [h9])
              refine .region <| .m rfl rfl <| .m rfl rfl <| .f rfl (.appendL 3 sl27 hs_39 rfl rfl rfl Tryz.underlying27 (hs_39.rdL 4 rfl) (by omega) (by omega) fun v_4 w_27 hs_42 hch_7 => ?_)
              refine .s rfl rfl <| .nil <| .region <| .m rfl rfl <| .e rfl (.addI (b := 1) rfl rfl (by omega)) <| .s rfl rfl <| .nil ?_
              have hs_43 : Sat w0 ([_, _, _, _] ++ cs) w_27 := hs_42.sub ((.cons_cons _ (.cons_cons _ (.cons_cons _ (.cons_cons _ (.cons _ (.refl _)))))))
              exact ⟨(k + 1, abv_8, abl_8, aok_8, v_4, out ++ ul_2), ⟨rfl, rfl, rfl, rfl, trivial⟩, ⟨hs_43, by omega, hab_8, habb_8, habl_8, by rw [List.length_append]; omega⟩, (show (65 - (k + 1)) < (65 - k) from by omega)⟩
        · refine .exit0 <| .seq <| .draw (fun w' => Sat w0 ([cObj g 51 [bv2, (.bool ok2)], cObj b_1 65 [(.int .i64 ax_1), (.int .i64 ax_2), lv, (.slice none 0 0), (.int .i64 (0 : Nat)), (.slice none 0 0)], cL lv 3 (encN .i64) (lr_2), cL ov 3 (encN .i64) (out)] ++ cs) w') (.free 0 (.free 1 (.free 2 (.free 3 (.free 4 (.free 5 (.free 6 .fin))))))) mixed (by kernel_rfl) ?_
          have hs_44 := hs_32.drew
          refine .m rfl rfl hs_44 <| .m rfl rfl hs_44 <| .e rfl (fun w' hS' => .nilCheck rfl) hs_44 <| .e rfl (fun w' hS' => .fieldAddr fld51_1 rfl rfl) hs_44 <| .e rfl (fun w' hS' => .load scal4 rfl (hS'.cell (i := 0) (j := 1) rfl rfl)) hs_44 <| .e rfl (fun w' hS' => .assign rfl) hs_44 <| .e rfl (fun w' hS' => .assign rfl) hs_44 <| .fin <| .ret ?_
          show PostK _ _ _ _ _ _
          refine post2 rfl rfl rfl ?_
          have hs_45 : Sat w0 ([cObj g 51 [bv2, (.bool ok2)], cL ov 3 (encN .i64) (out)] ++ cs) w_20.drew := hs_44.sub ((.cons_cons _ (.cons _ (.cons _ (.cons_cons _ (.refl _))))))
          exact ⟨_, out, _, rfl, by omega, _, _, hs_45⟩
end Go.Proofs.YtecfgjdpghddgaaGreat
namespace Go.Proofs.YtecfgjdpghddgaaGreat
open Go.RowKit Go.Kw
set_option maxRecDepth 100000
theorem tdecode_no (v : Value) (b : List Nat) (w : World) (hv : RdL w v (encN .u8) b) (hb : ∀ x ∈ b, x < 256) (hn : b.length ≤ 900000) (hno : ¬ ∃ l, OkN l ∧ b = sealN (plK l (kindN l))) :
    CallsV Tryz.prog 5 [v] w fun r w' => r = .tuple #[.pointer none, .int .i64 9] ∧ Sat w [] w' := by
  have hs0 := Sat.start w
  refine callsV_of Tryz.func5 rfl rfl ?_
  refine .seq <| .region <| .s rfl rfl <| .s rfl rfl <| .nil <| .seq ?_
  rcases Classical.em (∃ p, b = sealN p) with hun | hun
  · obtain ⟨p0, hp0⟩ := hun
    have hpb : ∀ y ∈ p0, y < 256 := fun y hy => hb y (by rw [hp0]; exact List.mem_append_left _ hy)
    have hpn : p0.length + 4 ≤ 900000 := by rw [← sealN_length, ← hp0]; exact hn
    refine .region <| .m rfl rfl <| .f rfl (.call ent18 rfl ((unseal_p _ b p0 _ (hv.ext hs0.ext) hp0 hpb (by omega)).mono fun r_1 w_1 h_1 => ?_))
    obtain ⟨uv_1, rfl, hp_1⟩ := h_1
    have hs_1 := hs0.adds hp_1
    refine .m rfl rfl <| .e rfl (.extract rfl rfl) <| .e rfl (.extract rfl rfl) <| .s rfl rfl <| .s rfl rfl <| .nil <| .seq <| .seq <| .region <| .m rfl rfl <| .e rfl (.neqN (a := 0) (b := 0) rfl rfl) <| .nil <| .condF rfl (rfl) <| .skip <| .seq ?_
    have hpay := hs_1.rdL 0 rfl
    have hv1 := hv.ext hs_1.ext
    have hsb : Sat w_1 [] w_1 := Sat.start _
    have hpn2 : p0.length ≤ 1000000 := by omega
    refine .region <| .m rfl rfl <| .e rfl (.build bt51 rfl ⟨(hpay.ext hsb.ext).oneCell, rfl, trivial⟩ rfl) <| .f rfl (.alloc hsb zero51 fun b_1 w_2 hs_2 hch_1 hb_1 => ?_)
    refine .f rfl (.storeObjA (vs := [uv_1, (.bool true)]) agg51 hs_2 (i := 0) rfl rfl rfl rfl (fun v h => by simp only [List.mem_cons, List.not_mem_nil, or_false] at h; rcases h with rfl | rfl; exact (hpay.ext hs_2.ext).oneCell; exact rfl) fun w_3 hs_3 hch_2 => ?_)
    have hs_3d : Sat w_1 [cObj b_1 51 [uv_1, (.bool true)]] _ := hs_3
    refine .nil <| .seq <| .region ?_
    have hA_1 : Sat w_1 ([cObj b_1 51 [uv_1, (.bool true)]] ++ ([] ++ [])) _ := (Sat.order [0] (by decide) hs_3d.tail).cut 1
    refine .f rfl (.call ent19 rfl ((numbers_any _ _ _ _ _ true p0 hA_1 hpay hpb hpn2).mono fun r_2 w_4 h_2 => ?_))
    obtain ⟨nv_1, nl_1, nok_1, rfl, hnl_1, nbv_1, nok_2, hp_2⟩ := h_2
    have hs_4 : Sat w_1 [cObj b_1 51 [nbv_1, (.bool nok_2)], cL nv_1 3 (encN .i64) (nl_1)] _ := (Sat.order [0, 1] (by decide) hp_2.join).untail
    refine .m rfl rfl <| .e rfl (.extract rfl rfl) <| .e rfl (.extract rfl rfl) <| .s rfl rfl <| .s rfl rfl <| .nil <| .seq <| .seq <| .region <| .m rfl rfl <| .e rfl (.notB rfl) <| .nil <| .cond rfl (fun hc_1 => ?_) (fun hc_1 => ?_)
    · refine .seq <| .region <| .s rfl rfl <| .s rfl rfl <| .nil <| .ret ?_
      show PostK _ _ _ _ _ _
      refine post2 rfl rfl rfl ?_
      have hs_5 : Sat w_1 [] w_4 := hs_4.sub ((.cons _ (.cons _ .slnil)))
      exact ⟨rfl, (hs_1.adds hs_5).sub (.cons _ .slnil)⟩
    · refine .skip <| .seq ?_
      rcases Classical.em (OkN nl_1) with hl | hl
      · refine .region <| .m rfl rfl <| .f rfl (.call ent13 rfl ((build_ok _ (nl_1) _ (hs_4.rdL 1 rfl) (hl)).mono fun r_3 w_5 h_3 => ?_))
        obtain ⟨g_1, lv_1, bv_1, ps_1, rfl, hps_1, hp_3⟩ := h_3
        have hs_6 := hs_4.adds hp_3
        refine .m rfl rfl <| .e rfl (.extract rfl rfl) <| .e rfl (.extract rfl rfl) <| .s rfl rfl <| .s rfl rfl <| .nil <| .seq <| .seq ?_
        have hsb2 : ∀ x ∈ sealN (payl (nl_1).length (kindN nl_1) (lensK nl_1) (ptsOf ps_1)), x < 256 := fun x hx => sealed_lt rfl (plK_lt (kindN_le nl_1)) x (by rw [← payl_K, ← hps_1]; exact hx)
        refine .region <| .m rfl rfl <| .e rfl (.neqN (a := 0) (b := 0) rfl rfl) <| .m rfl rfl <| .yes rfl rfl rfl (rfl) <| .m rfl rfl <| .yes rfl rfl rfl (rfl) <| .f rfl (.call ent11 rfl ((sencode_ok g_1 ((nl_1).length) (kindN nl_1) lv_1 bv_1 (lensK nl_1) ps_1 _ (hs_6.cell (i := 2) (j := 0) rfl rfl) (hs_6.cell (i := 2) (j := 1) rfl rfl) (hs_6.cell (i := 2) (j := 2) rfl rfl) (hs_6.cell (i := 2) (j := 3) rfl rfl) (hs_6.rdL 3 rfl) (hs_6.rdL 4 rfl) (hs_6.rdParts 5 rfl) (hl.len) (kindN_le _) (lensK_len hl) ((ptsK_b hps_1 hl).1) ((ptsK_b hps_1 hl).2) (by rw [hps_1]; exact ptsK_lt _)).mono fun r_4 w_6 h_4 => ?_))
        have hp_4 := h_4
        have hs_7 := hs_6.adds hp_4
        refine .yes rfl rfl rfl (rfl) <| .m rfl rfl <| .yes rfl rfl rfl (rfl) <| .f rfl (.call ent20 rfl ((beq_ok _ _ (sealN (payl ((nl_1).length) (kindN nl_1) (lensK nl_1) (ptsOf ps_1))) (b) _ (hs_7.rdL 7 rfl) (hv1.ext hs_7.ext) (hsb2) (hb)).mono fun r_5 w_7 h_5 => ?_))
        obtain ⟨rfl, hp_5⟩ := h_5
        have hs_8 : Sat w_1 [_, _, _, _, _, _, _, _] _ := hs_7.adds hp_5
        refine .yes rfl rfl rfl (rfl) <| .e rfl (.notP rfl) <| .e rfl (.pickN rfl (rfl) rfl) <| .nil <| .condT rfl (decide_eq_true (fun heq => hno ⟨_, hl, by rw [← payl_K, ← hps_1]; exact heq.symm⟩)) <| .seq <| .region <| .s rfl rfl <| .s rfl rfl <| .nil <| .ret ?_
        show PostK _ _ _ _ _ _
        refine post2 rfl rfl rfl ?_
        have hs_9 : Sat w_1 [] w_7 := hs_8.sub ((.cons _ (.cons _ (.cons _ (.cons _ (.cons _ (.cons _ (.cons _ (.cons _ .slnil)))))))))
        exact ⟨rfl, (hs_1.adds hs_9).sub (.cons _ .slnil)⟩
      · refine .region <| .m rfl rfl <| .f rfl (.call ent13 rfl ((build_no (hs_4.rdL 1 rfl) hnl_1 hl).mono fun r_6 w_8 h_6 => ?_))
        obtain ⟨rfl, hp_6⟩ := h_6
        have hs_10 := hs_4.adds hp_6
        refine .m rfl rfl <| .e rfl (.extract rfl rfl) <| .e rfl (.extract rfl rfl) <| .s rfl rfl <| .s rfl rfl <| .nil <| .seq <| .seq <| .region <| .m rfl rfl <| .e rfl (.neqN (a := 8) (b := 0) rfl rfl) <| .m rfl rfl <| .no rfl rfl rfl (rfl) rfl <| .no rfl rfl rfl (rfl) rfl <| .no rfl rfl rfl (rfl) rfl <| .no rfl rfl rfl (rfl) rfl <| .no rfl rfl rfl (rfl) rfl <| .e rfl (.pickY rfl (rfl) rfl) <| .nil <| .condT rfl (rfl) <| .seq <| .region <| .s rfl rfl <| .s rfl rfl <| .nil <| .ret ?_
        show PostK _ _ _ _ _ _
        refine post2 rfl rfl rfl ?_
        have hs_11 : Sat w_1 [] w_8 := hs_10.sub ((.cons _ (.cons _ .slnil)))
        exact ⟨rfl, (hs_1.adds hs_11).sub (.cons _ .slnil)⟩
  · refine .region <| .m rfl rfl <| .f rfl (.call ent18 rfl ((unseal_no (hv.ext hs0.ext) hb (by omega) hun).mono fun r_7 w_9 h_7 => ?_))
    obtain ⟨ue_1, hue_1, rfl, hp_7⟩ := h_7
    have hs_12 := hs0.adds hp_7
    refine .m rfl rfl <| .e rfl (.extract rfl rfl) <| .e rfl (.extract rfl rfl) <| .s rfl rfl <| .s rfl rfl <| .nil <| .seq <| .seq <| .region <| .m rfl rfl <| .e rfl (.neq rfl rfl) <| .nil <| .condT rfl (decide_eq_true hue_1) <| .seq <| .region <| .s rfl rfl <| .s rfl rfl <| .nil <| .ret ?_
    show PostK _ _ _ _ _ _
    refine post2 rfl rfl rfl ?_
    have hs_13 : Sat w [] w_9 := hs_12.sub (.slnil)
    exact ⟨rfl, hs_13⟩
end Go.Proofs.YtecfgjdpghddgaaGreat
