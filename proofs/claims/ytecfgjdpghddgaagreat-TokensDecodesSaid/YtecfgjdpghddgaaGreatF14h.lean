/- The walks of the functions of F14h, printed by our own program (kwgen.py) out of our descriptions (base.py). -/
import Derived.Test.YtecfgjdpghddgaaGreatF14
import Derived.Test.YtecfgjdpghddgaaGreatMst
import Derived.Test.YtecfgjdpghddgaaGreatTab
import Derived.Test.YtecfgjdpghddgaaGreatKp
import Derived.Test.YtecfgjdpghddgaaGreatM14d
set_option linter.unusedVariables false
set_option linter.unusedSimpArgs false
set_option linter.unusedSectionVars false
namespace Go.Proofs.YtecfgjdpghddgaaGreat
open Go.RowKit Go.Kw
set_option maxRecDepth 100000
theorem lcmp_ok (a b : It) (w : World) (ha : a.w < 2 ^ 62) (hb : b.w < 2 ^ 62) :
    CallsV Tryz.prog 137 [((encIt).ag a), ((encIt).ag b)] w fun r w' => ∃ z : Int, r = .int .i64 z ∧ (z < 0 ↔ a.w < b.w) ∧ Sat w [] w' := by
  have hs0 := Sat.start w
  refine callsV_of Tryz.func137 rfl rfl ?_
  refine .seq <| .region <| .f rfl (.box hs0 rfl fun b_1 w_1 hs_1 hch_1 hb_1 => ?_)
  refine .f rfl (.box hs_1 rfl fun b_2 w_2 hs_2 hch_2 hb_2 => ?_)
  refine .s rfl rfl <| .nil <| .seq <| .region <| .e rfl (.fieldAddr fld149_0 rfl rfl) <| .e rfl (.load scal3 rfl (hs_2.cell (i := 0) (j := 0) rfl rfl)) <| .e rfl (.fieldAddr fld149_0 rfl rfl) <| .e rfl (.load scal3 rfl (hs_2.cell (i := 1) (j := 0) rfl rfl)) <| .e rfl (.sub rfl rfl (by unfold inI64; omega)) <| .s rfl rfl <| .nil <| .ret ?_
  show PostK _ _ _ _ _ _
  refine post1 rfl rfl ?_
  have hs_3 : Sat w [] w_2 := hs_2.sub ((.cons _ (.cons _ .slnil)))
  exact ⟨_, rfl, by omega, hs_3⟩
theorem ncmp_ok (a b : It) (w : World) (ha : a.w < 2 ^ 62) (hb : b.w < 2 ^ 62) :
    CallsV Tryz.prog 139 [((encIt).ag a), ((encIt).ag b)] w fun r w' => ∃ z : Int, r = .int .i64 z ∧ (z < 0 ↔ a.w < b.w) ∧ Sat w [] w' := by
  have hs0 := Sat.start w
  refine callsV_of Tryz.func139 rfl rfl ?_
  refine .seq <| .region <| .f rfl (.box hs0 rfl fun b_1 w_1 hs_1 hch_1 hb_1 => ?_)
  refine .f rfl (.box hs_1 rfl fun b_2 w_2 hs_2 hch_2 hb_2 => ?_)
  refine .s rfl rfl <| .nil <| .seq <| .region <| .e rfl (.fieldAddr fld149_0 rfl rfl) <| .e rfl (.load scal3 rfl (hs_2.cell (i := 0) (j := 0) rfl rfl)) <| .e rfl (.fieldAddr fld149_0 rfl rfl) <| .e rfl (.load scal3 rfl (hs_2.cell (i := 1) (j := 0) rfl rfl)) <| .e rfl (.sub rfl rfl (by unfold inI64; omega)) <| .s rfl rfl <| .nil <| .ret ?_
  show PostK _ _ _ _ _ _
  refine post1 rfl rfl ?_
  have hs_3 : Sat w [] w_2 := hs_2.sub ((.cons _ (.cons _ .slnil)))
  exact ⟨_, rfl, by omega, hs_3⟩
theorem hcheck_ok (v : Value) (c : List Nat) (w : World) (hv : RdL w v (encN .i64) c) (hn : c.length ≤ 1024) (hc : ∀ x ∈ c, x ≤ 4096) :
    CallsV Tryz.prog 104 [v, (.int .i64 (15 : Nat))] w fun r w' => r = .int .i64 0 ∧ Sat w [] w' := by
  have hs0 := Sat.start w
  refine callsV_of Tryz.func104 rfl rfl ?_
  refine .seq <| .region <| .s rfl rfl <| .nil <| .seq <| .block <| .seq <| .mid (fun L' w' => Weak [(0, v), (1, (.int .i64 (15 : Nat))), (4, (.int .i64 (0 : Nat))), (8, (.bool (decide ((15 < 1) ∨ (15 < 15)))))] L' ∧ Sat w [] w') ?_ ?_
  · refine .region <| .m rfl rfl <| .e rfl (.lssN (a := 15) (b := 1) rfl rfl) <| .m rfl rfl <| .yes rfl rfl rfl (rfl) <| .m rfl rfl <| .yes rfl rfl rfl (rfl) <| .e rfl (.gtrN (a := 15) (b := 15) rfl rfl) <| .e rfl (.pickN rfl (rfl) rfl) <| .s rfl rfl <| .nil ?_
    exact ⟨⟨rfl, rfl, rfl, congrArg some (congrArg Value.bool (by simp [])), trivial⟩, hs0⟩
  · rintro L' w_1 ⟨hw_1, hs_1⟩
    refine .weaken _ hw_1 <| .condF rfl (decide_eq_false (by omega)) <| .seq <| .region <| .m rfl rfl <| .e rfl (.lenL Tryz.underlying27 rfl (hv.ext hs_1.ext)) <| .e rfl (.gtrN (b := 1024) rfl rfl) <| .s rfl rfl <| .nil <| .condF rfl (decide_eq_false (by omega)) <| .skip <| .seq <| .region <| .s rfl rfl <| .nil <| .seq <| .seq <| .region <| .m rfl rfl <| .e rfl (.lenL Tryz.underlying27 rfl (hv.ext hs_1.ext)) <| .m rfl rfl <| .nil <| .block <| .loop (α := Nat × Nat) (fun (k, p) => [(1, (.int .i64 (15 : Nat))), (5, (.int .i64 p)), (19, v), (20, (.int .i64 c.length)), (21, (.int .i64 k))]) (fun (k, p) w' => Sat w [] w' ∧ (k ≤ c.length) ∧ (p ≤ k)) (fun (k, p) => c.length - k) (0, 0) ⟨rfl, rfl, rfl, rfl, rfl, trivial⟩ ⟨hs_1, Nat.zero_le _, Nat.le_refl _⟩ ?_
    rintro ⟨k, p⟩ w_2 ⟨hs_2, hk, hp⟩
    show CW _ _ _ _ [(1, (.int .i64 (15 : Nat))), (5, (.int .i64 p)), (19, v), (20, (.int .i64 c.length)), (21, (.int .i64 k))] _
    refine .seq <| .region <| .e rfl (.lssN rfl rfl) <| .nil <| .seq <| .condD rfl (fun hc_1 => ?_) (fun hc_1 => ?_)
    · refine .skip <| .seq <| .block <| .seq ?_
      obtain ⟨x, hx⟩ : ∃ x, (c)[k]? = some x := ⟨_, List.getElem?_eq_getElem hc_1⟩
      refine .region <| .e rfl (.idxL (E := encN .i64) sl27 rfl rfl (hv.ext hs_2.ext) (by omega)) <| .e rfl (.ldL (E := encN .i64) scal3 rfl (hv.ext hs_2.ext) hx (by decide) rfl) <| .s rfl rfl <| .nil <| .seq <| .seq <| .mid (fun L' w' => Weak [(1, (.int .i64 (15 : Nat))), (5, (.int .i64 p)), (7, (.int .i64 x)), (19, v), (20, (.int .i64 c.length)), (21, (.int .i64 k)), (22, (.bool (decide (k < c.length)))), (30, (.bool (decide ((x < 0) ∨ (4096 < x)))))] L' ∧ Sat w [] w') ?_ ?_
      · refine .region <| .m rfl rfl <| .e rfl (.lssN (b := 0) rfl rfl) <| .m rfl rfl ?_
        by_cases hg_1 : x < 0
        · refine .no rfl rfl rfl (decide_eq_true hg_1) rfl <| .no rfl rfl rfl (decide_eq_true hg_1) rfl <| .e rfl (.pickY rfl (decide_eq_true hg_1) rfl) <| .nil ?_
          exact ⟨⟨rfl, rfl, rfl, rfl, rfl, rfl, rfl, congrArg some (congrArg Value.bool (by simp [hg_1])), trivial⟩, hs_2⟩
        · refine .yes rfl rfl rfl (decide_eq_false hg_1) <| .m rfl rfl <| .yes rfl rfl rfl (decide_eq_false hg_1) <| .e rfl (.gtrN (b := 4096) rfl rfl) <| .e rfl (.pickN rfl (decide_eq_false hg_1) rfl) <| .nil ?_
          exact ⟨⟨rfl, rfl, rfl, rfl, rfl, rfl, rfl, congrArg some (congrArg Value.bool (by simp [hg_1])), trivial⟩, hs_2⟩
      · rintro L' w_3 ⟨hw_2, hs_3⟩
        refine .weaken _ hw_2 <| .condF rfl (decide_eq_false (by have := hc x (mem_of_get hx); omega)) <| .skip <| .seq <| .region <| .m rfl rfl <| .e rfl (.gtrN (b := 0) rfl rfl) <| .nil <| .condD rfl (fun hc_2 => ?_) (fun hc_2 => ?_)
        · refine .region <| .m rfl rfl <| .e rfl (.addI (b := 1) rfl rfl (by omega)) <| .s rfl rfl <| .nil <| .region <| .e rfl (.addI (b := 1) rfl rfl (by omega)) <| .m rfl rfl <| .nil ?_
          exact ⟨(k + 1, (p + 1)), ⟨rfl, rfl, rfl, rfl, rfl, trivial⟩, ⟨hs_3, by omega, by omega⟩, (show (c.length - (k + 1)) < (c.length - k) from by omega)⟩
        · refine .skip <| .region <| .e rfl (.addI (b := 1) rfl rfl (by omega)) <| .m rfl rfl <| .nil ?_
          exact ⟨(k + 1, p), ⟨rfl, rfl, rfl, rfl, rfl, trivial⟩, ⟨hs_3, by omega, by omega⟩, (show (c.length - (k + 1)) < (c.length - k) from by omega)⟩
    · refine .exit0 <| .seq <| .seq <| .region <| .m rfl rfl <| .m rfl rfl <| .e rfl (.shlI (a := 1) (b := 15) rfl rfl (by omega) (by omega)) <| .e rfl (.gtrN rfl rfl) <| .nil <| .condF rfl (decide_eq_false (by omega)) <| .skip <| .seq <| .region <| .s rfl rfl <| .nil <| .ret ?_
      show PostK _ _ _ _ _ _
      refine post1 rfl rfl ?_
      exact ⟨rfl, hs_2⟩
theorem valid_ok (v : Value) (l : List Nat) (w : World) (hv : RdL w v (encN .i64) l) (hn : l.length ≤ 1024) :
    CallsV Tryz.prog 73 [v] w fun r w' => r = .bool (validB l) ∧ Sat w [] w' := by
  have hs0 := Sat.start w
  refine callsV_of Tryz.func73 rfl rfl ?_
  refine .seq <| .region <| .s rfl rfl <| .nil <| .seq <| .seq <| .region <| .m rfl rfl <| .e rfl (.lenL Tryz.underlying27 rfl (hv.ext hs0.ext)) <| .e rfl (.gtrN (b := 1024) rfl rfl) <| .nil <| .condF rfl (decide_eq_false (by omega)) <| .skip <| .seq <| .region <| .s rfl rfl <| .nil <| .seq <| .seq <| .region <| .m rfl rfl <| .e rfl (.lenL Tryz.underlying27 rfl (hv.ext hs0.ext)) <| .m rfl rfl <| .nil <| .block <| .loop (α := Nat × Nat) (fun (k, s) => [(3, (.int .i64 s)), (9, v), (10, (.int .i64 l.length)), (11, (.int .i64 k))]) (fun (k, s) w' => Sat w [] w' ∧ (k ≤ l.length) ∧ (s = ksum (l.take k)) ∧ (s ≤ k * 2 ^ 14) ∧ (∀ x ∈ l.take k, x ≤ 15)) (fun (k, s) => l.length - k) (0, 0) ⟨rfl, rfl, rfl, rfl, trivial⟩ ⟨hs0, Nat.zero_le _, rfl, Nat.zero_le _, by simp⟩ ?_
  rintro ⟨k, s⟩ w_1 ⟨hs_1, hk, hsum, hsb, hall⟩
  show CW _ _ _ _ [(3, (.int .i64 s)), (9, v), (10, (.int .i64 l.length)), (11, (.int .i64 k))] _
  refine .seq <| .region <| .e rfl (.lssN rfl rfl) <| .nil <| .seq <| .condD rfl (fun hc_1 => ?_) (fun hc_1 => ?_)
  · refine .skip <| .seq <| .block <| .seq ?_
    obtain ⟨x, hx⟩ : ∃ x, (l)[k]? = some x := ⟨_, List.getElem?_eq_getElem hc_1⟩
    refine .region <| .e rfl (.idxL (E := encN .i64) sl27 rfl rfl (hv.ext hs_1.ext) (by omega)) <| .e rfl (.ldL (E := encN .i64) scal3 rfl (hv.ext hs_1.ext) hx (by decide) rfl) <| .s rfl rfl <| .nil <| .seq <| .seq <| .mid (fun L' w' => Weak [(3, (.int .i64 s)), (5, (.int .i64 x)), (9, v), (10, (.int .i64 l.length)), (11, (.int .i64 k)), (12, (.bool (decide (k < l.length)))), (20, (.bool (decide ((x < 0) ∨ (15 < x)))))] L' ∧ Sat w [] w') ?_ ?_
    · refine .region <| .m rfl rfl <| .e rfl (.lssN (b := 0) rfl rfl) <| .m rfl rfl ?_
      by_cases hg_1 : x < 0
      · refine .no rfl rfl rfl (decide_eq_true hg_1) rfl <| .no rfl rfl rfl (decide_eq_true hg_1) rfl <| .e rfl (.pickY rfl (decide_eq_true hg_1) rfl) <| .nil ?_
        exact ⟨⟨rfl, rfl, rfl, rfl, rfl, rfl, congrArg some (congrArg Value.bool (by simp [hg_1])), trivial⟩, hs_1⟩
      · refine .yes rfl rfl rfl (decide_eq_false hg_1) <| .m rfl rfl <| .yes rfl rfl rfl (decide_eq_false hg_1) <| .e rfl (.gtrN (b := 15) rfl rfl) <| .e rfl (.pickN rfl (decide_eq_false hg_1) rfl) <| .nil ?_
        exact ⟨⟨rfl, rfl, rfl, rfl, rfl, rfl, congrArg some (congrArg Value.bool (by simp [hg_1])), trivial⟩, hs_1⟩
    · rintro L' w_2 ⟨hw_1, hs_2⟩
      refine .weaken _ hw_1 <| .condD rfl (fun hc_2 => ?_) (fun hc_2 => ?_)
      · refine .seq <| .region <| .s rfl rfl <| .nil <| .ret ?_
        show PostK _ _ _ _ _ _
        refine post1 rfl rfl ?_
        exact ⟨by rw [validB_bad (mem_of_get hx) (by omega)], hs_2⟩
      · refine .skip <| .seq <| .region <| .m rfl rfl <| .e rfl (.gtrN (b := 0) rfl rfl) <| .nil <| .condD rfl (fun hc_3 => ?_) (fun hc_3 => ?_)
        · have h2 : 2 ^ (15 - x) ≤ 2 ^ 14 := Nat.pow_le_pow_right (by decide) (by omega)
          refine .region <| .m rfl rfl <| .m rfl rfl <| .e rfl (.subI (a := 15) rfl rfl (by omega) (by omega)) <| .e rfl (.shlI (a := 1) rfl rfl (by omega) (by omega)) <| .e rfl (.addI rfl rfl (by omega)) <| .s rfl rfl <| .nil <| .region <| .e rfl (.addI (b := 1) rfl rfl (by omega)) <| .m rfl rfl <| .nil ?_
          exact ⟨(k + 1, (s + (1 * 2 ^ (15 - x)))), ⟨rfl, rfl, rfl, rfl, trivial⟩, ⟨hs_2, by omega, by rw [take_succ_of hx, ksum_append, ← hsum]; simp [ksum, kr, hc_3], by omega, all_take hall hx (by omega)⟩, (show (l.length - (k + 1)) < (l.length - k) from by omega)⟩
        · refine .skip <| .region <| .e rfl (.addI (b := 1) rfl rfl (by omega)) <| .m rfl rfl <| .nil ?_
          exact ⟨(k + 1, s), ⟨rfl, rfl, rfl, rfl, trivial⟩, ⟨hs_2, by omega, by rw [take_succ_of hx, ksum_append, ← hsum]; simp [ksum, kr, hc_3], by omega, all_take hall hx (by omega)⟩, (show (l.length - (k + 1)) < (l.length - k) from by omega)⟩
  · refine .exit0 <| .seq <| .region <| .m rfl rfl <| .e rfl (.leqN (b := 32768) rfl rfl) <| .s rfl rfl <| .nil <| .ret ?_
    show PostK _ _ _ _ _ _
    refine post1 rfl rfl ?_
    rw [show k = l.length by omega, List.take_length] at hsum hall
    exact ⟨by rw [validB_of hall, hsum], hs_1⟩
theorem clone_ok (v : Value) (l : List It) (w : World) (hv : RdL w v encIt l) (hn : l.length ≤ 1000000) (h0 : 0 < l.length) :
    CallsV Tryz.prog 138 [v] w fun r w' => Sat w [cL r 149 encIt l] w' := by
  have hs0 := Sat.start w
  refine callsV_of Tryz.func138 rfl rfl ?_
  refine .seq <| .region <| .s rfl rfl <| .nil <| .seq <| .seq <| .region <| .m rfl rfl <| .e rfl (.eqlSlF Tryz.underlying146 rfl rfl (RdL.shp (E := encIt) (hv.ext hs0.ext) (by decide)) (by omega)) <| .nil <| .condF rfl (rfl) <| .skip <| .seq <| .region <| .f rfl (.lit0 (encIt) sl146 hs0 fun v_1 w_1 hs_1 hch_1 => ?_)
  refine .m rfl rfl <| .f rfl (.appendL 0 sl146 hs_1 rfl rfl rfl Tryz.underlying146 (hv.ext hs_1.ext) (by simp; omega) (by simp; omega) fun v_2 w_2 hs_2 hch_2 => ?_)
  refine .s rfl rfl <| .nil <| .ret ?_
  show PostK _ _ _ _ _ _
  refine post1 rfl rfl ?_
  exact hs_2
theorem leavesOf_ok (v : Value) (c : List Nat) (w : World) (hv : RdL w v (encN .i64) c) (hn : c.length ≤ 1024) (hc : ∀ x ∈ c, x ≤ 4096) :
    CallsV Tryz.prog 105 [v] w fun r w' => Sat w [cL r 149 encIt (leaves c)] w' := by
  have hs0 := Sat.start w
  refine callsV_of Tryz.func105 rfl rfl ?_
  refine .seq <| .region <| .s rfl rfl <| .nil <| .seq <| .region <| .s rfl rfl <| .nil <| .seq <| .seq <| .region <| .m rfl rfl <| .e rfl (.lenL Tryz.underlying27 rfl (hv.ext hs0.ext)) <| .m rfl rfl <| .nil <| .block ?_
  have hs_1 := hs0.newNilL 149 (encIt)
  refine .loop (α := Nat × Value) (fun (k, ov) => [(3, ov), (6, v), (7, (.int .i64 c.length)), (8, (.int .i64 k))]) (fun (k, ov) w' => Sat w [cL ov 149 (encIt) (leafAt 0 (c.take k))] w' ∧ (k ≤ c.length)) (fun (k, ov) => c.length - k) (0, (.slice none 0 0)) ⟨rfl, rfl, rfl, rfl, trivial⟩ ⟨hs_1, Nat.zero_le _⟩ ?_
  rintro ⟨k, ov⟩ w_1 ⟨hs_2, hk⟩
  show CW _ _ _ _ [(3, ov), (6, v), (7, (.int .i64 c.length)), (8, (.int .i64 k))] _
  refine .seq <| .region <| .e rfl (.lssN rfl rfl) <| .nil <| .seq <| .condD rfl (fun hc_1 => ?_) (fun hc_1 => ?_)
  · refine .skip <| .seq <| .block <| .seq ?_
    obtain ⟨x, hx⟩ : ∃ x, (c)[k]? = some x := ⟨_, List.getElem?_eq_getElem hc_1⟩
    refine .region <| .m rfl rfl <| .e rfl (.idxL (E := encN .i64) sl27 rfl rfl (hv.ext hs_2.ext) (by omega)) <| .e rfl (.ldL (E := encN .i64) scal3 rfl (hv.ext hs_2.ext) hx (by decide) rfl) <| .s rfl rfl <| .s rfl rfl <| .nil <| .seq <| .region <| .m rfl rfl <| .e rfl (.gtrN (b := 0) rfl rfl) <| .nil <| .condD rfl (fun hc_2 => ?_) (fun hc_2 => ?_)
    · have hll := leafAt_length (c.take k) 0
      rw [List.length_take] at hll
      refine .region <| .m rfl rfl <| .m rfl rfl <| .m rfl rfl <| .e rfl (.build bt149 rfl ⟨rfl, rfl, trivial⟩ rfl) <| .f rfl (.lit1A (encIt) (⟨x, k, 0, 0⟩ : It) sl146 (by decide) (by decide) hs_2 rfl fun v_1 w_2 hs_3 hch_1 => ?_)
      refine .f rfl (.appendL 0 sl146 hs_3 rfl rfl rfl Tryz.underlying146 (hs_3.rdL 1 rfl) (by simp; omega) (by simp; omega) fun v_2 w_3 hs_4 hch_2 => ?_)
      have hs_4d : Sat w [cL v_2 149 (encIt) (leafAt 0 (c.take k) ++ [(⟨x, k, 0, 0⟩ : It)])] _ := hs_4.drop 1
      refine .s rfl rfl <| .nil <| .region <| .e rfl (.addI (b := 1) rfl rfl (by omega)) <| .m rfl rfl <| .nil ?_
      have hs_5 : Sat w [cL v_2 149 (encIt) (leafAt 0 (c.take (k + 1)))] w_3 := by
        have hq : leafAt 0 (c.take k) ++ [(⟨x, k, 0, 0⟩ : It)] = leafAt 0 (c.take (k + 1)) := by rw [take_succ_of hx, leafAt_snoc]; simp [hc_2]; try omega
        rw [← hq]; exact hs_4d
      exact ⟨(k + 1, v_2), ⟨rfl, rfl, rfl, rfl, trivial⟩, ⟨hs_5, by omega⟩, (show (c.length - (k + 1)) < (c.length - k) from by omega)⟩
    · refine .skip <| .region <| .e rfl (.addI (b := 1) rfl rfl (by omega)) <| .m rfl rfl <| .nil ?_
      have hs_6 : Sat w [cL ov 149 (encIt) (leafAt 0 (c.take (k + 1)))] w_1 := by
        have hq : leafAt 0 (c.take k) = leafAt 0 (c.take (k + 1)) := by rw [take_succ_of hx, leafAt_snoc]; simp [hc_2]; try omega
        rw [← hq]; exact hs_2
      exact ⟨(k + 1, ov), ⟨rfl, rfl, rfl, rfl, trivial⟩, ⟨hs_6, by omega⟩, (show (c.length - (k + 1)) < (c.length - k) from by omega)⟩
  · refine .exit0 <| .seq ?_
    have hs_7 : Sat w [cL ov 149 (encIt) (leafAt 0 c)] w_1 := by
      have hq : leafAt 0 (c.take k) = leafAt 0 c := by rw [show k = c.length by omega, List.take_length]
      rw [← hq]; exact hs_2
    refine .region <| .m rfl rfl ?_
    have hA_1 : Sat w ([cL ov 149 (encIt) (leafAt 0 c)] ++ ([] ++ [])) _ := (Sat.order [0] (by decide) hs_7.tail).cut 1
    refine .f rfl (.call ent136 rfl ((srtIt w _ _ ov (leafAt 0 c) (It.w) (fun x : It => x.w < 2 ^ 62) 137 #[] ent137 (fun _ w _ a b ha hb => lcmp_ok a b w ha hb) hA_1 (fun x hx => by have := hc _ (leafAt_mem _ _ x hx).1; show x.w < 2 ^ 62; omega) (by have := leafAt_length c 0; omega)).mono fun r_1 w_4 h_1 => ?_))
    obtain ⟨rfl, hp_1⟩ := h_1
    have hs_8 : Sat w [cL ov 149 (encIt) (ssort (It.w) (leafAt 0 c))] _ := (Sat.order [0] (by decide) hp_1.join).untail
    refine .nil <| .seq <| .region <| .m rfl rfl <| .s rfl rfl <| .nil <| .ret ?_
    show PostK _ _ _ _ _ _
    refine post1 rfl rfl ?_
    exact hs_8
theorem icmp_ok (a b g : Nat) (v : Value) (l : List Nat) (w : World) (hc : w.cell? ⟨g, 0, none⟩ = some v) (hv : RdL w v (encN .i64) l) (hb : ∀ x ∈ l, x < 2 ^ 62) (ha : a < l.length) (hb2 : b < l.length) :
    CallsV Tryz.prog 144 [(.int .i64 a), (.int .i64 b), (.pointer (some ⟨g, 0, none⟩))] w fun r w' => ∃ z : Int, r = .int .i64 z ∧ (z < 0 ↔ l.getD a 0 < l.getD b 0) ∧ Sat w [] w' := by
  have hs0 := Sat.start w
  refine callsV_of Tryz.func144 rfl rfl ?_
  refine .seq <| .region <| .s rfl rfl <| .nil <| .seq ?_
  obtain ⟨x, hx⟩ : ∃ x, (l)[a]? = some x := ⟨_, List.getElem?_eq_getElem (ha)⟩
  obtain ⟨y, hy⟩ : ∃ y, (l)[b]? = some y := ⟨_, List.getElem?_eq_getElem (hb2)⟩
  have h1 := hb x (mem_of_get hx)
  have h2 := hb y (mem_of_get hy)
  refine .draw (fun w' => Sat w [] w') (.free 0 (.free 1 (.free 2 (.free 3 (.free 4 (.free 5 (.free 6 (.free 7 (.free 8 (.free 9 .fin)))))))))) mixed (by kernel_rfl) ?_
  have hs_1 := hs0.drew
  refine .e rfl (fun w' hS' => .load scal27 rfl (hS'.ext _ _ hc)) hs_1 <| .m rfl rfl hs_1 <| .e rfl (fun w' hS' => .idxL (E := encN .i64) sl27 rfl rfl (hv.ext hS'.ext) (by omega)) hs_1 <| .e rfl (fun w' hS' => .ldL (E := encN .i64) scal3 rfl (hv.ext hS'.ext) hx (by decide) rfl) hs_1 <| .e rfl (fun w' hS' => .load scal27 rfl (hS'.ext _ _ hc)) hs_1 <| .m rfl rfl hs_1 <| .e rfl (fun w' hS' => .idxL (E := encN .i64) sl27 rfl rfl (hv.ext hS'.ext) (by omega)) hs_1 <| .e rfl (fun w' hS' => .ldL (E := encN .i64) scal3 rfl (hv.ext hS'.ext) hy (by decide) rfl) hs_1 <| .e rfl (fun w' hS' => .sub rfl rfl (by unfold inI64; omega)) hs_1 <| .e rfl (fun w' hS' => .assign rfl) hs_1 <| .fin <| .ret ?_
  show PostK _ _ _ _ _ _
  refine post1 rfl rfl ?_
  have hs_2 : Sat w [] w.drew := hs_1.sub (.slnil)
  exact ⟨_, rfl, by rw [List.getD_eq_getElem?_getD, List.getD_eq_getElem?_getD, hx, hy]; simp only [Option.getD_some]; omega, hs_2⟩
theorem inOrder_ok (v : Value) (l : List Nat) (w : World) (hv : RdL w v (encN .i64) l) (hn : l.length ≤ 1024) (hb : ∀ x ∈ l, x < 2 ^ 62) :
    CallsV Tryz.prog 113 [v] w fun r w' => Sat w [cL r 3 (encN .i64) (inOrd l)] w' := by
  have hs0 := Sat.start w
  refine callsV_of Tryz.func113 rfl rfl ?_
  refine .seq <| .region <| .f rfl (.box hs0 rfl fun b_1 w_1 hs_1 hch_1 hb_1 => ?_)
  have hs_1d : Sat w [cObj b_1 27 [v]] w_1 := by
    have hq := cells_one ((hv.ext hs0.ext).oneCell)
    rw [hq] at hs_1; exact hs_1
  refine .s rfl rfl <| .nil <| .seq <| .region <| .s rfl rfl <| .nil <| .seq <| .seq <| .region <| .e rfl (.load scal27 rfl (hs_1d.cell (i := 0) (j := 0) rfl rfl)) <| .e rfl (.lenL Tryz.underlying27 rfl (hv.ext hs_1d.ext)) <| .m rfl rfl <| .nil <| .block ?_
  have hs_2 := hs_1d.newNilL 3 (encN .i64)
  refine .loop (α := Nat × Value) (fun (k, ov) => [(1, (.pointer (some ⟨b_1, 0, none⟩))), (3, ov), (6, v), (7, (.int .i64 l.length)), (8, (.int .i64 k))]) (fun (k, ov) w' => Sat w [cObj b_1 27 [v], cL ov 3 (encN .i64) (presAt 0 (l.take k))] w' ∧ (k ≤ l.length)) (fun (k, ov) => l.length - k) (0, (.slice none 0 0)) ⟨rfl, rfl, rfl, rfl, rfl, trivial⟩ ⟨hs_2, Nat.zero_le _⟩ ?_
  rintro ⟨k, ov⟩ w_2 ⟨hs_3, hk⟩
  show CW _ _ _ _ [(1, (.pointer (some ⟨b_1, 0, none⟩))), (3, ov), (6, v), (7, (.int .i64 l.length)), (8, (.int .i64 k))] _
  refine .seq <| .region <| .e rfl (.lssN rfl rfl) <| .nil <| .seq <| .condD rfl (fun hc_1 => ?_) (fun hc_1 => ?_)
  · refine .skip <| .seq <| .block <| .seq ?_
    obtain ⟨x, hx⟩ : ∃ x, (l)[k]? = some x := ⟨_, List.getElem?_eq_getElem hc_1⟩
    refine .region <| .m rfl rfl <| .e rfl (.idxL (E := encN .i64) sl27 rfl rfl (hv.ext hs_3.ext) (by omega)) <| .e rfl (.ldL (E := encN .i64) scal3 rfl (hv.ext hs_3.ext) hx (by decide) rfl) <| .s rfl rfl <| .s rfl rfl <| .nil <| .seq <| .region <| .m rfl rfl <| .e rfl (.gtrN (b := 0) rfl rfl) <| .nil <| .condD rfl (fun hc_2 => ?_) (fun hc_2 => ?_)
    · have hll := presAt_length (l.take k) 0
      rw [List.length_take] at hll
      refine .region <| .m rfl rfl <| .m rfl rfl <| .f rfl (.lit1 (encN .i64) k sl27 rfl hs_3 rfl fun v_1 w_3 hs_4 hch_2 => ?_)
      refine .f rfl (.appendL 1 sl27 hs_4 rfl rfl rfl Tryz.underlying27 (hs_4.rdL 2 rfl) (by simp; omega) (by simp; omega) fun v_2 w_4 hs_5 hch_3 => ?_)
      have hs_5d : Sat w [_, cL v_2 3 (encN .i64) (presAt 0 (l.take k) ++ [k])] _ := hs_5.drop 2
      refine .s rfl rfl <| .nil <| .region <| .e rfl (.addI (b := 1) rfl rfl (by omega)) <| .m rfl rfl <| .nil ?_
      have hs_6 : Sat w [cObj b_1 27 [v], cL v_2 3 (encN .i64) (presAt 0 (l.take (k + 1)))] w_4 := by
        have hq : presAt 0 (l.take k) ++ [k] = presAt 0 (l.take (k + 1)) := by rw [take_succ_of hx, presAt_snoc]; simp [hc_2]; try omega
        rw [← hq]; exact hs_5d
      exact ⟨(k + 1, v_2), ⟨rfl, rfl, rfl, rfl, rfl, trivial⟩, ⟨hs_6, by omega⟩, (show (l.length - (k + 1)) < (l.length - k) from by omega)⟩
    · refine .skip <| .region <| .e rfl (.addI (b := 1) rfl rfl (by omega)) <| .m rfl rfl <| .nil ?_
      have hs_7 : Sat w [cObj b_1 27 [v], cL ov 3 (encN .i64) (presAt 0 (l.take (k + 1)))] w_2 := by
        have hq : presAt 0 (l.take k) = presAt 0 (l.take (k + 1)) := by rw [take_succ_of hx, presAt_snoc]; simp [hc_2]; try omega
        rw [← hq]; exact hs_3
      exact ⟨(k + 1, ov), ⟨rfl, rfl, rfl, rfl, rfl, trivial⟩, ⟨hs_7, by omega⟩, (show (l.length - (k + 1)) < (l.length - k) from by omega)⟩
  · refine .exit0 <| .seq ?_
    have hs_8 : Sat w [cObj b_1 27 [v], cL ov 3 (encN .i64) (presAt 0 l)] w_2 := by
      have hq : presAt 0 (l.take k) = presAt 0 l := by rw [show k = l.length by omega, List.take_length]
      rw [← hq]; exact hs_3
    refine .region <| .m rfl rfl <| .e rfl (.makeFunc1 rfl) ?_
    have hA_1 : Sat w ([cL ov 3 (encN .i64) (presAt 0 l)] ++ ([cObj b_1 27 [v]] ++ [])) _ := (Sat.order [1, 0] (by decide) hs_8.tail).cut 1
    refine .f rfl (.call ent143 rfl ((srtIn w _ _ ov (presAt 0 l) (lenKey l) (fun i => i < l.length) 144 #[(.pointer (some ⟨b_1, 0, none⟩))] ent144 (fun _ w' hq a b ha hb2 => icmp_ok a b _ v l w' (hq.cell (i := 1) (j := 0) rfl rfl) (hv.ext hq.ext) hb ha hb2) hA_1 (fun x hx => by have := presAt_mem _ _ x hx; omega) (by have := presAt_length l 0; omega)).mono fun r_1 w_5 h_1 => ?_))
    obtain ⟨rfl, hp_1⟩ := h_1
    have hs_9 : Sat w [cObj b_1 27 [v], cL ov 3 (encN .i64) (ssort (lenKey l) (presAt 0 l))] _ := (Sat.order [1, 0] (by decide) hp_1.join).untail
    refine .nil <| .seq <| .region <| .m rfl rfl <| .s rfl rfl <| .nil <| .ret ?_
    show PostK _ _ _ _ _ _
    refine post1 rfl rfl ?_
    have hs_10 : Sat w [_] w_5 := hs_9.sub ((.cons _ (.cons_cons _ .slnil)))
    exact hs_10
theorem codesOf_ok (v : Value) (l : List Nat) (w : World) (hv : RdL w v (encN .i64) l) (hn : l.length ≤ 1024) (hb : ∀ x ∈ l, x ≤ 15) :
    CallsV Tryz.prog 107 [v] w fun r w' => Sat w [cL r 56 (encN .u64) (codesN l)] w' := by
  have hs0 := Sat.start w
  refine callsV_of Tryz.func107 rfl rfl ?_
  refine .seq <| .region <| .s rfl rfl <| .nil <| .seq ?_
  have hil := inOrd_length l
  refine .region <| .m rfl rfl <| .e rfl (.lenL Tryz.underlying27 rfl (hv.ext hs0.ext)) <| .f rfl (.makeL (encN .u64) (0) sl92 rfl hs0 rfl rfl (by omega) (by omega) (by omega) fun v_1 w_1 hs_1 hch_1 => ?_)
  refine .s rfl rfl <| .nil <| .seq <| .region <| .s rfl rfl <| .s rfl rfl <| .nil <| .seq <| .seq <| .region <| .m rfl rfl <| .f rfl (.call ent113 rfl ((inOrder_ok _ (l) _ (hv.ext hs_1.ext) (hn) (fun x hx => by have := hb x hx; omega)).mono fun r_1 w_2 h_1 => ?_))
  have hp_1 := h_1
  have hs_2 := hs_1.adds hp_1
  refine .e rfl (.lenL Tryz.underlying27 rfl (hs_2.rdL 1 rfl)) <| .m rfl rfl <| .nil <| .block <| .loop (α := Nat × Nat × Nat × List Nat) (fun (k, code, bef, cds) => [(0, v), (3, v_1), (4, (.int .u64 code)), (5, (.int .i64 bef)), (12, r_1), (13, (.int .i64 ((inOrd (l)).length : Nat))), (14, (.int .i64 k))]) (fun (k, code, bef, cds) w' => Sat w [cL v_1 56 (encN .u64) (cds), cL r_1 3 (encN .i64) (inOrd (l))] w' ∧ (k ≤ (inOrd l).length) ∧ (cdSt l ((inOrd l).take k) = (k, code, bef, cds)) ∧ (code < 2 ^ 64) ∧ (cds.length = l.length) ∧ (∀ j y, k ≤ j → (inOrd l)[j]? = some y → bef ≤ lenKey l y)) (fun (k, code, bef, cds) => (inOrd l).length - k) (0, 0, 0, List.replicate l.length 0) ⟨rfl, rfl, rfl, rfl, rfl, rfl, rfl, trivial⟩ ⟨hs_2, Nat.zero_le _, rfl, by omega, by simp, fun _ _ _ _ => Nat.zero_le _⟩ ?_
  rintro ⟨k, code, bef, cds⟩ w_3 ⟨hs_3, hk, hst, hcd, hcl, hbef⟩
  show CW _ _ _ _ [(0, v), (3, v_1), (4, (.int .u64 code)), (5, (.int .i64 bef)), (12, r_1), (13, (.int .i64 ((inOrd (l)).length : Nat))), (14, (.int .i64 k))] _
  refine .seq <| .region <| .e rfl (.lssN rfl rfl) <| .nil <| .seq <| .condD rfl (fun hc_1 => ?_) (fun hc_1 => ?_)
  · refine .skip <| .seq <| .block <| .seq ?_
    obtain ⟨x, hx⟩ : ∃ x, (inOrd (l))[k]? = some x := ⟨_, List.getElem?_eq_getElem (hc_1)⟩
    have hxm := inOrd_mem l x (mem_of_get hx)
    obtain ⟨n, hn1⟩ : ∃ n, l[x]? = some n := ⟨_, List.getElem?_eq_getElem hxm.1⟩
    have hnk : lenKey l x = n := by simp [lenKey, List.getD_eq_getElem?_getD, hn1]
    have hbn := hbef k x (Nat.le_refl _) hx
    have hn15 := hb n (mem_of_get hn1)
    refine .region <| .m rfl rfl <| .e rfl (.idxL (E := encN .i64) sl27 rfl rfl (hs_3.rdL 1 rfl) (by omega)) <| .e rfl (.ldL (E := encN .i64) scal3 rfl (hs_3.rdL 1 rfl) hx (by decide) rfl) <| .s rfl rfl <| .s rfl rfl <| .nil <| .seq <| .seq <| .region <| .m rfl rfl <| .e rfl (.gtrN (b := 0) rfl rfl) <| .nil <| .condD rfl (fun hc_2 => ?_) (fun hc_2 => ?_)
    · refine .region <| .m rfl rfl <| .e rfl (.addN (b := 1) rfl rfl rfl) <| .m rfl rfl <| .m rfl rfl <| .e rfl (.idxL (E := encN .i64) sl27 rfl rfl (hv.ext hs_3.ext) (by omega)) <| .e rfl (.ldL (E := encN .i64) scal3 rfl (hv.ext hs_3.ext) hn1 (by decide) rfl) <| .m rfl rfl <| .e rfl (.subI rfl rfl (by omega) (by omega)) <| .e rfl (.shlN rfl rfl rfl (by (try simp only [IntKind.bits]); omega)) <| .s rfl rfl <| .nil <| .region <| .m rfl rfl <| .m rfl rfl <| .m rfl rfl <| .m rfl rfl <| .m rfl rfl <| .e rfl (.idxL (E := encN .i64) sl27 rfl rfl (hv.ext hs_3.ext) (by omega)) <| .e rfl (.ldL (E := encN .i64) scal3 rfl (hv.ext hs_3.ext) hn1 (by decide) rfl) <| .e rfl (.idxL (E := encN .u64) sl92 rfl rfl (hs_3.rdL 0 rfl) (by omega)) <| .f rfl (.setL (a := (((code + 1) % 2 ^ 64) * 2 ^ (n - bef) % 2 ^ 64)) 0 one56 hs_3 rfl rfl rfl rfl (by omega) fun w_4 hs_4 hch_2 => ?_)
      have hs_4d : Sat w [cL v_1 56 (encN .u64) (cds.set x (((code + 1) % 2 ^ 64) * 2 ^ (n - bef) % 2 ^ 64)), _] _ := hs_4
      refine .s rfl rfl <| .nil <| .region <| .e rfl (.addI (b := 1) rfl rfl (by omega)) <| .m rfl rfl <| .nil ?_
      exact ⟨(k + 1, (((code + 1) % 2 ^ 64) * 2 ^ (n - bef) % 2 ^ 64), n, cds.set x (((code + 1) % 2 ^ 64) * 2 ^ (n - bef) % 2 ^ 64)), ⟨rfl, rfl, rfl, rfl, rfl, rfl, rfl, trivial⟩, ⟨hs_4d, by omega, by rw [take_succ_of hx, cdSt_snoc, hst]; simp [cdStep, hnk, hc_2]; try omega, by omega, by simp only [List.length_set]; exact hcl, fun j y hj hy => by rw [← hnk]; exact (ssort_srt _).get (by omega) hx hy⟩, (show ((inOrd l).length - (k + 1)) < ((inOrd l).length - k) from by omega)⟩
    · refine .skip <| .region <| .m rfl rfl <| .m rfl rfl <| .m rfl rfl <| .m rfl rfl <| .m rfl rfl <| .e rfl (.idxL (E := encN .i64) sl27 rfl rfl (hv.ext hs_3.ext) (by omega)) <| .e rfl (.ldL (E := encN .i64) scal3 rfl (hv.ext hs_3.ext) hn1 (by decide) rfl) <| .e rfl (.idxL (E := encN .u64) sl92 rfl rfl (hs_3.rdL 0 rfl) (by omega)) <| .f rfl (.setL (a := code) 0 one56 hs_3 rfl rfl rfl rfl (by omega) fun w_5 hs_5 hch_3 => ?_)
      refine .s rfl rfl <| .nil <| .region <| .e rfl (.addI (b := 1) rfl rfl (by omega)) <| .m rfl rfl <| .nil ?_
      exact ⟨(k + 1, code, n, cds.set x code), ⟨rfl, rfl, rfl, rfl, rfl, rfl, rfl, trivial⟩, ⟨hs_5, by omega, by rw [take_succ_of hx, cdSt_snoc, hst]; simp [cdStep, hnk, hc_2]; try omega, by omega, by simp only [List.length_set]; exact hcl, fun j y hj hy => by rw [← hnk]; exact (ssort_srt _).get (by omega) hx hy⟩, (show ((inOrd l).length - (k + 1)) < ((inOrd l).length - k) from by omega)⟩
  · refine .exit0 <| .seq <| .region <| .m rfl rfl <| .s rfl rfl <| .nil <| .ret ?_
    show PostK _ _ _ _ _ _
    refine post1 rfl rfl ?_
    have hs_6 : Sat w [cL v_1 56 (encN .u64) (cds)] w_3 := hs_3.sub ((.cons_cons _ (.cons _ .slnil)))
    have hs_7 : Sat w [cL v_1 56 (encN .u64) (codesN l)] w_3 := by
      have hq : cds = codesN l := by unfold codesN; rw [show inOrd l = (inOrd l).take k by rw [show k = (inOrd l).length by omega, List.take_length], hst]
      rw [← hq]; exact hs_6
    exact hs_7
theorem next_ok (v u : Value) (l b : List It) (W : Nat) (w : World) (hv : RdL w v encIt l) (hu : RdL w u encIt b) (hn : l.length ≤ 4096) (hl0 : 0 < l.length) (hbn : b.length ≤ 8192) (hwl : ∀ x ∈ l, x.w ≤ W) (hwb : ∀ x ∈ b, x.w ≤ W) (hW : W ≤ 2 ^ 50) :
    CallsV Tryz.prog 106 [v, u] w fun r w' => Sat w [cL r 149 encIt (nextL l b)] w' := by
  have hs0 := Sat.start w
  refine callsV_of Tryz.func106 rfl rfl ?_
  refine .seq <| .region <| .s rfl rfl <| .nil <| .seq <| .region <| .m rfl rfl <| .f rfl (.call ent138 rfl ((clone_ok _ (l) _ (hv.ext hs0.ext) (by omega) (by omega)).mono fun r_1 w_1 h_1 => ?_))
  have hp_1 := h_1
  have hs_1 := hs0.adds hp_1
  refine .s rfl rfl <| .nil <| .seq <| .seq <| .region <| .s rfl rfl <| .nil <| .block ?_
  have hs_2 : Sat w [cL r_1 149 (encIt) (l ++ pkgAt 0 (b.take (2 * 0)))] w_1 := by
    have hq : l = l ++ pkgAt 0 (b.take (2 * 0)) := by simp [pkgAt]
    rw [← hq]; exact hs_1
  refine .loop (α := Nat × Value) (fun (q, ov) => [(1, u), (5, ov), (6, (.int .i64 ((2 * q) : Nat)))]) (fun (q, ov) w' => Sat w [cL ov 149 (encIt) (l ++ pkgAt 0 (b.take (2 * q)))] w' ∧ (2 * q ≤ b.length)) (fun (q, ov) => b.length - 2 * q) (0, r_1) ⟨rfl, rfl, rfl, trivial⟩ ⟨hs_2, Nat.zero_le _⟩ ?_
  rintro ⟨q, ov⟩ w_2 ⟨hs_3, hq⟩
  show CW _ _ _ _ [(1, u), (5, ov), (6, (.int .i64 ((2 * q) : Nat)))] _
  refine .seq <| .seq <| .region <| .m rfl rfl <| .e rfl (.addI (b := 1) rfl rfl (by omega)) <| .m rfl rfl <| .e rfl (.lenL Tryz.underlying146 rfl (hu.ext hs_3.ext)) <| .e rfl (.lssN rfl rfl) <| .nil <| .condD rfl (fun hc_1 => ?_) (fun hc_1 => ?_)
  · refine .skip <| .seq <| .block ?_
    obtain ⟨x, hx⟩ : ∃ x, (b)[(2 * q)]? = some x := ⟨_, List.getElem?_eq_getElem (by omega)⟩
    obtain ⟨y, hy⟩ : ∃ y, (b)[((2 * q) + 1)]? = some y := ⟨_, List.getElem?_eq_getElem (by omega)⟩
    have h1 := hwb x (mem_of_get hx)
    have h2 := hwb y (mem_of_get hy)
    have hpl := pkgAt_length 0 (b.take (2 * q))
    rw [List.length_take] at hpl
    have hshp_1 := (hs_3.rdL (E := encIt) 0 rfl).shp (by decide)
    refine .draw (fun w' => Sat w [] w') (.free 0 (.free 1 (.free 2 (.free 3 (.free 4 (.free 5 (.free 6 (.free 7 (.free 8 (.free 9 (.free 10 (.free 11 (.free 12 (.free 13 (.free 14 (.free 15 (.free 16 (.one 17 (.one 18 (.free 19 .fin)))))))))))))))))))) mixed (by kernel_rfl) ?_
    have hs_4 := hs_3.drew
    have hS_1 : Sat w [] _ := hs_4.sub ((.cons _ .slnil))
    refine .m rfl rfl hS_1 <| .m rfl rfl hS_1 <| .m rfl rfl hS_1 <| .e rfl (fun w' hS' => .idxL (E := encIt) sl146 rfl rfl (hu.ext hS'.ext) (by omega)) hS_1 <| .e rfl (fun w' hS' => .fldL (E := encIt) fld149_0 rfl (hu.ext hS'.ext) (by omega) (by decide)) hS_1 <| .e rfl (fun w' hS' => .ldLF (E := encIt) scal3 rfl (hu.ext hS'.ext) hx (by decide) rfl) hS_1 <| .m rfl rfl hS_1 <| .m rfl rfl hS_1 <| .e rfl (fun w' hS' => .addI (b := 1) rfl rfl (by omega)) hS_1 <| .e rfl (fun w' hS' => .idxL (E := encIt) sl146 rfl rfl (hu.ext hS'.ext) (by omega)) hS_1 <| .e rfl (fun w' hS' => .fldL (E := encIt) fld149_0 rfl (hu.ext hS'.ext) (by omega) (by decide)) hS_1 <| .e rfl (fun w' hS' => .ldLF (E := encIt) scal3 rfl (hu.ext hS'.ext) hy (by decide) rfl) hS_1 <| .e rfl (fun w' hS' => .addI rfl rfl (by omega)) hS_1 <| .m rfl rfl hS_1 <| .m rfl rfl hS_1 <| .e rfl (fun w' hS' => .addI (b := 1) rfl rfl (by omega)) hS_1 <| .e rfl (fun w' hS' => .build bt149 rfl ⟨rfl, rfl, rfl, rfl, trivial⟩ rfl) hS_1 <| .f rfl (.lit1A (encIt) (⟨x.w + y.w, -1, 2 * q, 2 * q + 1⟩ : It) sl146 (by decide) (by decide) hs_4 rfl fun v_1 w_3 hs_5 hch_1 => ?_)
    have hS_2 : Sat w [] _ := hs_5.sub ((.cons _ (.cons _ .slnil)))
    refine ⟨hS_2, ?_⟩
    refine .f rfl (.appendL 0 sl146 hs_5 rfl rfl rfl Tryz.underlying146 (hs_5.rdL 1 rfl) (by simp; omega) (by simp; omega) fun v_2 w_4 hs_6 hch_2 => ?_)
    have hs_6d : Sat w [cL v_2 149 (encIt) (l ++ pkgAt 0 (b.take (2 * q)) ++ [(⟨x.w + y.w, -1, 2 * q, 2 * q + 1⟩ : It)])] _ := hs_6.drop 1
    have hS_3 : Sat w [] _ := hs_6d.sub ((.cons _ .slnil))
    refine ⟨hS_3, ?_⟩
    refine .e rfl (fun w' hS' => .assign rfl) hS_3 <| .fin <| .region <| .m rfl rfl <| .e rfl (.addI (b := 2) rfl rfl (by omega)) <| .s rfl rfl <| .nil ?_
    have hs_7 : Sat w [cL v_2 149 (encIt) (l ++ pkgAt 0 (b.take (2 * (q + 1))))] w_4 := by
      have hq : l ++ pkgAt 0 (b.take (2 * q)) ++ [(⟨x.w + y.w, -1, 2 * q, 2 * q + 1⟩ : It)] = l ++ pkgAt 0 (b.take (2 * (q + 1))) := by rw [pkgAt_snoc q 0 b x y hx hy]; simp
      rw [← hq]; exact hs_6d
    exact ⟨(q + 1, v_2), ⟨rfl, rfl, rfl, trivial⟩, ⟨hs_7, by omega⟩, (show (b.length - 2 * (q + 1)) < (b.length - 2 * q) from by omega)⟩
  · refine .exit0 <| .seq ?_
    have hs_8 : Sat w [cL ov 149 (encIt) (l ++ pkgAt 0 b)] w_2 := by
      have hq : l ++ pkgAt 0 (b.take (2 * q)) = l ++ pkgAt 0 b := by rw [pkgAt_all q 0 b (by omega)]
      rw [← hq]; exact hs_3
    refine .region <| .m rfl rfl ?_
    have hA_1 : Sat w ([cL ov 149 (encIt) (l ++ pkgAt 0 b)] ++ ([] ++ [])) _ := (Sat.order [0] (by decide) hs_8.tail).cut 1
    refine .f rfl (.call ent136 rfl ((srtIt w _ _ ov (l ++ pkgAt 0 b) (It.w) (fun x : It => x.w < 2 ^ 62) 139 #[] ent139 (fun _ w _ a b ha hb => ncmp_ok a b w ha hb) hA_1 (fun x hx => by show x.w < 2 ^ 62; rcases List.mem_append.1 hx with hx | hx; (have := hwl x hx; omega); (have := (pkgAt_mem 0 b W hwb x hx).1; omega)) (by rw [List.length_append, pkgAt_length]; omega)).mono fun r_2 w_5 h_2 => ?_))
    obtain ⟨rfl, hp_2⟩ := h_2
    have hs_9 : Sat w [cL ov 149 (encIt) (ssort (It.w) (l ++ pkgAt 0 b))] _ := (Sat.order [0] (by decide) hp_2.join).untail
    refine .nil <| .seq <| .region <| .m rfl rfl <| .s rfl rfl <| .nil <| .ret ?_
    show PostK _ _ _ _ _ _
    refine post1 rfl rfl ?_
    exact hs_9
end Go.Proofs.YtecfgjdpghddgaaGreat
namespace Go.Proofs.YtecfgjdpghddgaaGreat
open Go.RowKit Go.Kw
set_option maxRecDepth 100000
set_option maxHeartbeats 2000000 in
theorem lengths_ok (v : Value) (c : List Nat) (w : World) (hv : RdL w v (encN .i64) c) (hn : c.length ≤ 1024) (hc : ∀ x ∈ c, x ≤ 4096) :
    CallsV Tryz.prog 67 [v, (.int .i64 (15 : Nat))] w fun r w' => ∃ v', r = .tuple #[v', .int .i64 0] ∧ Sat w [cL v' 3 (encN .i64) (lensN c)] w' := by
  have hs0 := Sat.start w
  refine callsV_of Tryz.func67 rfl rfl ?_
  refine .seq <| .region <| .s rfl rfl <| .s rfl rfl <| .nil <| .seq <| .seq <| .region <| .m rfl rfl <| .m rfl rfl <| .f rfl (.call ent104 rfl ((hcheck_ok _ (c) _ (hv.ext hs0.ext) (hn) (hc)).mono fun r_1 w_1 h_1 => ?_))
  obtain ⟨rfl, hp_1⟩ := h_1
  have hs_1 := hs0.adds hp_1
  refine .s rfl rfl <| .nil <| .seq <| .region <| .m rfl rfl <| .e rfl (.neqN (a := 0) (b := 0) rfl rfl) <| .nil <| .condF rfl (rfl) <| .skip <| .seq ?_
  have hll0 := leaves_length c
  refine .region <| .m rfl rfl <| .e rfl (.lenL Tryz.underlying27 rfl (hv.ext hs_1.ext)) <| .f rfl (.makeL (encN .i64) (0) sl27 rfl hs_1 rfl rfl (by omega) (by omega) (by omega) fun v_1 w_2 hs_2 hch_1 => ?_)
  refine .s rfl rfl <| .nil <| .seq <| .region <| .m rfl rfl <| .f rfl (.call ent105 rfl ((leavesOf_ok _ (c) _ (hv.ext hs_2.ext) (hn) (hc)).mono fun r_2 w_3 h_2 => ?_))
  have hp_2 := h_2
  have hs_3 : Sat w [_, cL r_2 149 (encIt) (leaves c)] _ := hs_2.adds hp_2
  obtain ⟨sv_1, hsv_1, hsv_1n⟩ := (hs_3.rdL 1 rfl).sv
  subst hsv_1
  refine .s rfl rfl <| .nil <| .seq <| .seq <| .region <| .m rfl rfl <| .e rfl (.lenL Tryz.underlying146 rfl (hs_3.rdL 1 rfl)) <| .e rfl (.lssN (b := 2) rfl rfl) <| .nil <| .condD rfl (fun hc_1 => ?_) (fun hc_1 => ?_)
  · refine .seq <| .seq <| .region <| .m rfl rfl <| .e rfl (.lenL Tryz.underlying146 rfl (hs_3.rdL 1 rfl)) <| .m rfl rfl <| .nil <| .block <| .loop (α := Nat × List Nat) (fun (q, cur) => [(7, v_1), (31, sv_1.val), (32, (.int .i64 ((leaves c).length : Nat))), (33, (.int .i64 q))]) (fun (q, cur) w' => Sat w [cL v_1 3 (encN .i64) (cur), cL sv_1.val 149 (encIt) (leaves c)] w' ∧ (q ≤ (leaves c).length) ∧ (cur = ((leaves c).take q).foldl (fun ls x => ls.set x.sym.toNat 1) (List.replicate c.length 0)) ∧ (cur.length = c.length)) (fun (q, cur) => (leaves c).length - q) (0, List.replicate c.length 0) ⟨rfl, rfl, rfl, rfl, trivial⟩ ⟨hs_3, Nat.zero_le _, rfl, by simp⟩ ?_
    rintro ⟨q, cur⟩ w_4 ⟨hs_4, hq, hcur, hcl⟩
    show CW _ _ _ _ [(7, v_1), (31, sv_1.val), (32, (.int .i64 ((leaves c).length : Nat))), (33, (.int .i64 q))] _
    refine .seq <| .region <| .e rfl (.lssN rfl rfl) <| .nil <| .seq <| .condD rfl (fun hc_2 => ?_) (fun hc_2 => ?_)
    · refine .skip <| .seq <| .block <| .seq ?_
      obtain ⟨x, hx⟩ : ∃ x, (leaves c)[q]? = some x := ⟨_, List.getElem?_eq_getElem (hc_2)⟩
      obtain ⟨hxw, n, hxs, hxn⟩ := leaves_mem c x (mem_of_get hx)
      have hnl := lt_of_get hxn
      refine .region <| .e rfl (.idxL (E := encIt) sl146 rfl rfl (hs_4.rdL 1 rfl) (by omega)) <| .e rfl (.ldAgg (E := encIt) agg149 rfl (hs_4.rdL 1 rfl) hx (by decide)) <| .f rfl (.alloc hs_4 zero149 fun b_1 w_5 hs_5 hch_2 hb_1 => ?_)
      refine .f rfl (.storeObjA (vs := (encIt).enc x) agg149 hs_5 (i := 2) rfl rfl rfl rfl ((encIt).one _) fun w_6 hs_6 hch_3 => ?_)
      have hs_6d : Sat w [cL v_1 3 (encN .i64) (cur), cL sv_1.val 149 (encIt) (leaves c), cObj b_1 149 [(.int .i64 x.w), (.int .i64 (x.sym)), (.int .i64 x.lf), (.int .i64 x.rt)]] _ := hs_6
      refine .nil ?_
      have hs_7 : Sat w [cL v_1 3 (encN .i64) (cur), cL sv_1.val 149 (encIt) (leaves c), cObj b_1 149 [(.int .i64 x.w), (.int .i64 n), (.int .i64 x.lf), (.int .i64 x.rt)]] w_6 := by have hq := hs_6d; rw [hxs] at hq; exact hq
      refine .region <| .m rfl rfl <| .e rfl (.fieldAddr fld149_1 rfl rfl) <| .e rfl (.load scal3 rfl (hs_7.cell (i := 2) (j := 1) rfl rfl)) <| .e rfl (.idxL (E := encN .i64) sl27 rfl rfl (hs_7.rdL 0 rfl) (by omega)) <| .f rfl (.setL (a := 1) 0 one3 hs_7 rfl rfl rfl rfl (by (try simp only [List.length_set]); omega) fun w_7 hs_8 hch_4 => ?_)
      refine .nil <| .region <| .e rfl (.addI (b := 1) rfl rfl (by omega)) <| .m rfl rfl <| .nil ?_
      have hs_9 : Sat w [_, _] w_7 := hs_8.sub ((.cons_cons _ (.cons_cons _ (.cons _ .slnil))))
      exact ⟨(q + 1, cur.set n 1), ⟨rfl, rfl, rfl, rfl, trivial⟩, ⟨hs_9, by omega, by rw [take_succ_of hx, List.foldl_append, ← hcur]; simp [hxs], by simp only [List.length_set]; exact hcl⟩, (show ((leaves c).length - (q + 1)) < ((leaves c).length - q) from by omega)⟩
    · refine .exit0 <| .seq <| .region <| .m rfl rfl <| .s rfl rfl <| .s rfl rfl <| .nil <| .ret ?_
      show PostK _ _ _ _ _ _
      refine post2 rfl rfl rfl ?_
      have hs_10 : Sat w [cL v_1 3 (encN .i64) (cur)] w_4 := hs_4.sub ((.cons_cons _ (.cons _ .slnil)))
      have hs_11 : Sat w [cL v_1 3 (encN .i64) (lensN c)] w_4 := by
        have hq : cur = lensN c := by rw [hcur, show q = (leaves c).length by omega, List.take_length]; unfold lensN; rw [if_pos hc_1]
        rw [← hq]; exact hs_10
      exact ⟨_, rfl, hs_11⟩
  · refine .skip <| .seq <| .region <| .m rfl rfl <| .f rfl (.lit1 (encSl It) (sv_1, leaves c) sl150 rfl hs_3 rfl fun v_2 w_8 hs_12 hch_5 => ?_)
    have hs_12d : Sat w [cL v_1 3 (encN .i64) (List.replicate (c.length) 0), cL sv_1.val 149 (encIt) (leaves c), cL v_2 146 (encSl It) ([(sv_1, leaves c)])] _ := hs_12
    refine .s rfl rfl <| .nil <| .seq <| .seq <| .region <| .m rfl rfl <| .e rfl (.subI (a := 15) (b := 1) rfl rfl (by omega) (by omega)) <| .m rfl rfl <| .nil <| .block ?_
    have hs_13 : Sat w [cL v_1 3 (encN .i64) (List.replicate (c.length) 0), cL v_2 146 (encSl It) ([(sv_1, leaves c)]), cL sv_1.val 149 (encIt) (leaves c)] w_8 := ((Sat.order [0, 2, 1] (by decide) hs_12d.tail).untail).sub ((.cons_cons _ (.cons_cons _ (.cons_cons _ .slnil))))
    have hs_14 : Sat w [cL v_1 3 (encN .i64) (List.replicate (c.length) 0), cL v_2 146 (encSl It) ([(sv_1, leaves c)]), cRows 149 encIt ([]), cL sv_1.val 149 (encIt) (leaves c)] _ := Sat.order [0, 1, 3, 2] (by decide) (hs_13.newRows 164 encIt).tail |>.untail
    have hs_15 : Sat w [cL v_1 3 (encN .i64) (List.replicate (c.length) 0), cL v_2 146 (encSl It) ([(sv_1, leaves c)]), cRows 149 encIt ([] ++ [(sv_1, leaves c)])] w_8 := Sat.pushRows (A := [cL v_1 3 (encN .i64) (List.replicate (c.length) 0), cL v_2 146 (encSl It) ([(sv_1, leaves c)]), cRows 149 encIt ([])]) hs_14 2 rfl
    refine .loop (α := Nat × Value × List (SV × List It)) (fun (k, ov, ps) => [(7, v_1), (8, sv_1.val), (11, ov), (46, (.int .i64 (14 : Nat))), (47, (.int .i64 k))]) (fun (k, ov, ps) w' => Sat w [cL v_1 3 (encN .i64) (List.replicate (c.length) 0), cL ov 146 (encSl It) (ps), cRows 149 encIt (ps)] w' ∧ (k ≤ 14) ∧ (ps.map Prod.snd = lvls c (k + 1)) ∧ (ps[0]? = some (sv_1, leaves c))) (fun (k, ov, ps) => 14 - k) (0, v_2, [(sv_1, leaves c)]) ⟨rfl, rfl, rfl, rfl, rfl, trivial⟩ ⟨hs_15, Nat.zero_le _, rfl, rfl⟩ ?_
    rintro ⟨k, ov, ps⟩ w_9 ⟨hs_16, hk, hps, hp0⟩
    show CW _ _ _ _ [(7, v_1), (8, sv_1.val), (11, ov), (46, (.int .i64 (14 : Nat))), (47, (.int .i64 k))] _
    have hpl : ps.length = k + 1 := by have := congrArg List.length hps; simpa [lvls] using this
    refine .seq <| .region <| .e rfl (.lssN (b := 14) rfl rfl) <| .nil <| .seq <| .condD rfl (fun hc_3 => ?_) (fun hc_3 => ?_)
    · refine .skip <| .seq <| .block ?_
      obtain ⟨p, hp⟩ : ∃ p, (ps)[(ps.length - 1)]? = some p := ⟨_, List.getElem?_eq_getElem (by omega)⟩
      have hp2 : p.2 = lvl c k := by
        have h1 : (ps.map Prod.snd)[k]? = some p.2 := by rw [List.getElem?_map, show k = ps.length - 1 by omega, hp]; rfl
        rw [hps, lvls_get c (by omega : k < k + 1)] at h1; exact (Option.some.inj h1).symm
      have hW : 4096 * 2 ^ k ≤ 2 ^ 50 := by have : 2 ^ k ≤ 2 ^ 14 := Nat.pow_le_pow_right (by decide) (by omega); omega
      have hW1 : 4096 ≤ 4096 * 2 ^ k := Nat.le_mul_of_pos_right _ (Nat.two_pow_pos k)
      have hlv := lvl_length c k
      have hll := leaves_length c
      refine .region <| .m rfl rfl <| .m rfl rfl <| .m rfl rfl <| .m rfl rfl <| .e rfl (.lenL Tryz.underlying150 rfl (hs_16.rdL 1 rfl)) <| .e rfl (.subI (b := 1) rfl rfl (by omega) (by omega)) <| .e rfl (.idxL (E := encSl It) sl150 rfl rfl (hs_16.rdL 1 rfl) (by omega)) <| .e rfl (.ldL (E := encSl It) scal146 rfl (hs_16.rdL 1 rfl) hp (by decide) rfl) <| .f rfl (.call ent106 rfl ((next_ok _ _ (leaves c) (p.2) (4096 * 2 ^ k) _ (show RdL _ sv_1.val encIt (leaves c) from hs_16.rdRows 2 rfl hp0) (hs_16.rdRows 2 rfl hp) (by omega) (by omega) (by rw [hp2]; omega) (fun x hx => Nat.le_trans (hc _ (leaves_mem c x hx).1) hW1) (fun x hx => by rw [hp2] at hx; exact lvl_w c 4096 hc k x hx) (hW)).mono fun r_3 w_10 h_3 => ?_))
      have hp_3 := h_3
      have hs_17 := hs_16.adds hp_3
      obtain ⟨sv_2, hsv_2, hsv_2n⟩ := (hs_17.rdL 3 rfl).sv
      subst hsv_2
      refine .f rfl (.lit1 (encSl It) (sv_2, nextL (leaves c) p.2) sl150 rfl hs_17 rfl fun v_3 w_11 hs_18 hch_6 => ?_)
      refine .f rfl (.appendL 1 sl150 hs_18 rfl rfl rfl Tryz.underlying150 (hs_18.rdL 4 rfl) (by simp; omega) (by simp; omega) fun v_4 w_12 hs_19 hch_7 => ?_)
      have hs_19d : Sat w [_, cL v_4 146 (encSl It) (ps ++ [(sv_2, nextL (leaves c) p.2)]), _, _] _ := hs_19.drop 4
      refine .s rfl rfl <| .nil <| .region <| .e rfl (.addI (b := 1) rfl rfl (by omega)) <| .m rfl rfl <| .nil ?_
      have hs_20 : Sat w [cL v_1 3 (encN .i64) (List.replicate (c.length) 0), cL v_4 146 (encSl It) (ps ++ [(sv_2, nextL (leaves c) p.2)]), cRows 149 encIt (ps ++ [(sv_2, nextL (leaves c) p.2)])] w_12 := Sat.pushRows (A := [cL v_1 3 (encN .i64) (List.replicate (c.length) 0), cL v_4 146 (encSl It) (ps ++ [(sv_2, nextL (leaves c) p.2)]), cRows 149 encIt (ps)]) hs_19d 2 rfl
      exact ⟨(k + 1, v_4, ps ++ [(sv_2, nextL (leaves c) p.2)]), ⟨rfl, rfl, rfl, rfl, rfl, trivial⟩, ⟨hs_20, by omega, by rw [List.map_append, hps, lvls_succ c (k + 1), hp2]; rfl, by rw [List.getElem?_append_left (by omega)]; exact hp0⟩, (show (14 - (k + 1)) < (14 - k) from by omega)⟩
    · refine .exit0 <| .seq ?_
      have hk14 : k = 14 := by omega
      subst hk14
      have hpl : ps.length = 15 := by have := congrArg List.length hps; simpa [lvls] using this
      have hll := leaves_length c
      refine .region <| .m rfl rfl <| .e rfl (.lenL Tryz.underlying146 rfl (show RdL _ sv_1.val encIt (leaves c) from hs_16.rdRows 2 rfl hp0)) <| .e rfl (.mulI (a := 2) rfl rfl (by omega)) <| .e rfl (.subI (b := 2) rfl rfl (by omega) (by omega)) <| .s rfl rfl <| .nil <| .seq <| .seq <| .region <| .m rfl rfl <| .e rfl (.lenL Tryz.underlying150 rfl (hs_16.rdL 1 rfl)) <| .e rfl (.subI (b := 1) rfl rfl (by omega) (by omega)) <| .s rfl rfl <| .nil <| .block <| .loop (α := Nat × Nat × List Nat) (fun (kk, t, ls) => [(7, v_1), (11, ov), (12, (.int .i64 t)), (13, (.int .i64 ((((kk : Nat) : Int) - 1))))]) (fun (kk, t, ls) w' => Sat w [cL v_1 3 (encN .i64) (ls), cL ov 146 (encSl It) (ps), cRows 149 encIt (ps)] w' ∧ (kk ≤ 15) ∧ (t ≤ (lvl c (kk - 1)).length) ∧ (down c kk t ls = lensN c) ∧ (ls.length = c.length) ∧ (∀ x ∈ ls, x ≤ (15 - kk) * 4096)) (fun (kk, t, ls) => kk) (15, 2 * (leaves c).length - 2, List.replicate c.length 0) ⟨rfl, rfl, congrArg some (congrArg (Value.int .i64) (by omega)), congrArg some (congrArg (Value.int .i64) (by omega)), trivial⟩ ⟨hs_16, Nat.le_refl _, take_top c (by omega) (by omega), by unfold lensN; rw [if_neg hc_1], by simp, fun x hx => by have := List.eq_of_mem_replicate hx; omega⟩ ?_
      rintro ⟨kk, t, ls⟩ w_13 ⟨hs_21, hkk, ht, hdn, hls, hB⟩
      show CW _ _ _ _ [(7, v_1), (11, ov), (12, (.int .i64 t)), (13, (.int .i64 ((((kk : Nat) : Int) - 1))))] _
      refine .seq <| .seq <| .region <| .m rfl rfl <| .e rfl (.geq rfl rfl) <| .nil <| .condD rfl (fun hc_4 => ?_) (fun hc_4 => ?_)
      · refine .skip <| .seq <| .block <| .seq ?_
        obtain ⟨j, rfl⟩ : ∃ j, kk = j + 1 := ⟨kk - 1, by omega⟩
        refine .weaken [(7, _), (11, _), (12, _), (13, (.int .i64 j)), (68, _), (69, _)] ⟨rfl, rfl, rfl, congrArg some (congrArg (Value.int .i64) (by omega)), rfl, rfl, trivial⟩ ?_
        rw [Nat.add_sub_cancel] at ht
        obtain ⟨p, hp⟩ : ∃ p, ps[j]? = some p := ⟨_, List.getElem?_eq_getElem (by omega)⟩
        have hp2 : p.2 = lvl c j := by
          have h1 : (ps.map Prod.snd)[j]? = some p.2 := by rw [List.getElem?_map, hp]; rfl
          rw [hps, lvls_get c (by omega : j < 15)] at h1; exact (Option.some.inj h1).symm
        have htp : t ≤ p.2.length := by rw [hp2]; exact ht
        have hX : ((p.2).take t).drop 0 = (lvl c j).take t := by rw [hp2]; rfl
        have hlv := lvl_length c j
        have hll := leaves_length c
        have hXl : (((p.2).take t).drop 0).length = t := by simp; omega
        refine .region <| .s rfl rfl <| .nil <| .seq <| .seq <| .region <| .m rfl rfl <| .m rfl rfl <| .e rfl (.idxL (E := encSl It) sl150 rfl rfl (hs_21.rdL 1 rfl) (by omega)) <| .e rfl (.ldL (E := encSl It) scal146 rfl (hs_21.rdL 1 rfl) hp (by decide) rfl) <| .m rfl rfl <| .e rfl (.sliceL (E := encIt) (a := 0) (c := t) sl146 rfl (hs_21.rdRows 2 rfl hp) rfl ⟨_, rfl⟩ (by omega) (htp)) <| .e rfl (.lenL Tryz.underlying146 rfl (((hs_21.rdRows 2 rfl hp)).sub (a := 0) (b := t) (by omega) (htp))) <| .m rfl rfl <| .nil <| .block <| .loop (α := Nat × Nat × List Nat) (fun (q, pk, cur) => [(7, v_1), (11, ov), (13, (.int .i64 j)), (14, (.int .i64 pk)), (77, (subSl (encIt).s p.1.val 0 t)), (78, (.int .i64 ((((p.2).take t).drop 0).length : Nat))), (79, (.int .i64 q))]) (fun (q, pk, cur) w' => Sat w [cL v_1 3 (encN .i64) (cur), cL ov 146 (encSl It) (ps), cRows 149 encIt (ps)] w' ∧ (q ≤ (((p.2).take t).drop 0).length) ∧ (cur = bumps ls ((((p.2).take t).drop 0).take q)) ∧ (pk = npk ((((p.2).take t).drop 0).take q)) ∧ (cur.length = c.length) ∧ (∀ x ∈ cur, x ≤ (15 - (j + 1)) * 4096 + q) ∧ (pk ≤ q)) (fun (q, pk, cur) => (((p.2).take t).drop 0).length - q) (0, 0, ls) ⟨rfl, rfl, rfl, rfl, rfl, rfl, rfl, trivial⟩ ⟨hs_21, Nat.zero_le _, rfl, rfl, hls, fun x hx => by have := hB x hx; omega, Nat.le_refl _⟩ ?_
        rintro ⟨q, pk, cur⟩ w_14 ⟨hs_22, hq, hcur, hpk, hcl, hB2, hpq⟩
        show CW _ _ _ _ [(7, v_1), (11, ov), (13, (.int .i64 j)), (14, (.int .i64 pk)), (77, (subSl (encIt).s p.1.val 0 t)), (78, (.int .i64 ((((p.2).take t).drop 0).length : Nat))), (79, (.int .i64 q))] _
        refine .seq <| .region <| .e rfl (.lssN rfl rfl) <| .nil <| .seq <| .condD rfl (fun hc_5 => ?_) (fun hc_5 => ?_)
        · refine .skip <| .seq <| .block <| .seq ?_
          obtain ⟨x, hx⟩ : ∃ x, (((p.2).take t).drop 0)[q]? = some x := ⟨_, List.getElem?_eq_getElem (hc_5)⟩
          have hxm : x ∈ lvl c j := by have h := mem_of_get hx; rw [hX] at h; exact List.mem_of_mem_take h
          have hsym := lvl_sym c j x hxm
          have hql := hc_5
          refine .region <| .e rfl (.idxL (E := encIt) sl146 rfl rfl (((hs_22.rdRows 2 rfl hp)).sub (a := 0) (b := t) (by omega) (htp)) (by omega)) <| .e rfl (.ldAgg (E := encIt) agg149 rfl (((hs_22.rdRows 2 rfl hp)).sub (a := 0) (b := t) (by omega) (htp)) hx (by decide)) <| .f rfl (.alloc hs_22 zero149 fun b_2 w_15 hs_23 hch_8 hb_2 => ?_)
          refine .f rfl (.storeObjA (vs := (encIt).enc x) agg149 hs_23 (i := 3) rfl rfl rfl rfl ((encIt).one _) fun w_16 hs_24 hch_9 => ?_)
          have hs_24d : Sat w [cL v_1 3 (encN .i64) (cur), cL ov 146 (encSl It) (ps), cRows 149 encIt (ps), cObj b_2 149 [(.int .i64 x.w), (.int .i64 (x.sym)), (.int .i64 x.lf), (.int .i64 x.rt)]] _ := hs_24
          refine .nil <| .seq <| .region <| .e rfl (.fieldAddr fld149_1 rfl rfl) <| .e rfl (.load scal3 rfl (hs_24d.cell (i := 3) (j := 1) rfl rfl)) <| .e rfl (.geq rfl rfl) <| .nil <| .condD rfl (fun hc_6 => ?_) (fun hc_6 => ?_)
          · obtain ⟨n, hxs, hnc⟩ : ∃ n : Nat, x.sym = ((n : Nat) : Int) ∧ n < c.length := by rcases hsym with h | ⟨n, h⟩; (omega); exact ⟨n, h⟩
            have hs_25 : Sat w [cL v_1 3 (encN .i64) (cur), cL ov 146 (encSl It) (ps), cRows 149 encIt (ps), cObj b_2 149 [(.int .i64 x.w), (.int .i64 n), (.int .i64 x.lf), (.int .i64 x.rt)]] w_16 := by have hq := hs_24d; rw [hxs] at hq; exact hq
            obtain ⟨y, hy⟩ : ∃ y, cur[n]? = some y := ⟨_, List.getElem?_eq_getElem (by omega)⟩
            have hyB := hB2 y (mem_of_get hy)
            refine .region <| .m rfl rfl <| .e rfl (.fieldAddr fld149_1 rfl rfl) <| .e rfl (.load scal3 rfl (hs_25.cell (i := 3) (j := 1) rfl rfl)) <| .e rfl (.idxL (E := encN .i64) sl27 rfl rfl (hs_25.rdL 0 rfl) (by omega)) <| .e rfl (.ldL (E := encN .i64) scal3 rfl (hs_25.rdL 0 rfl) hy (by decide) rfl) <| .e rfl (.addI (b := 1) rfl rfl (by omega)) <| .e rfl (.idxL (E := encN .i64) sl27 rfl rfl (hs_25.rdL 0 rfl) (by omega)) <| .f rfl (.setL (a := (y + 1)) 0 one3 hs_25 rfl rfl rfl rfl (by (try simp only [List.length_set]); omega) fun w_17 hs_26 hch_10 => ?_)
            refine .nil <| .region <| .e rfl (.addI (b := 1) rfl rfl (by omega)) <| .m rfl rfl <| .nil ?_
            have hs_27 : Sat w [_, _, _] w_17 := hs_26.sub ((.cons_cons _ (.cons_cons _ (.cons_cons _ (.cons _ .slnil)))))
            have hs_28 : Sat w [cL v_1 3 (encN .i64) (bumps ls ((((p.2).take t).drop 0).take (q + 1))), cL ov 146 (encSl It) (ps), cRows 149 encIt (ps)] w_17 := by
              have hq : cur.set n (y + 1) = bumps ls ((((p.2).take t).drop 0).take (q + 1)) := by rw [take_succ_of hx, bumps_snoc, ← hcur, bump, if_pos (by omega), show x.sym.toNat = n by omega, getD_some hy]
              rw [← hq]; exact hs_27
            exact ⟨(q + 1, pk, bumps ls ((((p.2).take t).drop 0).take (q + 1))), ⟨rfl, rfl, rfl, rfl, rfl, rfl, rfl, trivial⟩, ⟨hs_28, by omega, rfl, by rw [take_succ_of hx, npk_snoc, ← hpk]; simp [show ¬ x.sym < 0 by omega], by rw [bumps_length]; omega, by rw [take_succ_of hx, bumps_snoc, ← hcur]; exact bump_le hB2 x, by omega⟩, (show ((((p.2).take t).drop 0).length - (q + 1)) < ((((p.2).take t).drop 0).length - q) from by omega)⟩
          · refine .region <| .m rfl rfl <| .e rfl (.addI (b := 1) rfl rfl (by omega)) <| .s rfl rfl <| .nil <| .region <| .e rfl (.addI (b := 1) rfl rfl (by omega)) <| .m rfl rfl <| .nil ?_
            have hs_29 : Sat w [_, _, _] w_16 := hs_24d.sub ((.cons_cons _ (.cons_cons _ (.cons_cons _ (.cons _ .slnil)))))
            have hs_30 : Sat w [cL v_1 3 (encN .i64) (bumps ls ((((p.2).take t).drop 0).take (q + 1))), cL ov 146 (encSl It) (ps), cRows 149 encIt (ps)] w_16 := by
              have hq : cur = bumps ls ((((p.2).take t).drop 0).take (q + 1)) := by rw [take_succ_of hx, bumps_snoc, ← hcur, bump, if_neg (by omega)]
              rw [← hq]; exact hs_29
            exact ⟨(q + 1, (pk + 1), bumps ls ((((p.2).take t).drop 0).take (q + 1))), ⟨rfl, rfl, rfl, rfl, rfl, rfl, rfl, trivial⟩, ⟨hs_30, by omega, rfl, by rw [take_succ_of hx, npk_snoc, ← hpk]; simp [show x.sym < 0 by omega], by rw [bumps_length]; omega, by rw [take_succ_of hx, bumps_snoc, ← hcur]; exact bump_le hB2 x, by omega⟩, (show ((((p.2).take t).drop 0).length - (q + 1)) < ((((p.2).take t).drop 0).length - q) from by omega)⟩
        · refine .exit0 ?_
          have hqt : q = t := by omega
          have hXq : (((p.2).take t).drop 0).take q = (lvl c j).take t := by rw [hqt, hX, List.take_of_length_le (by simp; omega)]
          rw [hXq] at hcur hpk
          have hnd : down c j (2 * pk) cur = lensN c := by rw [hpk, hcur, ← hdn, down]
          have hnt : 2 * pk ≤ (lvl c (j - 1)).length := by
            cases j with
            | zero => have h1 := npk_le (lvl c 0) t; have h2 : npk (lvl c 0) = 0 := npk_leaves c; omega
            | succ i => rw [Nat.add_sub_cancel, hpk]; exact take_down c i t
          have hnB : ∀ x ∈ cur, x ≤ (15 - j) * 4096 := fun x hx => by have := hB2 x hx; omega
          refine .region <| .m rfl rfl <| .e rfl (.mulI (a := 2) rfl rfl (by omega)) <| .s rfl rfl <| .nil <| .region <| .m rfl rfl <| .e rfl (.sub (b := (1 : Int)) rfl rfl (by unfold inI64; omega)) <| .s rfl rfl <| .nil ?_
          exact ⟨(j, (2 * pk), cur), ⟨rfl, rfl, rfl, rfl, trivial⟩, ⟨hs_22, by omega, hnt, hnd, by omega, hnB⟩, (show ((j)) < (j + 1) from by omega)⟩
      · refine .exit0 <| .seq <| .region <| .m rfl rfl <| .s rfl rfl <| .s rfl rfl <| .nil <| .ret ?_
        show PostK _ _ _ _ _ _
        refine post2 rfl rfl rfl ?_
        have hs_31 : Sat w [cL v_1 3 (encN .i64) (ls)] w_13 := hs_21.sub ((.cons_cons _ (.cons _ (.cons _ .slnil))))
        have hk0 : kk = 0 := by omega
        subst hk0
        have hs_32 : Sat w [cL v_1 3 (encN .i64) (lensN c)] w_13 := by
          have hq : ls = lensN c := by rw [← hdn]; rfl
          rw [← hq]; exact hs_31
        exact ⟨_, rfl, hs_32⟩
end Go.Proofs.YtecfgjdpghddgaaGreat
namespace Go.Proofs.YtecfgjdpghddgaaGreat
open Go.RowKit Go.Kw
set_option maxRecDepth 100000
theorem hencode_ok (v u : Value) (l syms : List Nat) (w : World) (hv : RdL w v (encN .i64) l) (hu : RdL w u (encN .i64) syms) (hn : l.length ≤ 1024) (hval : validB l = true) (hsn : syms.length ≤ 4096) (hsy : ∀ s ∈ syms, s < l.length ∧ 0 < lenKey l s) :
    CallsV Tryz.prog 68 [v, u] w fun r w' => ∃ v', r = .tuple #[v', .int .i64 ((hufB l syms).length : Int), .int .i64 0] ∧ Sat w [cL v' 5 (encN .u8) (packB (hufB l syms))] w' := by
  have hs0 := Sat.start w
  refine callsV_of Tryz.func68 rfl rfl ?_
  refine .seq ?_
  have hgl := GoodLens.of_valid hval
  refine .region <| .s rfl rfl <| .s rfl rfl <| .s rfl rfl <| .nil <| .seq <| .block <| .seq <| .region <| .m rfl rfl <| .f rfl (.call ent73 rfl ((valid_ok _ (l) _ (hv.ext hs0.ext) (hn)).mono fun r_1 w_1 h_1 => ?_))
  obtain ⟨rfl, hp_1⟩ := h_1
  have hs_1 := hs0.adds hp_1
  refine .e rfl (.notB rfl) <| .s rfl rfl <| .nil <| .condF rfl (by rw [hval]; rfl) <| .seq <| .region <| .m rfl rfl <| .e rfl (.lenL Tryz.underlying27 rfl (hu.ext hs_1.ext)) <| .e rfl (.gtrN (b := 4096) rfl rfl) <| .s rfl rfl <| .nil <| .condF rfl (decide_eq_false (by omega)) <| .skip <| .seq <| .region <| .m rfl rfl <| .f rfl (.call ent107 rfl ((codesOf_ok _ (l) _ (hv.ext hs_1.ext) (hn) (validB_le hval)).mono fun r_2 w_2 h_2 => ?_))
  have hp_2 := h_2
  have hs_2 := hs_1.adds hp_2
  refine .s rfl rfl <| .nil <| .seq <| .region <| .f rfl (.call ent108 rfl ((newWriter_ok _).mono fun r_3 w_3 h_3 => ?_))
  obtain ⟨b_1, rfl, hp_3⟩ := h_3
  have hs_3 : Sat w [_, cObj b_1 193 [(.slice none 0 0), (.int .i64 (0 : Nat))], cL (Value.slice none 0 0) 5 (encN .u8) ([])] _ := hs_2.adds hp_3
  refine .s rfl rfl <| .nil <| .seq <| .region <| .m rfl rfl <| .e rfl (.makeFuncB rfl) <| .s rfl rfl <| .nil <| .seq <| .seq <| .region <| .m rfl rfl <| .e rfl (.lenL Tryz.underlying27 rfl (hu.ext hs_3.ext)) <| .m rfl rfl <| .nil <| .block <| .loop (α := Nat × Value × List Bool) (fun (k, wv, bits) => [(0, v), (7, r_2), (8, (.pointer (some ⟨b_1, 0, none⟩))), (9, (.func (.func 109) #[(.pointer (some ⟨b_1, 0, none⟩))] #[])), (25, u), (26, (.int .i64 syms.length)), (27, (.int .i64 k))]) (fun (k, wv, bits) w' => Sat w [cL r_2 56 (encN .u64) (codesN l), cObj b_1 193 [wv, (.int .i64 ((bits).length : Nat))], cL wv 5 (encN .u8) (packB (bits))] w' ∧ (k ≤ syms.length) ∧ (bits = hufB l (syms.take k)) ∧ (bits.length ≤ 15 * k)) (fun (k, wv, bits) => syms.length - k) (0, (.slice none 0 0), []) ⟨rfl, rfl, rfl, rfl, rfl, rfl, rfl, trivial⟩ ⟨hs_3, Nat.zero_le _, rfl, Nat.le_refl _⟩ ?_
  rintro ⟨k, wv, bits⟩ w_4 ⟨hs_4, hk, hbits, hbl⟩
  show CW _ _ _ _ [(0, v), (7, r_2), (8, (.pointer (some ⟨b_1, 0, none⟩))), (9, (.func (.func 109) #[(.pointer (some ⟨b_1, 0, none⟩))] #[])), (25, u), (26, (.int .i64 syms.length)), (27, (.int .i64 k))] _
  refine .seq <| .region <| .e rfl (.lssN rfl rfl) <| .nil <| .seq <| .condD rfl (fun hc_1 => ?_) (fun hc_1 => ?_)
  · refine .skip <| .seq <| .block <| .seq ?_
    obtain ⟨x, hx⟩ : ∃ x, (syms)[k]? = some x := ⟨_, List.getElem?_eq_getElem hc_1⟩
    refine .region <| .e rfl (.idxL (E := encN .i64) sl27 rfl rfl (hu.ext hs_4.ext) (by omega)) <| .e rfl (.ldL (E := encN .i64) scal3 rfl (hu.ext hs_4.ext) hx (by decide) rfl) <| .s rfl rfl <| .nil <| .seq <| .seq ?_
    have hx0 := hsy x (mem_of_get hx)
    have hlx := lenKey_some hx0.1
    have hcdx := (code_of hgl hx0.2).2
    have hl15 := hgl.le x
    have hcl := codesN_length l
    refine .mid (fun L' w' => Weak [(0, v), (7, r_2), (8, (.pointer (some ⟨b_1, 0, none⟩))), (9, (.func (.func 109) #[(.pointer (some ⟨b_1, 0, none⟩))] #[])), (11, (.int .i64 x)), (25, u), (26, (.int .i64 syms.length)), (27, (.int .i64 k)), (28, (.bool (decide (k < syms.length)))), (45, (.bool (decide (((x < 0) ∨ (l.length ≤ x)) ∨ ((lenKey l x) = 0)))))] L' ∧ Sat w [cL r_2 56 (encN .u64) (codesN l), cObj b_1 193 [wv, (.int .i64 ((bits).length : Nat))], cL wv 5 (encN .u8) (packB (bits))] w') ?_ ?_
    · refine .region <| .m rfl rfl <| .e rfl (.lssN (b := 0) rfl rfl) <| .m rfl rfl ?_
      by_cases hg_1 : x < 0
      · refine .no rfl rfl rfl (decide_eq_true hg_1) rfl <| .no rfl rfl rfl (decide_eq_true hg_1) rfl <| .no rfl rfl rfl (decide_eq_true hg_1) rfl <| .no rfl rfl rfl (decide_eq_true hg_1) rfl <| .e rfl (.pickY rfl (decide_eq_true hg_1) rfl) <| .m rfl rfl <| .no rfl rfl rfl (rfl) rfl <| .no rfl rfl rfl (rfl) rfl <| .no rfl rfl rfl (rfl) rfl <| .no rfl rfl rfl (rfl) rfl <| .no rfl rfl rfl (rfl) rfl <| .e rfl (.pickY rfl (rfl) rfl) <| .nil ?_
        exact ⟨⟨rfl, rfl, rfl, rfl, rfl, rfl, rfl, rfl, rfl, congrArg some (congrArg Value.bool (by simp [hg_1])), trivial⟩, hs_4⟩
      · refine .yes rfl rfl rfl (decide_eq_false hg_1) <| .m rfl rfl <| .yes rfl rfl rfl (decide_eq_false hg_1) <| .m rfl rfl <| .yes rfl rfl rfl (decide_eq_false hg_1) <| .e rfl (.lenL Tryz.underlying27 rfl (hv.ext hs_4.ext)) <| .yes rfl rfl rfl (decide_eq_false hg_1) <| .e rfl (.geqN rfl rfl) <| .e rfl (.pickN rfl (decide_eq_false hg_1) rfl) <| .m rfl rfl ?_
        by_cases hg_2 : l.length ≤ x
        · refine .no rfl rfl rfl (decide_eq_true hg_2) rfl <| .no rfl rfl rfl (decide_eq_true hg_2) rfl <| .no rfl rfl rfl (decide_eq_true hg_2) rfl <| .no rfl rfl rfl (decide_eq_true hg_2) rfl <| .no rfl rfl rfl (decide_eq_true hg_2) rfl <| .e rfl (.pickY rfl (decide_eq_true hg_2) rfl) <| .nil ?_
          exact ⟨⟨rfl, rfl, rfl, rfl, rfl, rfl, rfl, rfl, rfl, congrArg some (congrArg Value.bool (by simp [hg_1, hg_2])), trivial⟩, hs_4⟩
        · refine .yes rfl rfl rfl (decide_eq_false hg_2) <| .m rfl rfl <| .yes rfl rfl rfl (decide_eq_false hg_2) <| .m rfl rfl <| .yes rfl rfl rfl (decide_eq_false hg_2) <| .e rfl (.idxL (E := encN .i64) sl27 rfl rfl (hv.ext hs_4.ext) (by omega)) <| .yes rfl rfl rfl (decide_eq_false hg_2) <| .e rfl (.ldL (E := encN .i64) scal3 rfl (hv.ext hs_4.ext) hlx (by decide) rfl) <| .yes rfl rfl rfl (decide_eq_false hg_2) <| .e rfl (.eqlN (b := 0) rfl rfl) <| .e rfl (.pickN rfl (decide_eq_false hg_2) rfl) <| .nil ?_
          exact ⟨⟨rfl, rfl, rfl, rfl, rfl, rfl, rfl, rfl, rfl, congrArg some (congrArg Value.bool (by simp [hg_1, hg_2])), trivial⟩, hs_4⟩
    · rintro L' w_5 ⟨hw_1, hs_5⟩
      refine .weaken _ hw_1 <| .condF rfl (decide_eq_false (by omega)) <| .skip ?_
      have hshp_1 := (hs_5.rdL (E := encN .u8) 2 rfl).shp (by decide)
      refine .drawS hs_2 (.free 0 (.free 1 (.free 2 (.free 3 (.free 4 (.free 5 (.free 6 (.free 7 (.free 8 (.one 9 .fin)))))))))) mixed (by kernel_rfl) ?_
      have hs_6 := hs_5.drew
      have hS_1 : Sat w [_] _ := hs_6.sub ((.cons_cons _ (.cons _ (.cons _ .slnil))))
      refine .m rfl rfl hS_1 <| .m rfl rfl hS_1 <| .m rfl rfl hS_1 <| .e rfl (fun w' hS' => .idxL (E := encN .u64) sl92 rfl rfl (hS'.rdL 0 rfl) (by omega)) hS_1 <| .e rfl (fun w' hS' => .ldL (E := encN .u64) scal56 rfl (hS'.rdL 0 rfl) (code_of hgl hx0.2).1 (by decide) rfl) hS_1 <| .m rfl rfl hS_1 <| .m rfl rfl hS_1 <| .e rfl (fun w' hS' => .idxL (E := encN .i64) sl27 rfl rfl (hv.ext hS'.ext) (by omega)) hS_1 <| .e rfl (fun w' hS' => .ldL (E := encN .i64) scal3 rfl (hv.ext hS'.ext) hlx (by decide) rfl) hS_1 ?_
      have hA_1 : Sat w ([cObj b_1 193 [wv, (.int .i64 ((bits).length : Nat))], cL wv 5 (encN .u8) (packB (bits))] ++ ([cL r_2 56 (encN .u64) (codesN l)] ++ [])) _ := (Sat.order [1, 2, 0] (by decide) hs_6.tail).cut 2
      refine .f rfl (.callb ent109 rfl rfl ((wbits_ok _ _ _ _ _ (bits) ((cdOf l x)) ((lenKey l x)) hA_1 (hcdx) (by omega) (by omega)).mono fun r_4 w_6 h_4 => ?_))
      obtain ⟨rfl, wv_1, hp_4⟩ := h_4
      have hs_7 : Sat w [cL r_2 56 (encN .u64) (codesN l), cObj b_1 193 [wv_1, (.int .i64 ((bits ++ lowB ((cdOf l x)) ((lenKey l x))).length : Nat))], cL wv_1 5 (encN .u8) (packB (bits ++ lowB ((cdOf l x)) ((lenKey l x))))] _ := (Sat.order [2, 0, 1] (by decide) hp_4.join).untail
      have hS_2 : Sat w [_] _ := hs_7.sub ((.cons_cons _ (.cons _ (.cons _ .slnil))))
      refine ⟨hS_2, ?_⟩
      refine .fin <| .region <| .e rfl (.addI (b := 1) rfl rfl (by omega)) <| .m rfl rfl <| .nil ?_
      exact ⟨(k + 1, wv_1, bits ++ lowB ((cdOf l x)) ((lenKey l x))), ⟨rfl, rfl, rfl, rfl, rfl, rfl, rfl, trivial⟩, ⟨hs_7, by omega, by rw [take_succ_of hx, hufB_snoc, hbits], by simp only [List.length_append, lowB_length]; omega⟩, (show (syms.length - (k + 1)) < (syms.length - k) from by omega)⟩
  · refine .exit0 <| .seq <| .region <| .m rfl rfl <| .f rfl (.call ent110 rfl ((wbytes_ok _ _ (packB (bits)) _ (hs_4.cell (i := 1) (j := 0) rfl rfl) (hs_4.rdL 2 rfl) (by rw [packB_length]; omega)).mono fun r_5 w_7 h_5 => ?_))
    have hp_5 := h_5
    have hs_8 := hs_4.adds hp_5
    refine .m rfl rfl <| .f rfl (.call ent111 rfl ((wlen_ok _ ((bits).length) _ (hs_8.cell (i := 1) (j := 1) rfl rfl)).mono fun r_6 w_8 h_6 => ?_))
    obtain ⟨rfl, hp_6⟩ := h_6
    have hs_9 := hs_8.adds hp_6
    refine .s rfl rfl <| .s rfl rfl <| .s rfl rfl <| .nil <| .ret ?_
    show PostK _ _ _ _ _ _
    refine post3 rfl rfl rfl rfl ?_
    have hs_10 : Sat w [_] w_8 := hs_9.sub ((.cons _ (.cons _ (.cons _ (.cons_cons _ .slnil)))))
    have hkl : bits = hufB l syms := by rw [hbits, show k = syms.length by omega, List.take_length]
    subst hkl
    exact ⟨_, rfl, hs_10⟩
end Go.Proofs.YtecfgjdpghddgaaGreat
