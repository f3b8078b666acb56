/- The walks of the functions of F07s, printed by our own program (kwgen.py) out of our descriptions (base.py). -/
import Derived.Test.YtecfgjdpghddgaaGreatF07r
import Derived.Test.YtecfgjdpghddgaaGreatKi
import Derived.Test.YtecfgjdpghddgaaGreatTab
set_option linter.unusedVariables false
set_option linter.unusedSimpArgs false
set_option linter.unusedSectionVars false
namespace Go.Proofs.YtecfgjdpghddgaaGreat
open Go.RowKit Go.Kw
set_option maxRecDepth 100000
theorem rbcheck_bad (v : Value) (l : List Nat) (w : World) (hv : RdL w v (encN .i64) l) (hn : l.length ≤ 128) (hb : ∀ x ∈ l, x < 2 ^ 63) (hbad : ¬ ∀ x ∈ l, x ≤ 2147483647) :
    CallsV Tryz.prog 50 [v] w fun r w' => r = .int .i64 ((8 : Nat) : Int) ∧ Sat w [] w' := by
  have hs0 := Sat.start w
  refine callsV_of Tryz.func50 rfl rfl ?_
  refine .seq <| .region <| .s rfl rfl <| .nil <| .seq <| .seq <| .region <| .m rfl rfl <| .e rfl (.lenL Tryz.underlying27 rfl (hv.ext hs0.ext)) <| .e rfl (.gtrN (b := 128) rfl rfl) <| .nil <| .condF rfl (decide_eq_false (by omega)) <| .skip <| .seq <| .seq <| .region <| .m rfl rfl <| .e rfl (.lenL Tryz.underlying27 rfl (hv.ext hs0.ext)) <| .m rfl rfl <| .nil <| .block <| .loop (α := Nat) (fun k => [(8, v), (9, (.int .i64 l.length)), (10, (.int .i64 k))]) (fun k w' => Sat w [] w' ∧ (k ≤ l.length) ∧ (∀ x ∈ l.take k, x ≤ 2147483647)) (fun k => l.length - k) 0 ⟨rfl, rfl, rfl, trivial⟩ ⟨hs0, Nat.zero_le _, by simp⟩ ?_
  rintro k w_1 ⟨hs_1, hk, hgd⟩
  show CW _ _ _ _ [(8, v), (9, (.int .i64 l.length)), (10, (.int .i64 k))] _
  refine .seq <| .region <| .e rfl (.lssN rfl rfl) <| .nil <| .seq <| .condD rfl (fun hc_1 => ?_) (fun hc_1 => ?_)
  · refine .skip <| .seq <| .block <| .seq ?_
    obtain ⟨x, hx⟩ : ∃ x, (l)[k]? = some x := ⟨_, List.getElem?_eq_getElem hc_1⟩
    refine .region <| .e rfl (.idxL (E := encN .i64) sl27 rfl rfl (hv.ext hs_1.ext) (by omega)) <| .e rfl (.ldL (E := encN .i64) scal3 rfl (hv.ext hs_1.ext) hx (by decide) rfl) <| .s rfl rfl <| .nil <| .seq ?_
    have hx63 := hb x (mem_of_get hx)
    refine .mid (fun L' w' => Weak [(4, (.int .i64 x)), (8, v), (9, (.int .i64 l.length)), (10, (.int .i64 k)), (11, (.bool (decide (k < l.length)))), (19, (.bool (decide ((x < 0) ∨ (2147483647 < x)))))] L' ∧ Sat w [] w') ?_ ?_
    · refine .region <| .m rfl rfl <| .e rfl (.lssN (b := 0) rfl rfl) <| .m rfl rfl ?_
      by_cases hg_1 : x < 0
      · refine .no rfl rfl rfl (decide_eq_true hg_1) rfl <| .no rfl rfl rfl (decide_eq_true hg_1) rfl <| .e rfl (.pickY rfl (decide_eq_true hg_1) rfl) <| .nil ?_
        exact ⟨⟨rfl, rfl, rfl, rfl, rfl, congrArg some (congrArg Value.bool (by simp [hg_1])), trivial⟩, hs_1⟩
      · refine .yes rfl rfl rfl (decide_eq_false hg_1) <| .m rfl rfl <| .yes rfl rfl rfl (decide_eq_false hg_1) <| .e rfl (.gtrN (b := 2147483647) rfl rfl) <| .e rfl (.pickN rfl (decide_eq_false hg_1) rfl) <| .nil ?_
        exact ⟨⟨rfl, rfl, rfl, rfl, rfl, congrArg some (congrArg Value.bool (by simp [hg_1])), trivial⟩, hs_1⟩
    · rintro L' w_2 ⟨hw_1, hs_2⟩
      refine .weaken _ hw_1 <| .condD rfl (fun hc_2 => ?_) (fun hc_2 => ?_)
      · refine .seq <| .region <| .s rfl rfl <| .nil <| .ret ?_
        show PostK _ _ _ _ _ _
        refine post1 rfl rfl ?_
        exact ⟨rfl, hs_2⟩
      · refine .skip <| .region <| .e rfl (.addI (b := 1) rfl rfl (by omega)) <| .m rfl rfl <| .nil ?_
        exact ⟨k + 1, ⟨rfl, rfl, rfl, trivial⟩, ⟨hs_2, by omega, all_take hgd hx (by have h9 := hc_2; omega)⟩, (show (l.length - (k + 1)) < (l.length - k) from by omega)⟩
  · refine .exit0 <| .seq ?_
    rw [show k = l.length by omega, List.take_length] at hgd
    exact absurd hgd hbad
set_option maxHeartbeats 2000000 in
theorem runpk_ok (v : Value) (b : List Nat) (w : World) (hv : RdL w v (encN .u8) b) (hb : ∀ x ∈ b, x < 256) (hbn : b.length ≤ 1000000) :
    CallsV Tryz.prog 23 [v] w fun r w' => ∃ v' l ok, r = .tuple #[v', .bool ok] ∧ Sat w [cL v' 3 (encN .i64) l] w' ∧ ∀ l0, PkOf b l0 → ok = true ∧ l = l0 := by
  have hs0 := Sat.start w
  refine callsV_of Tryz.func23 rfl rfl ?_
  refine .seq <| .region <| .s rfl rfl <| .s rfl rfl <| .nil <| .seq <| .region <| .f rfl (.alloc hs0 zero89 fun b_1 w_1 hs_1 hch_1 hb_1 => ?_)
  refine .nil <| .seq <| .region <| .m rfl rfl <| .s rfl rfl <| .nil <| .seq <| .seq <| .region <| .m rfl rfl <| .nil <| .block ?_
  have hs_2 : Sat w [cObj b_1 89 ((encN .u64).all ([0, 0, 0]))] w_1 := hs_1
  refine .loop (α := Nat × Value × List Nat × List Nat) (fun (q, bv2, l2, A) => [(0, v), (4, (.pointer (some ⟨b_1, 0, none⟩))), (5, bv2), (26, (.int .i64 q))]) (fun (q, bv2, l2, A) w' => Sat w [cObj b_1 89 ((encN .u64).all (A))] w' ∧ (q ≤ 3) ∧ (RdL w bv2 (encN .u8) l2) ∧ (∀ y ∈ l2, y < 256) ∧ (l2.length ≤ 1000000) ∧ (A.length = 3) ∧ (∀ x ∈ A, x ≤ 128) ∧ (∀ l0, PkOf b l0 → l2 = pqS l0 q ∧ ∀ j, j < q → A[j]? = some (pqV l0 j))) (fun (q, bv2, l2, A) => 3 - q) (0, v, b, [0, 0, 0]) ⟨rfl, rfl, rfl, rfl, trivial⟩ ⟨hs_2, Nat.zero_le _, hv, hb, hbn, rfl, by decide, fun l0 h0 => ⟨h0.2.2, fun j hj => absurd hj (by omega)⟩⟩ ?_
  rintro ⟨q, bv2, l2, A⟩ w_2 ⟨hs_3, hq, hbq, hb2, hl2, hA, hAb, hI⟩
  show CW _ _ _ _ [(0, v), (4, (.pointer (some ⟨b_1, 0, none⟩))), (5, bv2), (26, (.int .i64 q))] _
  refine .seq <| .region <| .e rfl (.lssN (b := 3) rfl rfl) <| .nil <| .seq <| .condD rfl (fun hc_1 => ?_) (fun hc_1 => ?_)
  · refine .skip <| .seq <| .block <| .seq <| .region <| .m rfl rfl <| .s rfl rfl <| .nil <| .seq <| .region <| .m rfl rfl <| .f rfl (.call ent22 rfl ((rtk_ok _ (l2) _ (hbq.ext hs_3.ext) (hb2)).mono fun r_1 w_3 h_1 => ?_))
    obtain ⟨rfl, hp_1⟩ := h_1
    have hs_4 := hs_3.adds hp_1
    refine .m rfl rfl <| .e rfl (.extract rfl rfl) <| .e rfl (.extract rfl rfl) <| .e rfl (.extract rfl rfl) <| .s rfl rfl <| .s rfl rfl <| .s rfl rfl <| .nil <| .seq <| .seq <| .mid (fun L' w' => Weak [(0, v), (4, (.pointer (some ⟨b_1, 0, none⟩))), (5, bv2), (6, (.int .i64 q)), (7, (.int .u64 ((uvR l2).1 : Nat))), (8, (.int .i64 ((uvR l2).2.1 : Nat))), (9, (.int .i64 ((uvR l2).2.2 : Nat))), (26, (.int .i64 q)), (27, (.bool (decide (q < 3)))), (40, (.bool (decide (((uvR l2).2.2 ≠ 0) ∨ (128 < (uvR l2).1)))))] L' ∧ Sat w [cObj b_1 89 ((encN .u64).all (A))] w') ?_ ?_
    · refine .region <| .m rfl rfl <| .e rfl (.neqN (b := 0) rfl rfl) <| .m rfl rfl ?_
      by_cases hg_1 : (uvR l2).2.2 ≠ 0
      · refine .no rfl rfl rfl (decide_eq_true hg_1) rfl <| .no rfl rfl rfl (decide_eq_true hg_1) rfl <| .e rfl (.pickY rfl (decide_eq_true hg_1) rfl) <| .nil ?_
        exact ⟨⟨rfl, rfl, rfl, rfl, rfl, rfl, rfl, rfl, rfl, congrArg some (congrArg Value.bool (by simp [hg_1])), trivial⟩, hs_4⟩
      · refine .yes rfl rfl rfl (decide_eq_false hg_1) <| .m rfl rfl <| .yes rfl rfl rfl (decide_eq_false hg_1) <| .e rfl (.gtrN (b := 128) rfl rfl) <| .e rfl (.pickN rfl (decide_eq_false hg_1) rfl) <| .nil ?_
        exact ⟨⟨rfl, rfl, rfl, rfl, rfl, rfl, rfl, rfl, rfl, congrArg some (congrArg Value.bool (by simp [hg_1])), trivial⟩, hs_4⟩
    · rintro L' w_4 ⟨hw_1, hs_5⟩
      refine .weaken _ hw_1 <| .condD rfl (fun hc_2 => ?_) (fun hc_2 => ?_)
      · refine .seq <| .region <| .s rfl rfl <| .s rfl rfl <| .nil <| .ret ?_
        show PostK _ _ _ _ _ _
        refine post2 rfl rfl rfl ?_
        have hs_6 := hs_5.newNilL 3 (encN .i64)
        have hs_7 : Sat w [_] w_4 := hs_6.sub ((.cons _ (.cons_cons _ .slnil)))
        refine ⟨_, [], _, rfl, hs_7, fun l0 h0 => False.elim ?_⟩
        obtain ⟨e1, e2⟩ := hI l0 h0
        obtain ⟨t1, t2, t3, t4⟩ := pq_take h0 (by omega) e1
        have h9 := hc_2
        omega
      · refine .skip <| .draw (fun w' => Sat w [] w') (.free 0 (.free 1 (.free 2 (.free 3 (.free 4 (.free 5 (.one 6 (.free 7 .fin)))))))) mixed (by kernel_rfl) ?_
        have hs_8 := hs_5.drew
        have hS_1 : Sat w [] _ := hs_8.sub ((.cons _ .slnil))
        refine .m rfl rfl hS_1 <| .m rfl rfl hS_1 <| .m rfl rfl hS_1 <| .m rfl rfl hS_1 <| .e rfl (fun w' hS' => .sliceL (E := encN .u8) (a := (uvR l2).2.1) (c := (l2).length) sl22 rfl (hbq.ext hS'.ext) ⟨_, rfl⟩ rfl (uvR_le _) (Nat.le_refl _)) hS_1 <| .e rfl (fun w' hS' => .idxArr arr89 rfl rfl (by omega)) hS_1 <| .f rfl (.setArr (E := encN .u64) (a := (uvR l2).1) 0 one56 hs_8 rfl rfl rfl rfl (by (try simp only [List.length_set]); omega) fun w_5 hs_9 hch_2 => ?_)
        have hS_2 : Sat w [] _ := hs_9.sub ((.cons _ .slnil))
        refine ⟨hS_2, ?_⟩
        refine .e rfl (fun w' hS' => .assign rfl) hS_2 <| .fin <| .region <| .e rfl (.addI (b := 1) rfl rfl (by omega)) <| .m rfl rfl <| .nil ?_
        exact ⟨(q + 1, (subSl (encN .u8).s bv2 ((uvR l2).2.1) ((l2).length)), ((l2).take ((l2).length)).drop ((uvR l2).2.1), A.set q ((uvR l2).1)), ⟨rfl, rfl, rfl, rfl, trivial⟩, ⟨hs_9, by omega, hbq.sub (uvR_le l2) (Nat.le_refl _), fun y hy => hb2 y (List.mem_of_mem_take (List.mem_of_mem_drop hy)), by rw [List.length_drop, List.length_take]; omega, by rw [List.length_set]; exact hA, fun y hy => (List.mem_or_eq_of_mem_set hy).elim (hAb y) (fun e => by rw [e]; have h9 := hc_2; omega), fun l0 h0 => by
      obtain ⟨e1, e2⟩ := hI l0 h0
      obtain ⟨t1, t2, t3, t4⟩ := pq_take h0 (show q < 3 by omega) e1
      rw [List.take_length]
      refine ⟨t4, fun j hj => ?_⟩
      by_cases hjq : j = q
      · rw [hjq, List.getElem?_set_self (by omega), t2]
      · rw [List.getElem?_set_ne (fun h => hjq h.symm)]; exact e2 j (by omega)⟩, (show (3 - (q + 1)) < (3 - q) from by omega)⟩
  · refine .exit0 <| .seq ?_
    obtain rfl : q = 3 := by omega
    obtain ⟨a0, a1, a2, rfl⟩ : ∃ a0 a1 a2, A = [a0, a1, a2] := by match A, hA with | [x, y, z], _ => exact ⟨x, y, z, rfl⟩
    have h0128 : a0 ≤ 128 := hAb a0 (by simp)
    have h1128 : a1 ≤ 128 := hAb a1 (by simp)
    have h2128 : a2 ≤ 128 := hAb a2 (by simp)
    have hJ : ∀ l0, PkOf b l0 → l2 = pqT l0 ∧ a0 = l0.length ∧ a1 = pqW l0 ∧ a2 = exC (pqW l0) l0 := fun l0 h0 => by obtain ⟨e1, e2⟩ := hI l0 h0; exact ⟨e1, Option.some.inj (e2 0 (by omega)), Option.some.inj (e2 1 (by omega)), Option.some.inj (e2 2 (by omega))⟩
    have hm01 : a0 * a1 ≤ 128 * 128 := Nat.mul_le_mul h0128 h1128
    refine .draw (fun w' => Sat w [cObj b_1 89 ((encN .u64).all ([a0, a1, a2]))] w') (.free 0 (.free 1 (.free 2 (.free 3 (.free 4 (.free 5 (.free 6 (.free 7 .fin)))))))) mixed (by kernel_rfl) ?_
    have hs_10 := hs_3.drew
    refine .e rfl (fun w' hS' => .idxArr (j := 0) arr89 rfl rfl (by decide)) hs_10 <| .e rfl (fun w' hS' => .load scal56 rfl (hS'.cellArr (E := encN .u64) 0 rfl rfl (by decide) rfl)) hs_10 <| .e rfl (fun w' hS' => .convK (by rw [Tryz.underlying56]; rfl) Tryz.underlying3 rfl (wrap_i (by (try simp only [IntKind.bits]); omega))) hs_10 <| .e rfl (fun w' hS' => .idxArr (j := 1) arr89 rfl rfl (by decide)) hs_10 <| .e rfl (fun w' hS' => .load scal56 rfl (hS'.cellArr (E := encN .u64) 0 rfl rfl (by decide) rfl)) hs_10 <| .e rfl (fun w' hS' => .convK (by rw [Tryz.underlying56]; rfl) Tryz.underlying3 rfl (wrap_i (by (try simp only [IntKind.bits]); omega))) hs_10 <| .e rfl (fun w' hS' => .assign rfl) hs_10 <| .e rfl (fun w' hS' => .assign rfl) hs_10 <| .fin <| .seq <| .region <| .m rfl rfl <| .m rfl rfl <| .e rfl (.mulI rfl rfl (by (try simp only [IntKind.bits]); omega)) <| .e rfl (.addI (b := 7) rfl rfl (by (try simp only [IntKind.bits]); omega)) <| .e rfl (.quo (b := 8) rfl rfl (by omega) (by unfold inI64; omega)) <| .s rfl rfl <| .nil <| .seq <| .seq <| .mid (fun L' w' => Weak [(0, v), (4, (.pointer (some ⟨b_1, 0, none⟩))), (5, bv2), (10, (.int .i64 a0)), (11, (.int .i64 a1)), (12, (.int .i64 ((((a0 * a1) + 7) / 8) : Nat))), (66, (.bool (decide ((31 < a1) ∨ (l2.length < (((a0 * a1) + 7) / 8))))))] L' ∧ Sat w [cObj b_1 89 ((encN .u64).all ([a0, a1, a2]))] w') ?_ ?_
    · refine .region <| .m rfl rfl <| .e rfl (.gtrN (b := 31) rfl rfl) <| .m rfl rfl ?_
      by_cases hg_2 : 31 < a1
      · refine .no rfl rfl rfl (decide_eq_true hg_2) rfl <| .no rfl rfl rfl (decide_eq_true hg_2) rfl <| .no rfl rfl rfl (decide_eq_true hg_2) rfl <| .no rfl rfl rfl (decide_eq_true hg_2) rfl <| .e rfl (.pickY rfl (decide_eq_true hg_2) rfl) <| .nil ?_
        exact ⟨⟨rfl, rfl, rfl, rfl, rfl, rfl, congrArg some (congrArg Value.bool (by simp [hg_2])), trivial⟩, hs_10⟩
      · refine .yes rfl rfl rfl (decide_eq_false hg_2) <| .m rfl rfl <| .yes rfl rfl rfl (decide_eq_false hg_2) <| .m rfl rfl <| .yes rfl rfl rfl (decide_eq_false hg_2) <| .e rfl (.lenL Tryz.underlying22 rfl (hbq.ext hs_10.ext)) <| .yes rfl rfl rfl (decide_eq_false hg_2) <| .e rfl (.gtrN rfl rfl) <| .e rfl (.pickN rfl (decide_eq_false hg_2) rfl) <| .nil ?_
        exact ⟨⟨rfl, rfl, rfl, rfl, rfl, rfl, congrArg some (congrArg Value.bool (by simp [hg_2])), trivial⟩, hs_10⟩
    · rintro L' w_6 ⟨hw_2, hs_11⟩
      refine .weaken _ hw_2 <| .condD rfl (fun hc_3 => ?_) (fun hc_3 => ?_)
      · refine .seq <| .region <| .s rfl rfl <| .s rfl rfl <| .nil <| .ret ?_
        show PostK _ _ _ _ _ _
        refine post2 rfl rfl rfl ?_
        have hs_12 := hs_11.newNilL 3 (encN .i64)
        have hs_13 : Sat w [_] w_6 := hs_12.sub ((.cons _ (.cons_cons _ .slnil)))
        refine ⟨_, [], _, rfl, hs_13, fun l0 h0 => False.elim ?_⟩
        obtain ⟨e1, e2, e3, e4⟩ := hJ l0 h0
        have t1 := pqW_le l0
        have t2 := pqT_len l0
        rw [← e1, ← e2, ← e3] at t2
        have h9 := hc_3
        omega
      · refine .skip <| .seq ?_
        have hp13 : a1 ≤ 31 ∧ (a0 * a1 + 7) / 8 ≤ l2.length := by have h9 := hc_3; omega
        refine .region <| .m rfl rfl <| .m rfl rfl <| .m rfl rfl <| .e rfl (.mulI rfl rfl (by (try simp only [IntKind.bits]); omega)) <| .f rfl (.call ent49 rfl ((runp2_ok _ (l2) ((a0 * a1)) _ (hbq.ext hs_11.ext) (hb2) (by omega) (by omega)).mono fun r_2 w_7 h_2 => ?_))
        have hp_2 := h_2
        have hs_14 := hs_11.adds hp_2
        refine .s rfl rfl <| .nil <| .seq <| .region <| .m rfl rfl <| .m rfl rfl <| .e rfl (.sliceL (E := encN .u8) (a := (((a0 * a1) + 7) / 8)) (c := (l2).length) sl22 rfl (hbq.ext hs_14.ext) ⟨_, rfl⟩ rfl (by omega) (Nat.le_refl _)) <| .s rfl rfl <| .nil <| .seq <| .region <| .m rfl rfl <| .f rfl (.makeL (encN .i64) (0) sl27 rfl hs_14 rfl rfl (by omega) (by omega) (by omega) fun v_1 w_8 hs_15 hch_3 => ?_)
        refine .s rfl rfl <| .nil <| .seq <| .seq <| .region <| .m rfl rfl <| .e rfl (.lenL Tryz.underlying27 rfl (hs_15.rdL 2 rfl)) <| .m rfl rfl <| .nil <| .block ?_
        have hs_16 : Sat w [cObj b_1 89 ((encN .u64).all ([a0, a1, a2])), cL r_2 4 (encB) (bitsN l2 (a0 * a1)), cL v_1 3 (encN .i64) (lowU l2 a0 a1 0)] w_8 := by
          have hq : List.replicate (a0) 0 = lowU l2 a0 a1 0 := (lowU_zero l2 a0 a1).symm
          rw [← hq]; exact hs_15
        refine .loop (α := Nat) (fun k => [(0, v), (4, (.pointer (some ⟨b_1, 0, none⟩))), (5, (subSl (encN .u8).s bv2 (((a0 * a1) + 7) / 8) ((l2).length))), (10, (.int .i64 a0)), (11, (.int .i64 a1)), (13, r_2), (14, v_1), (78, (.int .i64 a0)), (79, (.int .i64 k))]) (fun k w' => Sat w [cObj b_1 89 ((encN .u64).all ([a0, a1, a2])), cL r_2 4 (encB) (bitsN l2 (a0 * a1)), cL v_1 3 (encN .i64) (lowU l2 a0 a1 k)] w' ∧ (k ≤ a0)) (fun k => a0 - k) 0 ⟨rfl, rfl, rfl, rfl, rfl, rfl, rfl, congrArg some (congrArg (Value.int .i64) (by simp)), rfl, trivial⟩ ⟨hs_16, Nat.zero_le _⟩ ?_
        rintro k w_9 ⟨hs_17, hk⟩
        show CW _ _ _ _ [(0, v), (4, (.pointer (some ⟨b_1, 0, none⟩))), (5, (subSl (encN .u8).s bv2 (((a0 * a1) + 7) / 8) ((l2).length))), (10, (.int .i64 a0)), (11, (.int .i64 a1)), (13, r_2), (14, v_1), (78, (.int .i64 a0)), (79, (.int .i64 k))] _
        refine .seq <| .region <| .e rfl (.lssN rfl rfl) <| .nil <| .seq <| .condD rfl (fun hc_4 => ?_) (fun hc_4 => ?_)
        · refine .skip <| .seq <| .block <| .seq <| .region <| .m rfl rfl <| .s rfl rfl <| .nil <| .seq ?_
          have hka : k < a0 := hc_4
          have hkm : (k + 1) * a1 ≤ a0 * a1 := Nat.mul_le_mul_right a1 hka
          have hkm1 : (k + 1) * a1 = k * a1 + a1 := Nat.succ_mul k a1
          refine .region <| .m rfl rfl <| .m rfl rfl <| .m rfl rfl <| .e rfl (.mulI rfl rfl (by (try simp only [IntKind.bits]); omega)) <| .m rfl rfl <| .e rfl (.addI (b := 1) rfl rfl (by (try simp only [IntKind.bits]); omega)) <| .m rfl rfl <| .e rfl (.mulI rfl rfl (by (try simp only [IntKind.bits]); omega)) <| .e rfl (.sliceL (E := encB) (a := (k * a1)) (c := ((k + 1) * a1)) sl90 rfl (hs_17.rdL 1 rfl) ⟨_, rfl⟩ ⟨_, rfl⟩ (by omega) (by rw [bitsN_length]; omega)) <| .e rfl (.lenL Tryz.underlying90 rfl (((hs_17.rdL 1 rfl)).sub (a := (k * a1)) (b := ((k + 1) * a1)) (by omega) (by rw [bitsN_length]; omega))) <| .m rfl rfl <| .nil <| .block ?_
          have hl90 : (((bitsN l2 (a0 * a1)).take ((k + 1) * a1)).drop (k * a1)).length = a1 := by rw [List.length_drop, List.length_take, bitsN_length]; omega
          have hs_18 : Sat w [cObj b_1 89 ((encN .u64).all ([a0, a1, a2])), cL r_2 4 (encB) (bitsN l2 (a0 * a1)), cL v_1 3 (encN .i64) ((lowU l2 a0 a1 k).set k (bvN l2 (a1 * k) 0))] w_9 := by
            have hq : lowU l2 a0 a1 k = (lowU l2 a0 a1 k).set k (bvN l2 (a1 * k) 0) := (low_set0 hka).symm
            rw [← hq]; exact hs_17
          refine .loop (α := Nat) (fun j => [(0, v), (4, (.pointer (some ⟨b_1, 0, none⟩))), (5, (subSl (encN .u8).s bv2 (((a0 * a1) + 7) / 8) ((l2).length))), (10, (.int .i64 a0)), (11, (.int .i64 a1)), (13, r_2), (14, v_1), (15, (.int .i64 k)), (78, (.int .i64 a0)), (79, (.int .i64 k)), (90, (subSl (encB).s r_2 (k * a1) ((k + 1) * a1))), (91, (.int .i64 a1)), (92, (.int .i64 j))]) (fun j w' => Sat w [cObj b_1 89 ((encN .u64).all ([a0, a1, a2])), cL r_2 4 (encB) (bitsN l2 (a0 * a1)), cL v_1 3 (encN .i64) ((lowU l2 a0 a1 k).set k (bvN l2 (a1 * k) j))] w' ∧ (j ≤ a1)) (fun j => a1 - j) 0 ⟨rfl, rfl, rfl, rfl, rfl, rfl, rfl, rfl, rfl, rfl, rfl, congrArg some (congrArg (fun q : Nat => Value.int .i64 (q : Int)) hl90), rfl, trivial⟩ ⟨hs_18, Nat.zero_le _⟩ ?_
          rintro j w_10 ⟨hs_19, hj⟩
          show CW _ _ _ _ [(0, v), (4, (.pointer (some ⟨b_1, 0, none⟩))), (5, (subSl (encN .u8).s bv2 (((a0 * a1) + 7) / 8) ((l2).length))), (10, (.int .i64 a0)), (11, (.int .i64 a1)), (13, r_2), (14, v_1), (15, (.int .i64 k)), (78, (.int .i64 a0)), (79, (.int .i64 k)), (90, (subSl (encB).s r_2 (k * a1) ((k + 1) * a1))), (91, (.int .i64 a1)), (92, (.int .i64 j))] _
          refine .seq <| .region <| .e rfl (.lssN rfl rfl) <| .nil <| .seq <| .condD rfl (fun hc_5 => ?_) (fun hc_5 => ?_)
          · refine .skip <| .seq <| .block <| .seq ?_
            obtain ⟨x, hxe⟩ : ∃ x, x = decide (rb l2 (a1 * k + j) = 1) := ⟨_, rfl⟩
            have hja : j < a1 := hc_5
            have hx : (((bitsN l2 (a0 * a1)).take ((k + 1) * a1)).drop (k * a1))[j]? = some x := by rw [hxe, List.getElem?_drop, List.getElem?_take, if_pos (by omega), bitsN_get (by omega), Nat.mul_comm k a1]
            have hbl := bvN_lt l2 (a1 * k) j
            have hp31 : 2 ^ j ≤ 2 ^ 31 := Nat.pow_le_pow_right (by decide) (by omega)
            have hll : (lowU l2 a0 a1 k).length = a0 := lowU_length (by omega)
            refine .region <| .e rfl (.idxL (E := encB) sl90 rfl rfl (((hs_19.rdL 1 rfl)).sub (a := (k * a1)) (b := ((k + 1) * a1)) (by omega) (by rw [bitsN_length]; omega)) (by omega)) <| .e rfl (.ldL (E := encB) scal4 rfl (((hs_19.rdL 1 rfl)).sub (a := (k * a1)) (b := ((k + 1) * a1)) (by omega) (by rw [bitsN_length]; omega)) hx (by decide) rfl) <| .s rfl rfl <| .nil <| .seq ?_
            have hg24 : ((lowU l2 a0 a1 k).set k (bvN l2 (a1 * k) j))[k]? = some (bvN l2 (a1 * k) j) := List.getElem?_set_self (by (try simp only [List.length_set]); omega)
            refine .region <| .m rfl rfl <| .m rfl rfl <| .e rfl (.idxL (E := encN .i64) sl27 rfl rfl (hs_19.rdL 2 rfl) (by (try simp only [List.length_set]); omega)) <| .e rfl (.ldL (E := encN .i64) scal3 rfl (hs_19.rdL 2 rfl) hg24 (by decide) rfl) <| .e rfl (.mulI (b := 2) rfl rfl (by (try simp only [IntKind.bits]); omega)) <| .e rfl (.idxL (E := encN .i64) sl27 rfl rfl (hs_19.rdL 2 rfl) (by (try simp only [List.length_set]); omega)) <| .f rfl (.setL (a := ((bvN l2 (a1 * k) j) * 2)) 2 one3 hs_19 rfl rfl rfl rfl (by (try simp only [List.length_set]); omega) fun w_11 hs_20 hch_4 => ?_)
            refine .nil <| .seq <| .region <| .m rfl rfl <| .nil <| .cond rfl (fun hc_6 => ?_) (fun hc_6 => ?_)
            · have hg26 : (((lowU l2 a0 a1 k).set k (bvN l2 (a1 * k) j)).set k ((bvN l2 (a1 * k) j) * 2))[k]? = some (bvN l2 (a1 * k) j * 2) := List.getElem?_set_self (by (try simp only [List.length_set]); omega)
              refine .region <| .m rfl rfl <| .m rfl rfl <| .e rfl (.idxL (E := encN .i64) sl27 rfl rfl (hs_20.rdL 2 rfl) (by (try simp only [List.length_set]); omega)) <| .e rfl (.ldL (E := encN .i64) scal3 rfl (hs_20.rdL 2 rfl) hg26 (by decide) rfl) <| .e rfl (.addI (b := 1) rfl rfl (by (try simp only [IntKind.bits]); omega)) <| .e rfl (.idxL (E := encN .i64) sl27 rfl rfl (hs_20.rdL 2 rfl) (by (try simp only [List.length_set]); omega)) <| .f rfl (.setL (a := ((bvN l2 (a1 * k) j * 2) + 1)) 2 one3 hs_20 rfl rfl rfl rfl (by (try simp only [List.length_set]); omega) fun w_12 hs_21 hch_5 => ?_)
              refine .nil <| .region <| .e rfl (.addI (b := 1) rfl rfl (by omega)) <| .m rfl rfl <| .nil ?_
              have hs_22 : Sat w [cObj b_1 89 ((encN .u64).all ([a0, a1, a2])), cL r_2 4 (encB) (bitsN l2 (a0 * a1)), cL v_1 3 (encN .i64) ((lowU l2 a0 a1 k).set k (bvN l2 (a1 * k) (j + 1)))] w_12 := by
                have hq : (((lowU l2 a0 a1 k).set k (bvN l2 (a1 * k) j)).set k ((bvN l2 (a1 * k) j) * 2)).set k ((bvN l2 (a1 * k) j * 2) + 1) = (lowU l2 a0 a1 k).set k (bvN l2 (a1 * k) (j + 1)) := by rw [List.set_set, List.set_set, bvN, show rb l2 (a1 * k + j) = 1 from of_decide_eq_true (hxe.symm.trans hc_6)]; congr 1; omega
                rw [← hq]; exact hs_21
              exact ⟨j + 1, ⟨rfl, rfl, rfl, rfl, rfl, rfl, rfl, rfl, rfl, rfl, rfl, rfl, rfl, trivial⟩, ⟨hs_22, by omega⟩, (show (a1 - (j + 1)) < (a1 - j) from by omega)⟩
            · refine .skip <| .region <| .e rfl (.addI (b := 1) rfl rfl (by omega)) <| .m rfl rfl <| .nil ?_
              have hs_23 : Sat w [cObj b_1 89 ((encN .u64).all ([a0, a1, a2])), cL r_2 4 (encB) (bitsN l2 (a0 * a1)), cL v_1 3 (encN .i64) ((lowU l2 a0 a1 k).set k (bvN l2 (a1 * k) (j + 1)))] w_11 := by
                have hq : ((lowU l2 a0 a1 k).set k (bvN l2 (a1 * k) j)).set k ((bvN l2 (a1 * k) j) * 2) = (lowU l2 a0 a1 k).set k (bvN l2 (a1 * k) (j + 1)) := by have h1 := rb_lt l2 (a1 * k + j); have h2 := of_decide_eq_false (hxe.symm.trans hc_6); rw [List.set_set, bvN, show rb l2 (a1 * k + j) = 0 by omega]; congr 1; omega
                rw [← hq]; exact hs_20
              exact ⟨j + 1, ⟨rfl, rfl, rfl, rfl, rfl, rfl, rfl, rfl, rfl, rfl, rfl, rfl, rfl, trivial⟩, ⟨hs_23, by omega⟩, (show (a1 - (j + 1)) < (a1 - j) from by omega)⟩
          · refine .exit0 <| .region <| .e rfl (.addI (b := 1) rfl rfl (by omega)) <| .m rfl rfl <| .nil ?_
            have hs_24 : Sat w [cObj b_1 89 ((encN .u64).all ([a0, a1, a2])), cL r_2 4 (encB) (bitsN l2 (a0 * a1)), cL v_1 3 (encN .i64) (lowU l2 a0 a1 (k + 1))] w_10 := by
              have hq : (lowU l2 a0 a1 k).set k (bvN l2 (a1 * k) j) = lowU l2 a0 a1 (k + 1) := by rw [show j = a1 by omega]; exact lowU_set hka
              rw [← hq]; exact hs_19
            exact ⟨k + 1, ⟨rfl, rfl, rfl, rfl, rfl, rfl, rfl, rfl, rfl, trivial⟩, ⟨hs_24, by omega⟩, (show (a0 - (k + 1)) < (a0 - k) from by omega)⟩
        · refine .exit0 <| .seq <| .region <| .s rfl rfl <| .nil <| .seq <| .seq <| .region <| .s rfl rfl <| .nil <| .block ?_
          have hs_25 : Sat w [cObj b_1 89 ((encN .u64).all ([a0, a1, a2])), cL r_2 4 (encB) (bitsN l2 (a0 * a1)), cL v_1 3 (encN .i64) (lowsN l2 a0 a1)] w_9 := by
            have hq : lowU l2 a0 a1 k = lowsN l2 a0 a1 := by rw [show k = a0 by omega, lowU_all]
            rw [← hq]; exact hs_17
          refine .loop (α := Nat × Nat × Value × List Nat × List Nat) (fun (kk, at1, bv3, l3, vs) => [(0, v), (4, (.pointer (some ⟨b_1, 0, none⟩))), (5, bv3), (10, (.int .i64 a0)), (11, (.int .i64 a1)), (14, v_1), (18, (.int .i64 ((((at1 : Nat) : Int) - 1)))), (19, (.int .u64 kk))]) (fun (kk, at1, bv3, l3, vs) w' => Sat w [cObj b_1 89 ((encN .u64).all ([a0, a1, a2])), cL r_2 4 (encB) (bitsN l2 (a0 * a1)), cL v_1 3 (encN .i64) (vs)] w' ∧ (kk ≤ a2) ∧ (RdL w bv3 (encN .u8) l3) ∧ (∀ y ∈ l3, y < 256) ∧ (l3.length ≤ 1000000) ∧ (vs.length = a0) ∧ (∀ x ∈ vs, x < 2 ^ 63) ∧ (at1 ≤ a0) ∧ (∀ l0, PkOf b l0 → exL a1 a0 (a2 - kk) true l3 at1 vs = some l0)) (fun (kk, at1, bv3, l3, vs) => a2 - kk) (0, 0, (subSl (encN .u8).s bv2 (((a0 * a1) + 7) / 8) ((l2).length)), ((l2).take ((l2).length)).drop (((a0 * a1) + 7) / 8), lowsN l2 a0 a1) ⟨rfl, rfl, rfl, rfl, rfl, rfl, rfl, rfl, trivial⟩ ⟨hs_25, Nat.zero_le _, hbq.sub (a := (a0 * a1 + 7) / 8) hp13.2 (Nat.le_refl _), fun y hy => hb2 y (List.mem_of_mem_take (List.mem_of_mem_drop hy)), by rw [List.length_drop, List.length_take]; omega, lowsN_length .., fun x hx => by have := lowsN_lt l2 a0 a1 (by omega) x hx; omega, Nat.zero_le _, fun l0 h0 => by obtain ⟨e1, e2, e3, e4⟩ := hJ l0 h0; rw [List.take_length, e1, e2, e3, e4]; exact pq_ex h0⟩ ?_
          rintro ⟨kk, at1, bv3, l3, vs⟩ w_13 ⟨hs_26, hkk, hb3, hb3b, hl3, hvl, hv63, hat, hE⟩
          show CW _ _ _ _ [(0, v), (4, (.pointer (some ⟨b_1, 0, none⟩))), (5, bv3), (10, (.int .i64 a0)), (11, (.int .i64 a1)), (14, v_1), (18, (.int .i64 ((((at1 : Nat) : Int) - 1)))), (19, (.int .u64 kk))] _
          refine .seq <| .seq <| .region <| .m rfl rfl <| .e rfl (.idxArr (j := 2) arr89 rfl rfl (by decide)) <| .e rfl (.load scal56 rfl (hs_26.cellArr (E := encN .u64) 0 rfl rfl (by decide) rfl)) <| .e rfl (.lssN rfl rfl) <| .nil <| .condD rfl (fun hc_7 => ?_) (fun hc_7 => ?_)
          · refine .skip <| .seq <| .block <| .seq ?_
            have hkl : kk < a2 := hc_7
            have hX : ∀ l0, PkOf b l0 → exL a1 a0 ((a2 - (kk + 1)) + 1) true l3 at1 vs = some l0 := fun l0 h0 => by rw [show a2 - (kk + 1) + 1 = a2 - kk by omega]; exact hE l0 h0
            refine .region <| .m rfl rfl <| .f rfl (.call ent22 rfl ((rtk_ok _ (l3) _ (hb3.ext hs_26.ext) (hb3b)).mono fun r_3 w_14 h_3 => ?_))
            obtain ⟨rfl, hp_3⟩ := h_3
            have hs_27 := hs_26.adds hp_3
            refine .m rfl rfl <| .e rfl (.extract rfl rfl) <| .e rfl (.extract rfl rfl) <| .e rfl (.extract rfl rfl) <| .s rfl rfl <| .s rfl rfl <| .s rfl rfl <| .nil <| .seq <| .seq <| .region <| .m rfl rfl <| .e rfl (.neqN (b := 0) rfl rfl) <| .nil <| .condD rfl (fun hc_8 => ?_) (fun hc_8 => ?_)
            · refine .seq <| .region <| .s rfl rfl <| .s rfl rfl <| .nil <| .ret ?_
              show PostK _ _ _ _ _ _
              refine post2 rfl rfl rfl ?_
              have hs_28 := hs_27.newNilL 3 (encN .i64)
              have hs_29 : Sat w [_] w_14 := hs_28.sub ((.cons _ (.cons _ (.cons _ (.cons_cons _ .slnil)))))
              refine ⟨_, [], _, rfl, hs_29, fun l0 h0 => False.elim ?_⟩
              obtain ⟨t1, _⟩ := ex_step (hX l0 h0)
              exact hc_8 t1
            · refine .skip <| .seq <| .region <| .m rfl rfl <| .m rfl rfl <| .e rfl (.sliceL (E := encN .u8) (a := (uvR l3).2.1) (c := (l3).length) sl22 rfl (hb3.ext hs_27.ext) ⟨_, rfl⟩ rfl (uvR_le _) (Nat.le_refl _)) <| .f rfl (.call ent22 rfl ((rtk_ok _ (((l3).take ((l3).length)).drop ((uvR l3).2.1)) _ (((hb3.ext hs_27.ext)).sub (a := (uvR l3).2.1) (b := (l3).length) (uvR_le _) (Nat.le_refl _)) ((fun y hy => hb3b y (List.mem_of_mem_take (List.mem_of_mem_drop hy))))).mono fun r_4 w_15 h_4 => ?_))
              obtain ⟨rfl, hp_4⟩ := h_4
              have hs_30 := hs_27.adds hp_4
              refine .m rfl rfl <| .e rfl (.extract rfl rfl) <| .e rfl (.extract rfl rfl) <| .e rfl (.extract rfl rfl) <| .s rfl rfl <| .s rfl rfl <| .s rfl rfl <| .nil ?_
              obtain ⟨d3, hd3⟩ : ∃ d3, d3 = (((l3).take ((l3).length)).drop ((uvR l3).2.1)) := ⟨_, rfl⟩
              refine .weaken [(0, _), (4, _), (5, _), (10, _), (11, _), (14, _), (18, _), (19, _), (20, _), (21, _), (22, _), (23, (.int .u64 ((uvR d3).1 : Nat))), (24, _), (111, _), (112, _), (113, _), (114, _), (117, _), (118, _), (119, _), (120, _), (121, _), (122, _), (123, _), (124, _), (125, _), (126, _), (127, _), (128, _), (129, _), (130, _), (131, _), (132, _)] ⟨rfl, rfl, rfl, rfl, rfl, rfl, rfl, rfl, rfl, rfl, rfl, congrArg some (by rw [hd3]; rfl), rfl, rfl, rfl, rfl, rfl, rfl, rfl, rfl, rfl, rfl, rfl, rfl, rfl, rfl, rfl, rfl, rfl, rfl, rfl, rfl, rfl, trivial⟩ <| .weaken [(0, _), (4, _), (5, _), (10, _), (11, _), (14, _), (18, _), (19, _), (20, _), (21, _), (22, _), (23, _), (24, (.int .i64 ((uvR d3).2.1 : Nat))), (111, _), (112, _), (113, _), (114, _), (117, _), (118, _), (119, _), (120, _), (121, _), (122, _), (123, _), (124, _), (125, _), (126, _), (127, _), (128, _), (129, _), (130, _), (131, _), (132, _)] ⟨rfl, rfl, rfl, rfl, rfl, rfl, rfl, rfl, rfl, rfl, rfl, rfl, congrArg some (by rw [hd3]; rfl), rfl, rfl, rfl, rfl, rfl, rfl, rfl, rfl, rfl, rfl, rfl, rfl, rfl, rfl, rfl, rfl, rfl, rfl, rfl, rfl, trivial⟩ <| .weaken [(0, _), (4, _), (5, _), (10, _), (11, _), (14, _), (18, _), (19, _), (20, _), (21, _), (22, (.int .i64 ((uvR d3).2.2 : Nat))), (23, _), (24, _), (111, _), (112, _), (113, _), (114, _), (117, _), (118, _), (119, _), (120, _), (121, _), (122, _), (123, _), (124, _), (125, _), (126, _), (127, _), (128, _), (129, _), (130, _), (131, _), (132, _)] ⟨rfl, rfl, rfl, rfl, rfl, rfl, rfl, rfl, rfl, rfl, congrArg some (by rw [hd3]; rfl), rfl, rfl, rfl, rfl, rfl, rfl, rfl, rfl, rfl, rfl, rfl, rfl, rfl, rfl, rfl, rfl, rfl, rfl, rfl, rfl, rfl, rfl, trivial⟩ ?_
              have hD : d3 = l3.drop (uvR l3).2.1 := by rw [hd3, List.take_length]
              have hDle := uvR_le d3
              have hDl : d3.length = l3.length - (uvR l3).2.1 := by rw [hD, List.length_drop]
              have hl3le := uvR_le l3
              refine .seq <| .seq <| .mid (fun L' w' => Weak [(0, v), (4, (.pointer (some ⟨b_1, 0, none⟩))), (5, bv3), (10, (.int .i64 a0)), (11, (.int .i64 a1)), (14, v_1), (18, (.int .i64 ((((at1 : Nat) : Int) - 1)))), (19, (.int .u64 kk)), (20, (.int .u64 ((uvR l3).1 : Nat))), (21, (.int .i64 ((uvR l3).2.1 : Nat))), (22, (.int .i64 ((uvR d3).2.2 : Nat))), (23, (.int .u64 ((uvR d3).1 : Nat))), (24, (.int .i64 ((uvR d3).2.1 : Nat))), (114, (.bool (decide (kk < a2)))), (124, (.bool (decide ((uvR l3).2.2 ≠ 0)))), (157, (.bool (decide ((((((uvR d3).2.2 ≠ 0) ∨ (128 < (uvR l3).1)) ∨ (((a0 : Nat) : Int) ≤ (((((at1 : Nat) : Int) - 1) + (((uvR l3).1 : Nat) : Int)) : Int))) ∨ ((((((at1 : Nat) : Int) - 1) + (((uvR l3).1 : Nat) : Int)) : Int) < (0 : Int))) ∨ (2147483648 < (uvR d3).1)))))] L' ∧ Sat w [cObj b_1 89 ((encN .u64).all ([a0, a1, a2])), cL r_2 4 (encB) (bitsN l2 (a0 * a1)), cL v_1 3 (encN .i64) (vs)] w') ?_ ?_
              · refine .region <| .m rfl rfl <| .e rfl (.neqN (b := 0) rfl rfl) <| .m rfl rfl ?_
                by_cases hg_3 : (uvR d3).2.2 ≠ 0
                · refine .no rfl rfl rfl (decide_eq_true hg_3) rfl <| .no rfl rfl rfl (decide_eq_true hg_3) rfl <| .e rfl (.pickY rfl (decide_eq_true hg_3) rfl) <| .m rfl rfl <| .no rfl rfl rfl (rfl) rfl <| .no rfl rfl rfl (rfl) rfl <| .no rfl rfl rfl (rfl) rfl <| .no rfl rfl rfl (rfl) rfl <| .no rfl rfl rfl (rfl) rfl <| .no rfl rfl rfl (rfl) rfl <| .e rfl (.pickY rfl (rfl) rfl) <| .m rfl rfl <| .no rfl rfl rfl (rfl) rfl <| .no rfl rfl rfl (rfl) rfl <| .no rfl rfl rfl (rfl) rfl <| .no rfl rfl rfl (rfl) rfl <| .no rfl rfl rfl (rfl) rfl <| .e rfl (.pickY rfl (rfl) rfl) <| .m rfl rfl <| .no rfl rfl rfl (rfl) rfl <| .no rfl rfl rfl (rfl) rfl <| .e rfl (.pickY rfl (rfl) rfl) <| .nil ?_
                  exact ⟨⟨rfl, rfl, rfl, rfl, rfl, rfl, rfl, rfl, rfl, rfl, rfl, rfl, rfl, rfl, rfl, congrArg some (congrArg Value.bool (by simp [hg_3])), trivial⟩, hs_30⟩
                · refine .yes rfl rfl rfl (decide_eq_false hg_3) <| .m rfl rfl <| .yes rfl rfl rfl (decide_eq_false hg_3) <| .e rfl (.gtrN (b := 128) rfl rfl) <| .e rfl (.pickN rfl (decide_eq_false hg_3) rfl) <| .m rfl rfl ?_
                  by_cases hg_4 : 128 < (uvR l3).1
                  · refine .no rfl rfl rfl (decide_eq_true hg_4) rfl <| .no rfl rfl rfl (decide_eq_true hg_4) rfl <| .no rfl rfl rfl (decide_eq_true hg_4) rfl <| .no rfl rfl rfl (decide_eq_true hg_4) rfl <| .no rfl rfl rfl (decide_eq_true hg_4) rfl <| .no rfl rfl rfl (decide_eq_true hg_4) rfl <| .e rfl (.pickY rfl (decide_eq_true hg_4) rfl) <| .m rfl rfl <| .no rfl rfl rfl (rfl) rfl <| .no rfl rfl rfl (rfl) rfl <| .no rfl rfl rfl (rfl) rfl <| .no rfl rfl rfl (rfl) rfl <| .no rfl rfl rfl (rfl) rfl <| .e rfl (.pickY rfl (rfl) rfl) <| .m rfl rfl <| .no rfl rfl rfl (rfl) rfl <| .no rfl rfl rfl (rfl) rfl <| .e rfl (.pickY rfl (rfl) rfl) <| .nil ?_
                    exact ⟨⟨rfl, rfl, rfl, rfl, rfl, rfl, rfl, rfl, rfl, rfl, rfl, rfl, rfl, rfl, rfl, congrArg some (congrArg Value.bool (by simp [hg_3, hg_4])), trivial⟩, hs_30⟩
                  · refine .yes rfl rfl rfl (decide_eq_false hg_4) <| .m rfl rfl <| .yes rfl rfl rfl (decide_eq_false hg_4) <| .m rfl rfl <| .yes rfl rfl rfl (decide_eq_false hg_4) <| .e rfl (.convK (by rw [Tryz.underlying56]; rfl) Tryz.underlying3 rfl (wrap_i (by (try simp only [IntKind.bits]); omega))) <| .yes rfl rfl rfl (decide_eq_false hg_4) <| .e rfl (.add rfl rfl (by unfold inI64; omega)) <| .yes rfl rfl rfl (decide_eq_false hg_4) <| .m rfl rfl <| .yes rfl rfl rfl (decide_eq_false hg_4) <| .e rfl (.geq rfl rfl) <| .e rfl (.pickN rfl (decide_eq_false hg_4) rfl) <| .m rfl rfl ?_
                    by_cases hg_5 : ((a0 : Nat) : Int) ≤ (((((at1 : Nat) : Int) - 1) + (((uvR l3).1 : Nat) : Int)) : Int)
                    · refine .no rfl rfl rfl (decide_eq_true hg_5) rfl <| .no rfl rfl rfl (decide_eq_true hg_5) rfl <| .no rfl rfl rfl (decide_eq_true hg_5) rfl <| .no rfl rfl rfl (decide_eq_true hg_5) rfl <| .no rfl rfl rfl (decide_eq_true hg_5) rfl <| .e rfl (.pickY rfl (decide_eq_true hg_5) rfl) <| .m rfl rfl <| .no rfl rfl rfl (rfl) rfl <| .no rfl rfl rfl (rfl) rfl <| .e rfl (.pickY rfl (rfl) rfl) <| .nil ?_
                      exact ⟨⟨rfl, rfl, rfl, rfl, rfl, rfl, rfl, rfl, rfl, rfl, rfl, rfl, rfl, rfl, rfl, congrArg some (congrArg Value.bool (by simp [hg_3, hg_4, hg_5])), trivial⟩, hs_30⟩
                    · refine .yes rfl rfl rfl (decide_eq_false hg_5) <| .m rfl rfl <| .yes rfl rfl rfl (decide_eq_false hg_5) <| .m rfl rfl <| .yes rfl rfl rfl (decide_eq_false hg_5) <| .e rfl (.convK (by rw [Tryz.underlying56]; rfl) Tryz.underlying3 rfl (wrap_i (by (try simp only [IntKind.bits]); omega))) <| .yes rfl rfl rfl (decide_eq_false hg_5) <| .e rfl (.add rfl rfl (by unfold inI64; omega)) <| .yes rfl rfl rfl (decide_eq_false hg_5) <| .e rfl (.lss rfl rfl) <| .e rfl (.pickN rfl (decide_eq_false hg_5) rfl) <| .m rfl rfl ?_
                      by_cases hg_6 : (((((at1 : Nat) : Int) - 1) + (((uvR l3).1 : Nat) : Int)) : Int) < (0 : Int)
                      · refine .no rfl rfl rfl (decide_eq_true hg_6) rfl <| .no rfl rfl rfl (decide_eq_true hg_6) rfl <| .e rfl (.pickY rfl (decide_eq_true hg_6) rfl) <| .nil ?_
                        exact ⟨⟨rfl, rfl, rfl, rfl, rfl, rfl, rfl, rfl, rfl, rfl, rfl, rfl, rfl, rfl, rfl, congrArg some (congrArg Value.bool (by simp [hg_3, hg_4, hg_5, hg_6])), trivial⟩, hs_30⟩
                      · refine .yes rfl rfl rfl (decide_eq_false hg_6) <| .m rfl rfl <| .yes rfl rfl rfl (decide_eq_false hg_6) <| .e rfl (.gtrN (b := 2147483648) rfl rfl) <| .e rfl (.pickN rfl (decide_eq_false hg_6) rfl) <| .nil ?_
                        exact ⟨⟨rfl, rfl, rfl, rfl, rfl, rfl, rfl, rfl, rfl, rfl, rfl, rfl, rfl, rfl, rfl, congrArg some (congrArg Value.bool (by simp [hg_3, hg_4, hg_5, hg_6])), trivial⟩, hs_30⟩
              · rintro L' w_16 ⟨hw_3, hs_31⟩
                refine .weaken _ hw_3 <| .condD rfl (fun hc_9 => ?_) (fun hc_9 => ?_)
                · refine .seq <| .region <| .s rfl rfl <| .s rfl rfl <| .nil <| .ret ?_
                  show PostK _ _ _ _ _ _
                  refine post2 rfl rfl rfl ?_
                  have hs_32 := hs_31.newNilL 3 (encN .i64)
                  have hs_33 : Sat w [_] w_16 := hs_32.sub ((.cons _ (.cons _ (.cons _ (.cons_cons _ .slnil)))))
                  refine ⟨_, [], _, rfl, hs_33, fun l0 h0 => False.elim ?_⟩
                  obtain ⟨t1, t2, t3, t4, t5, t6, _⟩ := ex_step (hX l0 h0)
                  have t7 := Nat.div_le_self 2147483647 (2 ^ a1)
                  have h9 := hc_9
                  rw [hD] at h9
                  omega
                · refine .skip <| .seq ?_
                  have hok37 := hc_9
                  have hgap : (uvR l3).1 ≤ 128 ∧ at1 + (uvR l3).1 ≠ 0 ∧ at1 + (uvR l3).1 ≤ a0 ∧ (uvR d3).1 ≤ 2147483648 ∧ (uvR d3).2.2 = 0 := by omega
                  refine .region <| .m rfl rfl <| .m rfl rfl <| .e rfl (.convK (by rw [Tryz.underlying56]; rfl) Tryz.underlying3 rfl (wrap_i (by (try simp only [IntKind.bits]); omega))) <| .e rfl (.add rfl rfl (by unfold inI64; omega)) <| .s rfl rfl <| .nil <| .seq <| .weaken [(0, _), (4, _), (5, _), (10, _), (11, _), (14, _), (18, (.int .i64 ((at1 + (uvR l3).1 - 1) : Nat))), (19, _), (20, _), (21, _), (22, _), (23, _), (24, _), (114, _), (124, _), (157, _), (158, _), (159, _), (160, _), (161, _)] ⟨rfl, rfl, rfl, rfl, rfl, rfl, congrArg some (congrArg (Value.int .i64) (by omega)), rfl, rfl, rfl, rfl, rfl, rfl, rfl, rfl, rfl, rfl, rfl, rfl, rfl, trivial⟩ ?_
                  obtain ⟨y, hy⟩ : ∃ y, vs[at1 + (uvR l3).1 - 1]? = some y := ⟨_, List.getElem?_eq_getElem (by omega)⟩
                  have hy63 := hv63 y (mem_of_get hy)
                  have hpw : 2 ^ a1 ≤ 2 ^ 31 := Nat.pow_le_pow_right (by decide) (by omega)
                  have hsh : (uvR d3).1 * 2 ^ a1 ≤ 2147483648 * 2 ^ 31 := Nat.mul_le_mul hgap.2.2.2.1 hpw
                  have hor63 := or_le63 hy63 hgap.2.2.2.1 (show a1 ≤ 31 by omega)
                  refine .region <| .m rfl rfl <| .m rfl rfl <| .e rfl (.idxL (E := encN .i64) sl27 rfl rfl (hs_31.rdL 2 rfl) (by omega)) <| .e rfl (.ldL (E := encN .i64) scal3 rfl (hs_31.rdL 2 rfl) hy (by decide) rfl) <| .m rfl rfl <| .e rfl (.convK (by rw [Tryz.underlying56]; rfl) Tryz.underlying3 rfl (wrap_i (by (try simp only [IntKind.bits]); omega))) <| .m rfl rfl <| .e rfl (.convK (by rw [Tryz.underlying3]; rfl) Tryz.underlying88 rfl (wrap_u rfl (by (try simp only [IntKind.bits]); omega))) <| .e rfl (.shlI rfl rfl (by omega) (by (try simp only [IntKind.bits]); omega)) <| .e rfl (.orI rfl rfl (by omega) (by omega)) <| .e rfl (.idxL (E := encN .i64) sl27 rfl rfl (hs_31.rdL 2 rfl) (by omega)) <| .f rfl (.setL (a := (y ||| ((uvR d3).1 * 2 ^ a1))) 2 one3 hs_31 rfl rfl rfl rfl (by (try simp only [List.length_set]); omega) fun w_17 hs_34 hch_6 => ?_)
                  refine .nil <| .region <| .m rfl rfl <| .m rfl rfl <| .m rfl rfl <| .e rfl (.addI rfl rfl (by (try simp only [IntKind.bits]); omega)) <| .e rfl (.sliceL (E := encN .u8) (a := ((uvR l3).2.1 + (uvR d3).2.1)) (c := (l3).length) sl22 rfl (hb3.ext hs_34.ext) ⟨_, rfl⟩ rfl (by omega) (Nat.le_refl _)) <| .s rfl rfl <| .nil <| .region <| .m rfl rfl <| .e rfl (.addN (b := 1) rfl rfl rfl) <| .s rfl rfl <| .nil ?_
                  exact ⟨(kk + 1, at1 + (uvR l3).1, (subSl (encN .u8).s bv3 ((uvR l3).2.1 + (uvR d3).2.1) ((l3).length)), ((l3).take ((l3).length)).drop ((uvR l3).2.1 + (uvR d3).2.1), vs.set (at1 + (uvR l3).1 - 1) (y ||| ((uvR d3).1 * 2 ^ a1))), ⟨rfl, rfl, rfl, rfl, rfl, rfl, congrArg some (congrArg (Value.int .i64) (by omega)), congrArg some (congrArg (fun q : Nat => Value.int .u64 (q : Int)) (show (kk + 1) % 2 ^ 64 = kk + 1 from Nat.mod_eq_of_lt (by omega))), trivial⟩, ⟨hs_34, by omega, hb3.sub (a := (uvR l3).2.1 + (uvR d3).2.1) (by omega) (Nat.le_refl _), fun y hy => hb3b y (List.mem_of_mem_take (List.mem_of_mem_drop hy)), by rw [List.length_drop, List.length_take]; omega, by rw [List.length_set]; exact hvl, fun z hz => (List.mem_or_eq_of_mem_set hz).elim (hv63 z) (fun e => by rw [e]; exact hor63), by omega, fun l0 h0 => by obtain ⟨_, _, _, _, _, _, h8⟩ := ex_step (hX l0 h0); rw [getD_some hy] at h8; rw [hD, List.take_length, ← List.drop_drop]; exact h8⟩, (show (a2 - (kk + 1)) < (a2 - kk) from by omega)⟩
          · refine .exit0 <| .seq <| .seq ?_
            have hfin : ∀ l0, PkOf b l0 → vs = l0 := fun l0 h0 => by have h9 := hE l0 h0; rw [show a2 - kk = 0 by omega, exL] at h9; exact Option.some.inj h9
            rcases Classical.em (∀ x ∈ vs, x ≤ 2147483647) with hvg | hvg
            · refine .draw (fun w' => Sat w [cObj b_1 89 ((encN .u64).all ([a0, a1, a2])), cL r_2 4 (encB) (bitsN l2 (a0 * a1)), cL v_1 3 (encN .i64) (vs)] w') (.free 0 (.one 1 (.free 2 (.free 3 (.free 4 (.free 7 (.free 8 (.one 5 (.one 6 (.free 9 (.free 10 .fin))))))))))) mixed (by kernel_rfl) ?_
              have hs_35 := hs_26.drew
              refine .m rfl rfl hs_35 <| .f rfl (.call ent50 rfl ((rbcheck_ok _ (vs) _ (hs_35.rdL 2 rfl) (by omega) hvg).mono fun r_5 w_18 h_5 => ?_))
              obtain ⟨rfl, hp_5⟩ := h_5
              have hs_36 := hs_35.adds hp_5
              have hS_3 : Sat w [_, _, _] _ := hs_36.sub ((.cons_cons _ (.cons_cons _ (.cons_cons _ .slnil))))
              refine ⟨hS_3, ?_⟩
              refine .e rfl (fun w' hS' => .neqN (a := 0) (b := 0) rfl rfl) hS_3 <| .m rfl rfl hS_3 <| .evYes rfl rfl rfl rfl (rfl) rfl (fun w' hS' => .move rfl) hS_3 <| .evYes rfl rfl rfl rfl (rfl) rfl (fun w' hS' => .move rfl) hS_3 <| .evYes rfl rfl rfl rfl (rfl) rfl (fun w' hS' => .bytesStr Tryz.underlying22 Tryz.underlying9 Tryz.underlying5 rfl (hv.ext hS'.ext)) hS_3 <| .effYes rfl rfl rfl rfl (rfl) rfl (OpE.call ent51 rfl ((rbpack_ok _ (vs) _ (hs_36.rdL 2 rfl) (by omega) (hvg)).mono fun r_6 w_19 h_6 => ?_))
              have hp_6 := h_6
              have hs_37 := hs_36.adds hp_6
              have hS_4 : Sat w [_, _, _] _ := hs_37.sub ((.cons_cons _ (.cons_cons _ (.cons_cons _ (.cons _ .slnil)))))
              refine ⟨hS_4, ?_⟩
              refine .effYes rfl rfl rfl rfl (rfl) rfl (OpE.ev (Ev.bytesStr Tryz.underlying22 Tryz.underlying9 Tryz.underlying5 rfl (hs_37.rdL 3 rfl)) ⟨hS_4, ?_⟩)
              refine .evYes rfl rfl rfl rfl (rfl) rfl (fun w' hS' => .strNeq rfl rfl) hS_4 <| .e rfl (fun w' hS' => .pickN rfl (rfl) rfl) hS_4 <| .fin <| .condD rfl (fun hc_10 => ?_) (fun hc_10 => ?_)
              · refine .seq <| .region <| .s rfl rfl <| .s rfl rfl <| .nil <| .ret ?_
                show PostK _ _ _ _ _ _
                refine post2 rfl rfl rfl ?_
                have hs_38 := hs_37.newNilL 3 (encN .i64)
                have hs_39 : Sat w [_] w_19 := hs_38.sub ((.cons _ (.cons _ (.cons _ (.cons _ (.cons_cons _ .slnil))))))
                refine ⟨_, [], _, rfl, hs_39, fun l0 h0 => False.elim ?_⟩
                exact hc_10 (by rw [hfin l0 h0, h0.2.2])
              · refine .skip <| .seq <| .region <| .m rfl rfl <| .s rfl rfl <| .s rfl rfl <| .nil <| .ret ?_
                show PostK _ _ _ _ _ _
                refine post2 rfl rfl rfl ?_
                have hs_40 : Sat w [_] w_19 := hs_37.sub ((.cons _ (.cons _ (.cons_cons _ (.cons _ .slnil)))))
                exact ⟨_, vs, _, rfl, hs_40, fun l0 h0 => ⟨rfl, hfin l0 h0⟩⟩
            · refine .draw (fun w' => Sat w [cObj b_1 89 ((encN .u64).all ([a0, a1, a2])), cL r_2 4 (encB) (bitsN l2 (a0 * a1)), cL v_1 3 (encN .i64) (vs)] w') (.free 0 (.one 1 (.free 2 (.free 3 (.free 4 (.free 7 (.free 8 (.one 5 (.one 6 (.free 9 (.free 10 .fin))))))))))) mixed (by kernel_rfl) ?_
              have hs_41 := hs_26.drew
              refine .m rfl rfl hs_41 <| .f rfl (.call ent50 rfl ((rbcheck_bad _ (vs) _ (hs_41.rdL 2 rfl) (by omega) hv63 hvg).mono fun r_7 w_20 h_7 => ?_))
              obtain ⟨rfl, hp_7⟩ := h_7
              have hs_42 := hs_41.adds hp_7
              have hS_5 : Sat w [_, _, _] _ := hs_42.sub ((.cons_cons _ (.cons_cons _ (.cons_cons _ .slnil))))
              refine ⟨hS_5, ?_⟩
              refine .e rfl (fun w' hS' => .neqN (a := 8) (b := 0) rfl rfl) hS_5 <| .m rfl rfl hS_5 <| .no rfl rfl rfl rfl (rfl) rfl hS_5 <| .no rfl rfl rfl rfl (rfl) rfl hS_5 <| .no rfl rfl rfl rfl (rfl) rfl hS_5 <| .effNo rfl rfl rfl rfl (rfl) rfl hS_5 <| .effNo rfl rfl rfl rfl (rfl) rfl hS_5 <| .no rfl rfl rfl rfl (rfl) rfl hS_5 <| .e rfl (fun w' hS' => .pickY rfl (rfl) rfl) hS_5 <| .fin <| .condT rfl (rfl) <| .seq <| .region <| .s rfl rfl <| .s rfl rfl <| .nil <| .ret ?_
              show PostK _ _ _ _ _ _
              refine post2 rfl rfl rfl ?_
              have hs_43 := hs_42.newNilL 3 (encN .i64)
              have hs_44 : Sat w [_] w_20 := hs_43.sub ((.cons _ (.cons _ (.cons _ (.cons_cons _ .slnil)))))
              refine ⟨_, [], _, rfl, hs_44, fun l0 h0 => False.elim ?_⟩
              exact hvg (by rw [hfin l0 h0]; exact h0.2.1)
end Go.Proofs.YtecfgjdpghddgaaGreat
