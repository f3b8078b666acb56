/- The walks of the functions of F42v, printed by our own program (kwgen.py) out of our descriptions (base.py). -/
import Derived.Test.YtecfgjdpghddgaaGreatDoorF42n
import Derived.Test.YtecfgjdpghddgaaGreatDoorKp
import Derived.Test.YtecfgjdpghddgaaGreatDoorM02
import Derived.Test.YtecfgjdpghddgaaGreatDoorTab
set_option linter.unusedVariables false
set_option linter.unusedSimpArgs false
set_option linter.unusedSectionVars false
namespace Go.Proofs.YtecfgjdpghddgaaGreatDoor
open Go.RowKit Go.Kw
set_option maxRecDepth 100000
theorem validDeleted_n (v : Value) (l : List ByteArray) (w : World) (hv : RdL w v encTx l) (hn : l.length ≤ 9223372036854775807) :
    CallsV Tryz.prog 51 [v] w fun r w' => r = .bool (delB l) ∧ Sat w [] w' := by
  have hs0 := Sat.start w
  refine callsV_of Tryz.func51 rfl rfl ?_
  refine .seq <| .region <| .s rfl rfl <| .nil <| .seq <| .seq <| .region <| .m rfl rfl <| .e rfl (.lenL Tryz.underlying61 rfl (hv.ext hs0.ext)) <| .m rfl rfl <| .nil <| .block <| .loop (α := Nat) (fun k => [(0, v), (5, v), (6, (.int .i64 l.length)), (7, (.int .i64 k))]) (fun k w' => Sat w [] w' ∧ (k ≤ l.length) ∧ (∀ i, i < k → ∀ x, l[i]? = some x → nameB x = true ∧ (0 < i → ∀ y, l[i - 1]? = some y → SLt y x))) (fun k => l.length - k) 0 ⟨rfl, rfl, rfl, rfl, trivial⟩ ⟨hs0, Nat.zero_le _, fun i hi => absurd hi (Nat.not_lt_zero i)⟩ ?_
  rintro k w_1 ⟨hs_1, hk, hall⟩
  show CW _ _ _ _ [(0, v), (5, v), (6, (.int .i64 l.length)), (7, (.int .i64 k))] _
  refine .seq <| .region <| .e rfl (.lssN rfl rfl) <| .nil <| .seq <| .condD rfl (fun hc_1 => ?_) (fun hc_1 => ?_)
  · refine .skip <| .seq <| .block <| .seq ?_
    obtain ⟨x, hx⟩ : ∃ x, (l)[k]? = some x := ⟨_, List.getElem?_eq_getElem hc_1⟩
    refine .region <| .m rfl rfl <| .e rfl (.idxL (E := encTx) sl61 rfl rfl (hv.ext hs_1.ext) (by omega)) <| .e rfl (.ldL (E := encTx) scal9 rfl (hv.ext hs_1.ext) hx (by decide) rfl) <| .s rfl rfl <| .s rfl rfl <| .nil <| .seq ?_
    obtain ⟨y, hy⟩ : ∃ y : ByteArray, 0 < k → l[k - 1]? = some y := by rcases Nat.eq_zero_or_pos k with h | h; exact ⟨ByteArray.empty, fun h9 => absurd h9 (by omega)⟩; exact ⟨_, fun _ => List.getElem?_eq_getElem (show k - 1 < l.length by omega)⟩
    refine .mid (fun L' w' => Weak [(0, v), (3, (.int .i64 k)), (4, (.string x)), (5, v), (6, (.int .i64 l.length)), (7, (.int .i64 k)), (8, (.bool (decide (k < l.length)))), (27, (.bool (decide (((!(nameB x)) = true) ∨ ((0 < k) ∧ (¬ SLt y x))))))] L' ∧ Sat w [] w') ?_ ?_
    · refine .region <| .m rfl rfl <| .f rfl (.call ent89 rfl ((validName_n x _).mono fun r_1 w_2 h_1 => ?_))
      obtain ⟨rfl, hp_1⟩ := h_1
      have hs_2 := hs_1.adds hp_1
      refine .e rfl (.notB rfl) <| .m rfl rfl ?_
      by_cases hg_1 : (!(nameB x)) = true
      · refine .no rfl rfl rfl (hg_1) rfl <| .no rfl rfl rfl (hg_1) rfl <| .no rfl rfl rfl (hg_1) rfl <| .noU rfl rfl rfl rfl <| .noU rfl rfl rfl rfl <| .noU rfl rfl rfl rfl <| .noU rfl rfl rfl rfl <| .noU rfl rfl rfl rfl <| .noU rfl rfl rfl rfl <| .noU rfl rfl rfl rfl <| .no rfl rfl rfl (hg_1) rfl <| .e rfl (.pickY rfl (hg_1) rfl) <| .nil ?_
        exact ⟨⟨rfl, rfl, rfl, rfl, rfl, rfl, rfl, congrArg some (congrArg Value.bool (by simp [hg_1])), trivial⟩, hs_2⟩
      · refine .yes rfl rfl rfl (by simpa using hg_1) <| .m rfl rfl <| .yes rfl rfl rfl (by simpa using hg_1) <| .e rfl (.gtrN (b := 0) rfl rfl) <| .yes rfl rfl rfl (by simpa using hg_1) <| .m rfl rfl ?_
        by_cases hg_2 : 0 < k
        · refine .yes rfl rfl rfl (decide_eq_true hg_2) <| .m rfl rfl <| .yes rfl rfl rfl (decide_eq_true hg_2) <| .m rfl rfl <| .yes rfl rfl rfl (decide_eq_true hg_2) <| .e rfl (.subI (b := 1) rfl rfl (by omega) (by omega)) <| .yes rfl rfl rfl (decide_eq_true hg_2) <| .e rfl (.idxL (E := encTx) sl61 rfl rfl (hv.ext hs_2.ext) (by omega)) <| .yes rfl rfl rfl (decide_eq_true hg_2) <| .e rfl (.ldL (E := encTx) scal9 rfl (hv.ext hs_2.ext) (hy (by omega)) (by decide) rfl) <| .yes rfl rfl rfl (decide_eq_true hg_2) <| .m rfl rfl <| .yes rfl rfl rfl (decide_eq_true hg_2) <| .e rfl (.strGeq rfl rfl) <| .yes rfl rfl rfl (by simpa using hg_1) <| .e rfl (.pickY rfl (decide_eq_true hg_2) rfl) <| .e rfl (.pickN rfl (by simpa using hg_1) rfl) <| .nil ?_
          exact ⟨⟨rfl, rfl, rfl, rfl, rfl, rfl, rfl, congrArg some (congrArg Value.bool (by simp [hg_1, hg_2])), trivial⟩, hs_2⟩
        · refine .no rfl rfl rfl (decide_eq_false hg_2) rfl <| .no rfl rfl rfl (decide_eq_false hg_2) rfl <| .no rfl rfl rfl (decide_eq_false hg_2) rfl <| .no rfl rfl rfl (decide_eq_false hg_2) rfl <| .no rfl rfl rfl (decide_eq_false hg_2) rfl <| .no rfl rfl rfl (decide_eq_false hg_2) rfl <| .no rfl rfl rfl (decide_eq_false hg_2) rfl <| .yes rfl rfl rfl (by simpa using hg_1) <| .e rfl (.pickN rfl (decide_eq_false hg_2) rfl) <| .e rfl (.pickN rfl (by simpa using hg_1) rfl) <| .nil ?_
          exact ⟨⟨rfl, rfl, rfl, rfl, rfl, rfl, rfl, congrArg some (congrArg Value.bool (by simp [hg_1, hg_2])), trivial⟩, hs_2⟩
    · rintro L' w_3 ⟨hw_1, hs_3⟩
      refine .weaken _ hw_1 <| .condD rfl (fun hc_2 => ?_) (fun hc_2 => ?_)
      · refine .seq <| .region <| .s rfl rfl <| .nil <| .ret ?_
        show PostK _ _ _ _ _ _
        refine post1 rfl rfl ?_
        have hno : delB l = false := delB_no.2 fun h9 => by
          obtain ⟨h1, h2⟩ := h9.1 k x hx
          rcases hc_2 with h3 | h3
          · rw [h1] at h3; cases h3
          · exact h3.2 (h2 (by omega) y (hy (by omega)))
        exact ⟨by rw [hno], hs_3⟩
      · refine .skip <| .region <| .e rfl (.addI (b := 1) rfl rfl (by omega)) <| .m rfl rfl <| .nil ?_
        exact ⟨k + 1, ⟨rfl, rfl, rfl, rfl, trivial⟩, ⟨hs_3, by omega, fun i hi z hz => by
      rcases Nat.lt_or_ge i k with h | h
      · exact hall i h z hz
      · have e : i = k := by omega
        subst e
        rw [hx] at hz; cases hz
        refine ⟨by cases h8 : nameB x <;> simp_all, fun h0 q hq => ?_⟩
        rw [hy h0] at hq; cases hq
        exact Classical.byContradiction fun h7 => hc_2 (.inr ⟨by omega, h7⟩)⟩, (show (l.length - (k + 1)) < (l.length - k) from by omega)⟩
  · refine .exit0 <| .seq <| .region <| .m rfl rfl <| .e rfl (.lenL Tryz.underlying61 rfl (hv.ext hs_1.ext)) <| .e rfl (.leqN (b := 64) rfl rfl) <| .s rfl rfl <| .nil <| .ret ?_
    show PostK _ _ _ _ _ _
    refine post1 rfl rfl ?_
    exact ⟨congrArg Value.bool (by unfold delB; exact decide_eq_decide.2 ⟨fun h9 => ⟨all_lt_len hall (by omega), h9⟩, fun h9 => h9.2⟩), hs_1⟩
theorem vattr1_n (B : Nat) (x y : ByteArray × Bool) (w : World) (h1 : w.cell? ⟨B, 0, none⟩ = some (.string y.1)) :
    CallsV Tryz.prog 91 [((encAt).ag x), (.pointer (some ⟨B, 0, none⟩))] w fun r w' => r = .bool (decide (x.1 = y.1)) ∧ Sat w [] w' := by
  have hs0 := Sat.start w
  refine callsV_of Tryz.func91 rfl rfl ?_
  refine .seq <| .region <| .f rfl (.box hs0 rfl fun b_1 w_1 hs_1 hch_1 hb_1 => ?_)
  refine .s rfl rfl <| .nil <| .seq <| .region <| .e rfl (.fieldAddr fld70_0 rfl rfl) <| .e rfl (.load scal9 rfl (hs_1.cell (i := 0) (j := 0) rfl rfl)) <| .e rfl (.fieldAddr fld70_0 rfl rfl) <| .e rfl (.load scal9 rfl (hs_1.ext _ _ h1)) <| .e rfl (.strEql rfl rfl) <| .s rfl rfl <| .nil <| .ret ?_
  show PostK _ _ _ _ _ _
  refine post1 rfl rfl ?_
  have hs_2 : Sat w [] w_1 := hs_1.sub ((.cons _ .slnil))
  exact ⟨rfl, hs_2⟩
theorem indexFunc_n (v : Value) (l : List (ByteArray × Bool)) (f : FuncId) (cap : Array Value) (p : ByteArray × Bool → Bool) (w : World) (hv : RdL w v encAt l) (hn : l.length ≤ 1000000000) (ent : Enters Tryz.prog f) (hf : ∀ x w', Sat w [] w' → CallsV Tryz.prog f ([encAt.ag x] ++ cap.toList) w' fun r w'' => r = .bool (p x) ∧ Sat w' [] w'') :
    CallsV Tryz.prog 126 [v, (.func (.func f) #[] cap)] w fun r w' => ∃ z : Int, r = .int .i64 z ∧ (0 ≤ z ↔ l.any p = true) ∧ Sat w [] w' := by
  have hs0 := Sat.start w
  refine callsV_of Tryz.func126 rfl rfl ?_
  refine .seq <| .region <| .s rfl rfl <| .nil <| .seq <| .seq <| .region <| .m rfl rfl <| .e rfl (.lenL Tryz.underlying23 rfl (hv.ext hs0.ext)) <| .m rfl rfl <| .nil <| .block <| .loop (α := Nat) (fun k => [(0, v), (1, (.func (.func f) #[] cap)), (7, (.int .i64 l.length)), (8, (.int .i64 k))]) (fun k w' => Sat w [] w' ∧ (k ≤ l.length) ∧ (∀ i, i < k → ∀ x, l[i]? = some x → p x = false)) (fun k => l.length - k) 0 ⟨rfl, rfl, rfl, rfl, trivial⟩ ⟨hs0, Nat.zero_le _, fun i hi => absurd hi (Nat.not_lt_zero i)⟩ ?_
  rintro k w_1 ⟨hs_1, hk, hall⟩
  show CW _ _ _ _ [(0, v), (1, (.func (.func f) #[] cap)), (7, (.int .i64 l.length)), (8, (.int .i64 k))] _
  refine .seq <| .region <| .e rfl (.lssN rfl rfl) <| .nil <| .seq <| .condD rfl (fun hc_1 => ?_) (fun hc_1 => ?_)
  · refine .skip <| .seq <| .block <| .seq <| .region <| .m rfl rfl <| .s rfl rfl <| .nil <| .seq ?_
    obtain ⟨x, hx⟩ : ∃ x, (l)[k]? = some x := ⟨_, List.getElem?_eq_getElem hc_1⟩
    refine .region <| .m rfl rfl <| .m rfl rfl <| .m rfl rfl <| .e rfl (.idxL (E := encAt) sl23 rfl rfl (hv.ext hs_1.ext) (by omega)) <| .e rfl (.ldAgg (E := encAt) agg70 rfl (hv.ext hs_1.ext) hx (by decide)) <| .f rfl (.callv ent rfl rfl ((hf x _ hs_1).mono fun r_1 w_2 h_1 => ?_))
    obtain ⟨rfl, hp_1⟩ := h_1
    have hs_2 := hs_1.adds hp_1
    refine .nil <| .cond rfl (fun hc_2 => ?_) (fun hc_2 => ?_)
    · refine .seq <| .region <| .m rfl rfl <| .s rfl rfl <| .nil <| .ret ?_
      show PostK _ _ _ _ _ _
      refine post1 rfl rfl ?_
      exact ⟨_, rfl, ⟨fun _ => List.any_eq_true.2 ⟨x, mem_of_get hx, hc_2⟩, fun _ => by omega⟩, hs_2⟩
    · refine .skip <| .region <| .e rfl (.addI (b := 1) rfl rfl (by omega)) <| .m rfl rfl <| .nil ?_
      exact ⟨k + 1, ⟨rfl, rfl, rfl, rfl, trivial⟩, ⟨hs_2, by omega, fun i hi z hz => by
      rcases Nat.lt_or_ge i k with h | h
      · exact hall i h z hz
      · have e : i = k := by omega
        subst e
        rw [hx] at hz; cases hz; exact hc_2⟩, (show (l.length - (k + 1)) < (l.length - k) from by omega)⟩
  · refine .exit0 <| .seq <| .region <| .s rfl rfl <| .nil <| .ret ?_
    show PostK _ _ _ _ _ _
    refine post1 rfl rfl ?_
    exact ⟨_, rfl, ⟨fun h9 => absurd h9 (by decide), fun h9 => by
      obtain ⟨x, hx, hp⟩ := List.any_eq_true.1 h9
      obtain ⟨i, hi⟩ := List.getElem?_of_mem hx
      rw [hall i (by have := (List.getElem?_eq_some_iff.1 hi).1; omega) x hi] at hp; cases hp⟩, hs_1⟩
theorem containsFunc_n (v : Value) (l : List (ByteArray × Bool)) (f : FuncId) (cap : Array Value) (p : ByteArray × Bool → Bool) (w : World) (hv : RdL w v encAt l) (hn : l.length ≤ 1000000000) (ent : Enters Tryz.prog f) (hf : ∀ x w', Sat w [] w' → CallsV Tryz.prog f ([encAt.ag x] ++ cap.toList) w' fun r w'' => r = .bool (p x) ∧ Sat w' [] w'') :
    CallsV Tryz.prog 90 [v, (.func (.func f) #[] cap)] w fun r w' => r = .bool (l.any p) ∧ Sat w [] w' := by
  have hs0 := Sat.start w
  refine callsV_of Tryz.func90 rfl rfl ?_
  refine .seq <| .region <| .s rfl rfl <| .nil <| .seq <| .region <| .m rfl rfl <| .m rfl rfl <| .f rfl (.call ent126 rfl ((indexFunc_n _ (l) f cap p _ (hv.ext hs0.ext) hn ent (fun x w3 hq => hf x w3 (hs0.adds hq))).mono fun r_1 w_1 h_1 => ?_))
  obtain ⟨iz_1, rfl, hiz_1, hp_1⟩ := h_1
  have hs_1 := hs0.adds hp_1
  refine .e rfl (.geq rfl rfl) <| .s rfl rfl <| .nil <| .ret ?_
  show PostK _ _ _ _ _ _
  refine post1 rfl rfl ?_
  exact ⟨congrArg Value.bool (by rcases Bool.eq_false_or_eq_true (l.any p) with h | h; rw [h]; exact decide_eq_true (hiz_1.2 h); rw [h]; exact decide_eq_false (fun h9 => by rw [hiz_1.1 h9] at h; cases h)), hs_1⟩
theorem validAttrs_n (v : Value) (l : List (ByteArray × Bool)) (w : World) (hv : RdL w v encAt l) (hn : l.length ≤ 1000000) :
    CallsV Tryz.prog 49 [v] w fun r w' => r = .bool (atsB l) ∧ Sat w [] w' := by
  have hs0 := Sat.start w
  refine callsV_of Tryz.func49 rfl rfl ?_
  refine .seq <| .region <| .s rfl rfl <| .nil <| .seq <| .seq <| .region <| .m rfl rfl <| .e rfl (.lenL Tryz.underlying23 rfl (hv.ext hs0.ext)) <| .m rfl rfl <| .nil <| .block <| .loop (α := Nat) (fun k => [(0, v), (5, v), (6, (.int .i64 l.length)), (7, (.int .i64 k))]) (fun k w' => Sat w [] w' ∧ (k ≤ l.length) ∧ (∀ i, i < k → atOkAt l i)) (fun k => l.length - k) 0 ⟨rfl, rfl, rfl, rfl, trivial⟩ ⟨hs0, Nat.zero_le _, fun i hi => absurd hi (Nat.not_lt_zero i)⟩ ?_
  rintro k w_1 ⟨hs_1, hk, hall⟩
  show CW _ _ _ _ [(0, v), (5, v), (6, (.int .i64 l.length)), (7, (.int .i64 k))] _
  refine .seq <| .region <| .e rfl (.lssN rfl rfl) <| .nil <| .seq <| .condD rfl (fun hc_1 => ?_) (fun hc_1 => ?_)
  · refine .skip <| .seq <| .block <| .seq ?_
    obtain ⟨x, hx⟩ : ∃ x, (l)[k]? = some x := ⟨_, List.getElem?_eq_getElem hc_1⟩
    refine .region <| .m rfl rfl <| .e rfl (.idxL (E := encAt) sl23 rfl rfl (hv.ext hs_1.ext) (by omega)) <| .e rfl (.ldAgg (E := encAt) agg70 rfl (hv.ext hs_1.ext) hx (by decide)) <| .f rfl (.alloc hs_1 zero70 fun b_1 w_2 hs_2 hch_1 hb_1 => ?_)
    refine .s rfl rfl <| .f rfl (.storeObjA (vs := (encAt).enc x) agg70 hs_2 (i := 0) rfl rfl rfl rfl ((encAt).one _) fun w_3 hs_3 hch_2 => ?_)
    refine .nil <| .seq <| .mid (fun L' w' => Weak [(0, v), (3, (.int .i64 k)), (4, (.pointer (some ⟨b_1, 0, none⟩))), (5, v), (6, (.int .i64 l.length)), (7, (.int .i64 k)), (8, (.bool (decide (k < l.length)))), (22, (.bool (decide (((!(nameB x.1)) = true) ∨ (((((l).take k).drop 0).any fun z => decide (z.1 = x.1)) = true)))))] L' ∧ Sat w [cObj b_1 70 [(.string x.1), (.bool x.2)]] w') ?_ ?_
    · refine .region <| .e rfl (.fieldAddr fld70_0 rfl rfl) <| .e rfl (.load scal9 rfl (hs_3.cell (i := 0) (j := 0) rfl rfl)) <| .f rfl (.call ent89 rfl ((validName_n x.1 _).mono fun r_1 w_4 h_1 => ?_))
      obtain ⟨rfl, hp_1⟩ := h_1
      have hs_4 : Sat w [_] _ := hs_3.adds hp_1
      refine .e rfl (.notB rfl) <| .m rfl rfl ?_
      by_cases hg_1 : (!(nameB x.1)) = true
      · refine .no rfl rfl rfl (hg_1) rfl <| .no rfl rfl rfl (hg_1) rfl <| .no rfl rfl rfl (hg_1) rfl <| .no rfl rfl rfl (hg_1) rfl <| .no rfl rfl rfl (hg_1) rfl <| .e rfl (.pickY rfl (hg_1) rfl) <| .nil ?_
        exact ⟨⟨rfl, rfl, rfl, rfl, rfl, rfl, rfl, congrArg some (congrArg Value.bool (by simp [hg_1])), trivial⟩, hs_4⟩
      · refine .yes rfl rfl rfl (by simpa using hg_1) <| .m rfl rfl <| .yes rfl rfl rfl (by simpa using hg_1) <| .m rfl rfl <| .yes rfl rfl rfl (by simpa using hg_1) <| .e rfl (.sliceL (E := encAt) (a := 0) (c := k) sl23 rfl (hv.ext hs_4.ext) rfl ⟨_, rfl⟩ (Nat.zero_le _) (by omega)) <| .yes rfl rfl rfl (by simpa using hg_1) <| .e rfl (.makeFunc1 rfl) <| .yes rfl rfl rfl (by simpa using hg_1) <| .f rfl (.call ent90 rfl ((containsFunc_n _ (((l).take k).drop 0) 91 #[(.pointer (some ⟨b_1, 0, none⟩))] (fun z => decide (z.1 = x.1)) _ (((hv.ext hs_4.ext)).sub (a := 0) (b := k) (Nat.zero_le _) (by omega)) (by rw [List.length_drop, List.length_take]; omega) ent91 (fun z w3 hq => vattr1_n b_1 z x w3 (hq.ext _ _ (hs_4.cell (i := 0) (j := 0) rfl rfl)))).mono fun r_2 w_5 h_2 => ?_))
        obtain ⟨rfl, hp_2⟩ := h_2
        have hs_5 := hs_4.adds hp_2
        refine .e rfl (.pickN rfl (by simpa using hg_1) rfl) <| .nil ?_
        exact ⟨⟨rfl, rfl, rfl, rfl, rfl, rfl, rfl, congrArg some (congrArg Value.bool (by simp [hg_1])), trivial⟩, hs_5⟩
    · rintro L' w_6 ⟨hw_1, hs_6⟩
      refine .weaken _ hw_1 <| .condD rfl (fun hc_2 => ?_) (fun hc_2 => ?_)
      · refine .seq <| .region <| .s rfl rfl <| .nil <| .ret ?_
        show PostK _ _ _ _ _ _
        refine post1 rfl rfl ?_
        have hs_7 : Sat w [] w_6 := hs_6.sub ((.cons _ .slnil))
        have hno : atsB l = false := atsB_no.2 fun h9 => by
          obtain ⟨h1, h2⟩ := h9.1 k x hx
          rcases hc_2 with h3 | h3
          · rw [h1] at h3; cases h3
          · rw [List.drop_zero, h2] at h3; cases h3
        exact ⟨by rw [hno], hs_7⟩
      · refine .skip <| .region <| .e rfl (.addI (b := 1) rfl rfl (by omega)) <| .m rfl rfl <| .nil ?_
        have hs_8 : Sat w [] w_6 := hs_6.sub ((.cons _ .slnil))
        exact ⟨k + 1, ⟨rfl, rfl, rfl, rfl, trivial⟩, ⟨hs_8, by omega, fun i hi z hz => by
      rcases Nat.lt_or_ge i k with h | h
      · exact hall i h z hz
      · have e : i = k := by omega
        subst e
        rw [hx] at hz; cases hz
        have h7 := hc_2
        rw [List.drop_zero] at h7
        exact ⟨by cases h8 : nameB x.1 <;> simp_all, Bool.eq_false_iff.2 fun h8 => h7 (.inr h8)⟩⟩, (show (l.length - (k + 1)) < (l.length - k) from by omega)⟩
  · refine .exit0 <| .seq <| .mid (fun L' w' => Weak [(0, v), (2, (.bool (decide ((1 ≤ l.length) ∧ (l.length ≤ 8))))), (5, v), (6, (.int .i64 l.length)), (7, (.int .i64 k)), (8, (.bool (decide (k < l.length))))] L' ∧ Sat w [] w') ?_ ?_
    · refine .region <| .m rfl rfl <| .e rfl (.lenL Tryz.underlying23 rfl (hv.ext hs_1.ext)) <| .e rfl (.geqN (b := 1) rfl rfl) <| .m rfl rfl ?_
      by_cases hg_2 : 1 ≤ l.length
      · refine .yes rfl rfl rfl (decide_eq_true hg_2) <| .m rfl rfl <| .yes rfl rfl rfl (decide_eq_true hg_2) <| .e rfl (.lenL Tryz.underlying23 rfl (hv.ext hs_1.ext)) <| .yes rfl rfl rfl (decide_eq_true hg_2) <| .e rfl (.leqN (b := 8) rfl rfl) <| .e rfl (.pickY rfl (decide_eq_true hg_2) rfl) <| .s rfl rfl <| .nil ?_
        exact ⟨⟨rfl, congrArg some (congrArg Value.bool (by simp [hg_2])), rfl, rfl, rfl, rfl, trivial⟩, hs_1⟩
      · refine .no rfl rfl rfl (decide_eq_false hg_2) rfl <| .no rfl rfl rfl (decide_eq_false hg_2) rfl <| .no rfl rfl rfl (decide_eq_false hg_2) rfl <| .e rfl (.pickN rfl (decide_eq_false hg_2) rfl) <| .s rfl rfl <| .nil ?_
        exact ⟨⟨rfl, congrArg some (congrArg Value.bool (by simp [hg_2])), rfl, rfl, rfl, rfl, trivial⟩, hs_1⟩
    · rintro L' w_7 ⟨hw_2, hs_9⟩
      refine .weaken _ hw_2 <| .ret ?_
      show PostK _ _ _ _ _ _
      refine post1 rfl rfl ?_
      have hs_10 : Sat w [] w_7 := hs_9.sub (.slnil)
      exact ⟨congrArg Value.bool (by unfold atsB; exact decide_eq_decide.2 ⟨fun h9 => ⟨fun i z hz => hall i (by have := (List.getElem?_eq_some_iff.1 hz).1; omega) z hz, h9⟩, fun h9 => h9.2⟩), hs_10⟩
theorem index_n (v : Value) (l : List Int) (x : Int) (w : World) (hv : RdL w v (Kw.encI .i64) l) (hn : l.length ≤ 1000000) :
    CallsV Tryz.prog 92 [v, (.int .i64 (x))] w fun r w' => ∃ z : Int, r = .int .i64 z ∧ (0 ≤ z ↔ x ∈ l) ∧ Sat w [] w' := by
  have hs0 := Sat.start w
  refine callsV_of Tryz.func92 rfl rfl ?_
  refine .seq <| .region <| .s rfl rfl <| .nil <| .seq <| .seq <| .region <| .m rfl rfl <| .e rfl (.lenL Tryz.underlying22 rfl (hv.ext hs0.ext)) <| .m rfl rfl <| .nil <| .block <| .loop (α := Nat) (fun k => [(0, v), (1, (.int .i64 (x))), (7, (.int .i64 l.length)), (8, (.int .i64 k))]) (fun k w' => Sat w [] w' ∧ (k ≤ l.length) ∧ (∀ i, i < k → ∀ z, l[i]? = some z → x ≠ z)) (fun k => l.length - k) 0 ⟨rfl, rfl, rfl, rfl, trivial⟩ ⟨hs0, Nat.zero_le _, fun i hi => absurd hi (Nat.not_lt_zero i)⟩ ?_
  rintro k w_1 ⟨hs_1, hk, hall⟩
  show CW _ _ _ _ [(0, v), (1, (.int .i64 (x))), (7, (.int .i64 l.length)), (8, (.int .i64 k))] _
  refine .seq <| .region <| .e rfl (.lssN rfl rfl) <| .nil <| .seq <| .condD rfl (fun hc_1 => ?_) (fun hc_1 => ?_)
  · refine .skip <| .seq <| .block <| .seq <| .region <| .m rfl rfl <| .s rfl rfl <| .nil <| .seq ?_
    obtain ⟨y, hy⟩ : ∃ y, (l)[k]? = some y := ⟨_, List.getElem?_eq_getElem hc_1⟩
    refine .region <| .m rfl rfl <| .m rfl rfl <| .m rfl rfl <| .e rfl (.idxL (E := Kw.encI .i64) sl22 rfl rfl (hv.ext hs_1.ext) (by omega)) <| .e rfl (.ldL (E := Kw.encI .i64) scal3 rfl (hv.ext hs_1.ext) hy (by decide) rfl) <| .e rfl (.eql rfl rfl) <| .nil <| .condD rfl (fun hc_2 => ?_) (fun hc_2 => ?_)
    · refine .seq <| .region <| .m rfl rfl <| .s rfl rfl <| .nil <| .ret ?_
      show PostK _ _ _ _ _ _
      refine post1 rfl rfl ?_
      exact ⟨_, rfl, ⟨fun _ => by rw [hc_2]; exact List.mem_of_getElem? hy, fun _ => by omega⟩, hs_1⟩
    · refine .skip <| .region <| .e rfl (.addI (b := 1) rfl rfl (by omega)) <| .m rfl rfl <| .nil ?_
      exact ⟨k + 1, ⟨rfl, rfl, rfl, rfl, trivial⟩, ⟨hs_1, by omega, fun i hi z hz => by
      rcases Nat.lt_or_ge i k with h | h
      · exact hall i h z hz
      · have e : i = k := by omega
        subst e
        rw [hy] at hz; cases hz; exact hc_2⟩, (show (l.length - (k + 1)) < (l.length - k) from by omega)⟩
  · refine .exit0 <| .seq <| .region <| .s rfl rfl <| .nil <| .ret ?_
    show PostK _ _ _ _ _ _
    refine post1 rfl rfl ?_
    exact ⟨_, rfl, ⟨fun h9 => absurd h9 (by decide), fun h9 => by
      obtain ⟨i, hi⟩ := List.getElem?_of_mem h9
      exact absurd rfl (hall i (by have := (List.getElem?_eq_some_iff.1 hi).1; omega) x hi)⟩, hs_1⟩
theorem contains_n (v : Value) (l : List Int) (x : Int) (w : World) (hv : RdL w v (Kw.encI .i64) l) (hn : l.length ≤ 1000000) :
    CallsV Tryz.prog 50 [v, (.int .i64 (x))] w fun r w' => r = .bool (decide (x ∈ l)) ∧ Sat w [] w' := by
  have hs0 := Sat.start w
  refine callsV_of Tryz.func50 rfl rfl ?_
  refine .seq <| .region <| .s rfl rfl <| .nil <| .seq <| .region <| .m rfl rfl <| .m rfl rfl <| .f rfl (.call ent92 rfl ((index_n _ (l) (x) _ (hv.ext hs0.ext) hn).mono fun r_1 w_1 h_1 => ?_))
  obtain ⟨iz_1, rfl, hiz_1, hp_1⟩ := h_1
  have hs_1 := hs0.adds hp_1
  refine .e rfl (.geq rfl rfl) <| .s rfl rfl <| .nil <| .ret ?_
  show PostK _ _ _ _ _ _
  refine post1 rfl rfl ?_
  exact ⟨congrArg Value.bool (decide_eq_decide.2 hiz_1), hs_1⟩
theorem valid_n (av pv rv : Value) (al : List (ByteArray × Bool)) (nx jr : Int) (pl : List Pc) (w : World) (ha : RdL w av encAt al) (hna : al.length ≤ 200000) (hp : RdL w pv encPc pl) (hnp : pl.length ≤ 200000) (hrow : ∀ p ∈ pl, RdL w p.sv.val encTx p.ns) (hdl : ∀ p ∈ pl, p.ns.length ≤ 9223372036854775807) (hrv : rv.oneCell' = true) :
    CallsV Tryz.prog 19 [(.agg #[av, (.int .i64 (nx)), (.int .i64 (jr)), pv, rv])] w fun r w' => r = .bool (stB al nx jr pl) ∧ Sat w [] w' := by
  have hs0 := Sat.start w
  refine callsV_of Tryz.func19 rfl rfl ?_
  refine .seq <| .region <| .f rfl (.box hs0 rfl fun b_1 w_1 hs_1 hch_1 hb_1 => ?_)
  refine .s rfl rfl <| .nil <| .seq <| .seq <| .mid (fun L' w' => Weak [(0, (.agg #[av, (.int .i64 (nx)), (.int .i64 (jr)), pv, rv])), (1, (.pointer (some ⟨b_1, 0, none⟩))), (2, (.bool false)), (32, (.bool (decide ((((((!(atsB al)) = true) ∨ ((1000000000 : Int) < (nx : Int))) ∨ ((jr : Int) < (1 : Int))) ∨ ((nx : Int) ≤ (jr : Int))) ∨ (16 < pl.length)))))] L' ∧ Sat w [cObj b_1 27 [av, (.int .i64 (nx)), (.int .i64 (jr)), pv, rv]] w') ?_ ?_
  · refine .region <| .e rfl (.fieldAddr fld27_0 rfl rfl) <| .e rfl (.load scal23 rfl (hs_1.cell (i := 0) (j := 0) rfl rfl)) <| .f rfl (.call ent49 rfl ((validAttrs_n _ (al) _ (ha.ext hs_1.ext) (by omega)).mono fun r_1 w_2 h_1 => ?_))
    obtain ⟨rfl, hp_1⟩ := h_1
    have hs_2 := hs_1.adds hp_1
    refine .e rfl (.notB rfl) <| .m rfl rfl ?_
    by_cases hg_1 : (!(atsB al)) = true
    · refine .no rfl rfl rfl (hg_1) rfl <| .no rfl rfl rfl (hg_1) rfl <| .no rfl rfl rfl (hg_1) rfl <| .e rfl (.pickY rfl (hg_1) rfl) <| .m rfl rfl <| .no rfl rfl rfl (rfl) rfl <| .no rfl rfl rfl (rfl) rfl <| .no rfl rfl rfl (rfl) rfl <| .e rfl (.pickY rfl (rfl) rfl) <| .m rfl rfl <| .no rfl rfl rfl (rfl) rfl <| .no rfl rfl rfl (rfl) rfl <| .no rfl rfl rfl (rfl) rfl <| .no rfl rfl rfl (rfl) rfl <| .no rfl rfl rfl (rfl) rfl <| .e rfl (.pickY rfl (rfl) rfl) <| .m rfl rfl <| .no rfl rfl rfl (rfl) rfl <| .no rfl rfl rfl (rfl) rfl <| .no rfl rfl rfl (rfl) rfl <| .no rfl rfl rfl (rfl) rfl <| .e rfl (.pickY rfl (rfl) rfl) <| .nil ?_
      exact ⟨⟨rfl, rfl, rfl, congrArg some (congrArg Value.bool (by simp [hg_1])), trivial⟩, hs_2⟩
    · refine .yes rfl rfl rfl (by simpa using hg_1) <| .e rfl (.fieldAddr fld27_1 rfl rfl) <| .yes rfl rfl rfl (by simpa using hg_1) <| .e rfl (.load scal3 rfl (hs_2.cell (i := 0) (j := 1) rfl rfl)) <| .yes rfl rfl rfl (by simpa using hg_1) <| .e rfl (.gtr rfl rfl) <| .e rfl (.pickN rfl (by simpa using hg_1) rfl) <| .m rfl rfl ?_
      by_cases hg_2 : (1000000000 : Int) < (nx : Int)
      · refine .no rfl rfl rfl (decide_eq_true hg_2) rfl <| .no rfl rfl rfl (decide_eq_true hg_2) rfl <| .no rfl rfl rfl (decide_eq_true hg_2) rfl <| .e rfl (.pickY rfl (decide_eq_true hg_2) rfl) <| .m rfl rfl <| .no rfl rfl rfl (rfl) rfl <| .no rfl rfl rfl (rfl) rfl <| .no rfl rfl rfl (rfl) rfl <| .no rfl rfl rfl (rfl) rfl <| .no rfl rfl rfl (rfl) rfl <| .e rfl (.pickY rfl (rfl) rfl) <| .m rfl rfl <| .no rfl rfl rfl (rfl) rfl <| .no rfl rfl rfl (rfl) rfl <| .no rfl rfl rfl (rfl) rfl <| .no rfl rfl rfl (rfl) rfl <| .e rfl (.pickY rfl (rfl) rfl) <| .nil ?_
        exact ⟨⟨rfl, rfl, rfl, congrArg some (congrArg Value.bool (by simp [hg_1, hg_2])), trivial⟩, hs_2⟩
      · refine .yes rfl rfl rfl (decide_eq_false hg_2) <| .e rfl (.fieldAddr fld27_2 rfl rfl) <| .yes rfl rfl rfl (decide_eq_false hg_2) <| .e rfl (.load scal3 rfl (hs_2.cell (i := 0) (j := 2) rfl rfl)) <| .yes rfl rfl rfl (decide_eq_false hg_2) <| .e rfl (.lss rfl rfl) <| .e rfl (.pickN rfl (decide_eq_false hg_2) rfl) <| .m rfl rfl ?_
        by_cases hg_3 : (jr : Int) < (1 : Int)
        · refine .no rfl rfl rfl (decide_eq_true hg_3) rfl <| .no rfl rfl rfl (decide_eq_true hg_3) rfl <| .no rfl rfl rfl (decide_eq_true hg_3) rfl <| .no rfl rfl rfl (decide_eq_true hg_3) rfl <| .no rfl rfl rfl (decide_eq_true hg_3) rfl <| .e rfl (.pickY rfl (decide_eq_true hg_3) rfl) <| .m rfl rfl <| .no rfl rfl rfl (rfl) rfl <| .no rfl rfl rfl (rfl) rfl <| .no rfl rfl rfl (rfl) rfl <| .no rfl rfl rfl (rfl) rfl <| .e rfl (.pickY rfl (rfl) rfl) <| .nil ?_
          exact ⟨⟨rfl, rfl, rfl, congrArg some (congrArg Value.bool (by simp [hg_1, hg_2, hg_3])), trivial⟩, hs_2⟩
        · refine .yes rfl rfl rfl (decide_eq_false hg_3) <| .e rfl (.fieldAddr fld27_2 rfl rfl) <| .yes rfl rfl rfl (decide_eq_false hg_3) <| .e rfl (.load scal3 rfl (hs_2.cell (i := 0) (j := 2) rfl rfl)) <| .yes rfl rfl rfl (decide_eq_false hg_3) <| .e rfl (.fieldAddr fld27_1 rfl rfl) <| .yes rfl rfl rfl (decide_eq_false hg_3) <| .e rfl (.load scal3 rfl (hs_2.cell (i := 0) (j := 1) rfl rfl)) <| .yes rfl rfl rfl (decide_eq_false hg_3) <| .e rfl (.geq rfl rfl) <| .e rfl (.pickN rfl (decide_eq_false hg_3) rfl) <| .m rfl rfl ?_
          by_cases hg_4 : (nx : Int) ≤ (jr : Int)
          · refine .no rfl rfl rfl (decide_eq_true hg_4) rfl <| .no rfl rfl rfl (decide_eq_true hg_4) rfl <| .no rfl rfl rfl (decide_eq_true hg_4) rfl <| .no rfl rfl rfl (decide_eq_true hg_4) rfl <| .e rfl (.pickY rfl (decide_eq_true hg_4) rfl) <| .nil ?_
            exact ⟨⟨rfl, rfl, rfl, congrArg some (congrArg Value.bool (by simp [hg_1, hg_2, hg_3, hg_4])), trivial⟩, hs_2⟩
          · refine .yes rfl rfl rfl (decide_eq_false hg_4) <| .e rfl (.fieldAddr fld27_3 rfl rfl) <| .yes rfl rfl rfl (decide_eq_false hg_4) <| .e rfl (.load scal24 rfl (hs_2.cell (i := 0) (j := 3) rfl rfl)) <| .yes rfl rfl rfl (decide_eq_false hg_4) <| .e rfl (.lenL Tryz.underlying24 rfl (hp.ext hs_2.ext)) <| .yes rfl rfl rfl (decide_eq_false hg_4) <| .e rfl (.gtrN (b := 16) rfl rfl) <| .e rfl (.pickN rfl (decide_eq_false hg_4) rfl) <| .nil ?_
            exact ⟨⟨rfl, rfl, rfl, congrArg some (congrArg Value.bool (by simp [hg_1, hg_2, hg_3, hg_4])), trivial⟩, hs_2⟩
  · rintro L' w_3 ⟨hw_1, hs_3⟩
    refine .weaken _ hw_1 <| .condD rfl (fun hc_1 => ?_) (fun hc_1 => ?_)
    · refine .seq <| .region <| .s rfl rfl <| .nil <| .ret ?_
      show PostK _ _ _ _ _ _
      refine post1 rfl rfl ?_
      have hs_4 : Sat w [] w_3 := hs_3.sub ((.cons _ .slnil))
      have hno : stB al nx jr pl = false := stB_no.2 fun h9 => by
        obtain ⟨h1, h2, h3, h4, h5, _⟩ := h9
        have h8 := hc_1
        rw [atsB_iff.2 h1] at h8
        simp only [Bool.not_true, Bool.false_eq_true, false_or] at h8
        omega
      exact ⟨by rw [hno], hs_4⟩
    · refine .skip <| .seq ?_
      have hok1 : atsOk al ∧ nx ≤ 1000000000 ∧ 1 ≤ jr ∧ jr < nx ∧ pl.length ≤ 16 := by have h9 := hc_1; simp only [not_or] at h9; exact ⟨atsB_iff.1 (by simpa using h9.1.1.1.1), by omega, by omega, by omega, by omega⟩
      refine .region <| .e rfl (.fieldAddr fld27_2 rfl rfl) <| .e rfl (.load scal3 rfl (hs_3.cell (i := 0) (j := 2) rfl rfl)) <| .f rfl (.lit1 (Kw.encI .i64) jr sl22 rfl hs_3 rfl fun v_1 w_4 hs_5 hch_2 => ?_)
      refine .s rfl rfl <| .nil <| .seq <| .seq <| .region <| .e rfl (.fieldAddr fld27_3 rfl rfl) <| .e rfl (.load scal24 rfl (hs_5.cell (i := 0) (j := 3) rfl rfl)) <| .e rfl (.lenL Tryz.underlying24 rfl (hp.ext hs_5.ext)) <| .m rfl rfl <| .nil <| .block <| .loop (α := Nat × Value × List Int) (fun (k, uv, us) => [(1, (.pointer (some ⟨b_1, 0, none⟩))), (3, uv), (37, pv), (38, (.int .i64 pl.length)), (39, (.int .i64 k))]) (fun (k, uv, us) w' => Sat w [cObj b_1 27 [av, (.int .i64 (nx)), (.int .i64 (jr)), pv, rv], cL uv 3 (Kw.encI .i64) (us)] w' ∧ (k ≤ pl.length) ∧ (us = jr :: (pl.take k).map Pc.f) ∧ (∀ i, i < k → pcOkAt nx jr pl i)) (fun (k, uv, us) => pl.length - k) (0, v_1, [jr]) ⟨rfl, rfl, rfl, rfl, rfl, trivial⟩ ⟨hs_5, Nat.zero_le _, rfl, fun i hi => absurd hi (Nat.not_lt_zero i)⟩ ?_
      rintro ⟨k, uv, us⟩ w_5 ⟨hs_6, hk, hus, hall⟩
      show CW _ _ _ _ [(1, (.pointer (some ⟨b_1, 0, none⟩))), (3, uv), (37, pv), (38, (.int .i64 pl.length)), (39, (.int .i64 k))] _
      refine .seq <| .region <| .e rfl (.lssN rfl rfl) <| .nil <| .seq <| .condD rfl (fun hc_2 => ?_) (fun hc_2 => ?_)
      · refine .skip <| .seq <| .block <| .seq ?_
        obtain ⟨x, hx⟩ : ∃ x, (pl)[k]? = some x := ⟨_, List.getElem?_eq_getElem hc_2⟩
        have hxd := hdl x (mem_of_get hx)
        refine .region <| .e rfl (.idxL (E := encPc) sl24 rfl rfl (hp.ext hs_6.ext) (by omega)) <| .e rfl (.ldAgg (E := encPc) agg72 rfl (hp.ext hs_6.ext) hx (by decide)) <| .f rfl (.alloc hs_6 zero72 fun b_2 w_6 hs_7 hch_3 hb_2 => ?_)
        refine .f rfl (.storeObjA (vs := (encPc).enc x) agg72 hs_7 (i := 2) rfl rfl rfl rfl ((encPc).one _) fun w_7 hs_8 hch_4 => ?_)
        have hs_8d : Sat w [_, _, cObj b_2 72 [(.int .i64 (x.f)), x.sv.val]] _ := hs_8
        refine .nil <| .seq <| .seq <| .mid (fun L' w' => Weak [(1, (.pointer (some ⟨b_1, 0, none⟩))), (3, uv), (5, (.pointer (some ⟨b_2, 0, none⟩))), (37, pv), (38, (.int .i64 pl.length)), (39, (.int .i64 k)), (40, (.bool (decide (k < pl.length)))), (64, (.bool (decide (((((x.f : Int) < (1 : Int)) ∨ ((nx : Int) ≤ (x.f : Int))) ∨ (x.f ∈ us)) ∨ ((!(delB x.ns)) = true)))))] L' ∧ Sat w [cObj b_1 27 [av, (.int .i64 (nx)), (.int .i64 (jr)), pv, rv], cL uv 3 (Kw.encI .i64) (us), cObj b_2 72 [(.int .i64 (x.f)), x.sv.val]] w') ?_ ?_
        · refine .region <| .e rfl (.fieldAddr fld72_0 rfl rfl) <| .e rfl (.load scal3 rfl (hs_8d.cell (i := 2) (j := 0) rfl rfl)) <| .e rfl (.lss rfl rfl) <| .m rfl rfl ?_
          by_cases hg_5 : (x.f : Int) < (1 : Int)
          · refine .no rfl rfl rfl (decide_eq_true hg_5) rfl <| .no rfl rfl rfl (decide_eq_true hg_5) rfl <| .no rfl rfl rfl (decide_eq_true hg_5) rfl <| .no rfl rfl rfl (decide_eq_true hg_5) rfl <| .no rfl rfl rfl (decide_eq_true hg_5) rfl <| .e rfl (.pickY rfl (decide_eq_true hg_5) rfl) <| .m rfl rfl <| .no rfl rfl rfl (rfl) rfl <| .no rfl rfl rfl (rfl) rfl <| .no rfl rfl rfl (rfl) rfl <| .no rfl rfl rfl (rfl) rfl <| .e rfl (.pickY rfl (rfl) rfl) <| .m rfl rfl <| .no rfl rfl rfl (rfl) rfl <| .no rfl rfl rfl (rfl) rfl <| .no rfl rfl rfl (rfl) rfl <| .no rfl rfl rfl (rfl) rfl <| .e rfl (.pickY rfl (rfl) rfl) <| .nil ?_
            exact ⟨⟨rfl, rfl, rfl, rfl, rfl, rfl, rfl, congrArg some (congrArg Value.bool (by simp [hg_5])), trivial⟩, hs_8d⟩
          · refine .yes rfl rfl rfl (decide_eq_false hg_5) <| .e rfl (.fieldAddr fld72_0 rfl rfl) <| .yes rfl rfl rfl (decide_eq_false hg_5) <| .e rfl (.load scal3 rfl (hs_8d.cell (i := 2) (j := 0) rfl rfl)) <| .yes rfl rfl rfl (decide_eq_false hg_5) <| .e rfl (.fieldAddr fld27_1 rfl rfl) <| .yes rfl rfl rfl (decide_eq_false hg_5) <| .e rfl (.load scal3 rfl (hs_8d.cell (i := 0) (j := 1) rfl rfl)) <| .yes rfl rfl rfl (decide_eq_false hg_5) <| .e rfl (.geq rfl rfl) <| .e rfl (.pickN rfl (decide_eq_false hg_5) rfl) <| .m rfl rfl ?_
            by_cases hg_6 : (nx : Int) ≤ (x.f : Int)
            · refine .no rfl rfl rfl (decide_eq_true hg_6) rfl <| .no rfl rfl rfl (decide_eq_true hg_6) rfl <| .no rfl rfl rfl (decide_eq_true hg_6) rfl <| .no rfl rfl rfl (decide_eq_true hg_6) rfl <| .e rfl (.pickY rfl (decide_eq_true hg_6) rfl) <| .m rfl rfl <| .no rfl rfl rfl (rfl) rfl <| .no rfl rfl rfl (rfl) rfl <| .no rfl rfl rfl (rfl) rfl <| .no rfl rfl rfl (rfl) rfl <| .e rfl (.pickY rfl (rfl) rfl) <| .nil ?_
              exact ⟨⟨rfl, rfl, rfl, rfl, rfl, rfl, rfl, congrArg some (congrArg Value.bool (by simp [hg_5, hg_6])), trivial⟩, hs_8d⟩
            · refine .yes rfl rfl rfl (decide_eq_false hg_6) <| .m rfl rfl <| .yes rfl rfl rfl (decide_eq_false hg_6) <| .e rfl (.fieldAddr fld72_0 rfl rfl) <| .yes rfl rfl rfl (decide_eq_false hg_6) <| .e rfl (.load scal3 rfl (hs_8d.cell (i := 2) (j := 0) rfl rfl)) <| .yes rfl rfl rfl (decide_eq_false hg_6) <| .f rfl (.call ent50 rfl ((contains_n _ (us) (x.f) _ (hs_8d.rdL 1 rfl) (by rw [hus]; simp only [List.length_cons, List.length_map, List.length_take]; omega)).mono fun r_2 w_8 h_2 => ?_))
              obtain ⟨rfl, hp_2⟩ := h_2
              have hs_9 := hs_8d.adds hp_2
              refine .e rfl (.pickN rfl (decide_eq_false hg_6) rfl) <| .m rfl rfl ?_
              by_cases hg_7 : x.f ∈ us
              · refine .no rfl rfl rfl (decide_eq_true hg_7) rfl <| .no rfl rfl rfl (decide_eq_true hg_7) rfl <| .no rfl rfl rfl (decide_eq_true hg_7) rfl <| .no rfl rfl rfl (decide_eq_true hg_7) rfl <| .e rfl (.pickY rfl (decide_eq_true hg_7) rfl) <| .nil ?_
                exact ⟨⟨rfl, rfl, rfl, rfl, rfl, rfl, rfl, congrArg some (congrArg Value.bool (by simp [hg_5, hg_6, hg_7])), trivial⟩, hs_9⟩
              · refine .yes rfl rfl rfl (decide_eq_false hg_7) <| .e rfl (.fieldAddr fld72_1 rfl rfl) <| .yes rfl rfl rfl (decide_eq_false hg_7) <| .e rfl (.load scal61 rfl (hs_9.cell (i := 2) (j := 1) rfl rfl)) <| .yes rfl rfl rfl (decide_eq_false hg_7) <| .f rfl (.call ent51 rfl ((validDeleted_n _ (x.ns) _ ((hrow x (mem_of_get hx)).ext hs_9.ext) (hxd)).mono fun r_3 w_9 h_3 => ?_))
                obtain ⟨rfl, hp_3⟩ := h_3
                have hs_10 := hs_9.adds hp_3
                refine .yes rfl rfl rfl (decide_eq_false hg_7) <| .e rfl (.notB rfl) <| .e rfl (.pickN rfl (decide_eq_false hg_7) rfl) <| .nil ?_
                exact ⟨⟨rfl, rfl, rfl, rfl, rfl, rfl, rfl, congrArg some (congrArg Value.bool (by simp [hg_5, hg_6, hg_7])), trivial⟩, hs_10⟩
        · rintro L' w_10 ⟨hw_2, hs_11⟩
          refine .weaken _ hw_2 <| .condD rfl (fun hc_3 => ?_) (fun hc_3 => ?_)
          · refine .seq <| .region <| .s rfl rfl <| .nil <| .ret ?_
            show PostK _ _ _ _ _ _
            refine post1 rfl rfl ?_
            have hs_12 : Sat w [] w_10 := hs_11.sub ((.cons _ (.cons _ (.cons _ .slnil))))
            have hno : stB al nx jr pl = false := stB_no.2 fun h9 => by
              obtain ⟨h1, h2, h3, h4⟩ := h9.2.2.2.2.2 k x hx
              rcases hc_3 with ((h5 | h5) | h5) | h5
              · omega
              · omega
              · rw [hus] at h5; exact h3 h5
              · rw [delB_iff.2 h4] at h5; cases h5
            exact ⟨by rw [hno], hs_12⟩
          · refine .skip <| .region <| .m rfl rfl <| .e rfl (.fieldAddr fld72_0 rfl rfl) <| .e rfl (.load scal3 rfl (hs_11.cell (i := 2) (j := 0) rfl rfl)) <| .f rfl (.lit1 (Kw.encI .i64) x.f sl22 rfl hs_11 rfl fun v_2 w_11 hs_13 hch_5 => ?_)
            refine .f rfl (.appendL 1 sl22 hs_13 rfl rfl rfl Tryz.underlying22 (hs_13.rdL 3 rfl) (by rw [hus]; simp only [List.length_cons, List.length_map, List.length_take, List.length_nil]; omega) (by rw [hus]; simp only [List.length_cons, List.length_map, List.length_take, List.length_nil]; omega) fun v_3 w_12 hs_14 hch_6 => ?_)
            have hs_14d : Sat w [_, cL v_3 3 (Kw.encI .i64) (us ++ [x.f]), _] _ := hs_14.drop 3
            refine .s rfl rfl <| .nil <| .region <| .e rfl (.addI (b := 1) rfl rfl (by omega)) <| .m rfl rfl <| .nil ?_
            have hs_15 : Sat w [_, _] w_12 := hs_14d.sub ((.cons_cons _ (.cons_cons _ (.cons _ .slnil))))
            exact ⟨(k + 1, v_3, us ++ [x.f]), ⟨rfl, rfl, rfl, rfl, rfl, trivial⟩, ⟨hs_15, by omega, by rw [hus, take_succ_of hx, List.map_append]; rfl, fun i hi z hz => by
      rcases Nat.lt_or_ge i k with h | h
      · exact hall i h z hz
      · have e : i = k := by omega
        subst e
        rw [hx] at hz; cases hz
        have h7 := hc_3
        simp only [not_or] at h7
        exact ⟨by omega, by omega, by rw [← hus]; exact h7.1.2, delB_iff.1 (by simpa using h7.2)⟩⟩, (show (pl.length - (k + 1)) < (pl.length - k) from by omega)⟩
      · refine .exit0 <| .seq <| .region <| .s rfl rfl <| .nil <| .ret ?_
        show PostK _ _ _ _ _ _
        refine post1 rfl rfl ?_
        have hs_16 : Sat w [] w_5 := hs_6.sub ((.cons _ (.cons _ .slnil)))
        have hyes : stB al nx jr pl = true := stB_iff.2 ⟨hok1.1, hok1.2.1, hok1.2.2.1, hok1.2.2.2.1, hok1.2.2.2.2, fun i z hz => hall i (by have := (List.getElem?_eq_some_iff.1 hz).1; omega) z hz⟩
        exact ⟨by rw [hyes], hs_16⟩
end Go.Proofs.YtecfgjdpghddgaaGreatDoor
namespace Go.Proofs.YtecfgjdpghddgaaGreatDoor
open Go.RowKit Go.Kw
set_option maxRecDepth 100000
theorem r6attrs_n (v : Value) (l : List (ByteArray × Bool)) (w : World) (hv : RdL w v encAt l) (hn : l.length ≤ 1000000) :
    CallsV Tryz.prog 132 [v] w fun r w' => ∃ i e : Int, r = .tuple #[.int .i64 i, .int .i64 e] ∧ (e = 0 ↔ atsOk l) ∧ Sat w [] w' := by
  have hs0 := Sat.start w
  refine callsV_of Tryz.func132 rfl rfl ?_
  refine .seq <| .region <| .s rfl rfl <| .s rfl rfl <| .nil <| .seq <| .seq <| .region <| .m rfl rfl <| .e rfl (.lenL Tryz.underlying23 rfl (hv.ext hs0.ext)) <| .e rfl (.eqlN (b := 0) rfl rfl) <| .nil <| .condD rfl (fun hc_1 => ?_) (fun hc_1 => ?_)
  · refine .seq <| .region <| .s rfl rfl <| .s rfl rfl <| .nil <| .ret ?_
    show PostK _ _ _ _ _ _
    refine post2 rfl rfl rfl ?_
    have hs_1 : Sat w [] w := hs0.sub (.slnil)
    have hno : ¬ atsOk l := fun h9 => by
      have h8 := h9.2.1
      omega
    exact ⟨_, 15, rfl, ⟨fun h9 => absurd h9 (by decide), fun h9 => absurd h9 hno⟩, hs_1⟩
  · refine .skip <| .seq <| .seq <| .region <| .m rfl rfl <| .e rfl (.lenL Tryz.underlying23 rfl (hv.ext hs0.ext)) <| .e rfl (.gtrN (b := 8) rfl rfl) <| .nil <| .condD rfl (fun hc_2 => ?_) (fun hc_2 => ?_)
    · refine .seq <| .region <| .s rfl rfl <| .s rfl rfl <| .nil <| .ret ?_
      show PostK _ _ _ _ _ _
      refine post2 rfl rfl rfl ?_
      have hs_2 : Sat w [] w := hs0.sub (.slnil)
      have hno : ¬ atsOk l := fun h9 => by
        have h8 := h9.2.2
        omega
      exact ⟨_, 2, rfl, ⟨fun h9 => absurd h9 (by decide), fun h9 => absurd h9 hno⟩, hs_2⟩
    · refine .skip <| .seq <| .seq <| .region <| .m rfl rfl <| .e rfl (.lenL Tryz.underlying23 rfl (hv.ext hs0.ext)) <| .m rfl rfl <| .nil <| .block <| .loop (α := Nat) (fun k => [(0, v), (14, v), (15, (.int .i64 l.length)), (16, (.int .i64 k))]) (fun k w' => Sat w [] w' ∧ (k ≤ l.length) ∧ (∀ i, i < k → atOkAt l i)) (fun k => l.length - k) 0 ⟨rfl, rfl, rfl, rfl, trivial⟩ ⟨hs0, Nat.zero_le _, fun i hi => absurd hi (Nat.not_lt_zero i)⟩ ?_
      rintro k w_1 ⟨hs_3, hk, hall⟩
      show CW _ _ _ _ [(0, v), (14, v), (15, (.int .i64 l.length)), (16, (.int .i64 k))] _
      refine .seq <| .region <| .e rfl (.lssN rfl rfl) <| .nil <| .seq <| .condD rfl (fun hc_3 => ?_) (fun hc_3 => ?_)
      · refine .skip <| .seq <| .block <| .seq ?_
        obtain ⟨x, hx⟩ : ∃ x, (l)[k]? = some x := ⟨_, List.getElem?_eq_getElem hc_3⟩
        refine .region <| .m rfl rfl <| .e rfl (.idxL (E := encAt) sl23 rfl rfl (hv.ext hs_3.ext) (by omega)) <| .e rfl (.ldAgg (E := encAt) agg70 rfl (hv.ext hs_3.ext) hx (by decide)) <| .f rfl (.alloc hs_3 zero70 fun b_1 w_2 hs_4 hch_1 hb_1 => ?_)
        refine .s rfl rfl <| .f rfl (.storeObjA (vs := (encAt).enc x) agg70 hs_4 (i := 0) rfl rfl rfl rfl ((encAt).one _) fun w_3 hs_5 hch_2 => ?_)
        refine .nil <| .seq <| .seq <| .region <| .e rfl (.fieldAddr fld70_0 rfl rfl) <| .e rfl (.load scal9 rfl (hs_5.cell (i := 0) (j := 0) rfl rfl)) <| .f rfl (.call ent58 rfl ((rvalidName_n x.1 _).mono fun r_1 w_4 h_1 => ?_))
        obtain ⟨rfl, hp_1⟩ := h_1
        have hs_6 : Sat w [_] _ := hs_5.adds hp_1
        refine .e rfl (.notB rfl) <| .nil <| .cond rfl (fun hc_4 => ?_) (fun hc_4 => ?_)
        · refine .seq <| .region <| .m rfl rfl <| .s rfl rfl <| .s rfl rfl <| .nil <| .ret ?_
          show PostK _ _ _ _ _ _
          refine post2 rfl rfl rfl ?_
          have hs_7 : Sat w [] w_4 := hs_6.sub ((.cons _ .slnil))
          have hno : ¬ atsOk l := fun h9 => by
            have h8 := (h9.1 k x hx).1
            rw [h8] at hc_4; cases hc_4
          exact ⟨_, 4, rfl, ⟨fun h9 => absurd h9 (by decide), fun h9 => absurd h9 hno⟩, hs_7⟩
        · refine .skip <| .seq <| .region <| .m rfl rfl <| .m rfl rfl <| .e rfl (.sliceL (E := encAt) (a := 0) (c := k) sl23 rfl (hv.ext hs_6.ext) rfl ⟨_, rfl⟩ (Nat.zero_le _) (by omega)) <| .e rfl (.lenL Tryz.underlying23 rfl (((hv.ext hs_6.ext)).sub (a := 0) (b := k) (Nat.zero_le _) (by omega))) <| .m rfl rfl <| .nil <| .block <| .loop (α := Nat) (fun j => [(0, v), (4, (.int .i64 k)), (5, (.pointer (some ⟨b_1, 0, none⟩))), (14, v), (15, (.int .i64 l.length)), (16, (.int .i64 k)), (28, (subSl (encAt).s v 0 k)), (29, (.int .i64 ((((l).take k).drop 0).length : Nat))), (30, (.int .i64 j))]) (fun j w' => Sat w [cObj b_1 70 [(.string x.1), (.bool x.2)]] w' ∧ (∀ i, i < j → ∀ q, (((l).take k).drop 0)[i]? = some q → x.1 ≠ q.1)) (fun j => (((l).take k).drop 0).length - j) 0 ⟨rfl, rfl, rfl, rfl, rfl, rfl, rfl, rfl, rfl, trivial⟩ ⟨hs_6, fun i hi => absurd hi (Nat.not_lt_zero i)⟩ ?_
          rintro j w_5 ⟨hs_8, hin⟩
          show CW _ _ _ _ [(0, v), (4, (.int .i64 k)), (5, (.pointer (some ⟨b_1, 0, none⟩))), (14, v), (15, (.int .i64 l.length)), (16, (.int .i64 k)), (28, (subSl (encAt).s v 0 k)), (29, (.int .i64 ((((l).take k).drop 0).length : Nat))), (30, (.int .i64 j))] _
          refine .seq <| .region <| .e rfl (.lssN rfl rfl) <| .nil <| .seq <| .condD rfl (fun hc_5 => ?_) (fun hc_5 => ?_)
          · refine .skip <| .seq <| .block <| .seq ?_
            obtain ⟨y, hy⟩ : ∃ y, (((l).take k).drop 0)[j]? = some y := ⟨_, List.getElem?_eq_getElem hc_5⟩
            have hjl : j < k := by have h9 := hc_5; rw [List.length_drop, List.length_take] at h9; omega
            refine .region <| .e rfl (.idxL (E := encAt) sl23 rfl rfl (((hv.ext hs_8.ext)).sub (a := 0) (b := k) (Nat.zero_le _) (by omega)) (by omega)) <| .e rfl (.ldAgg (E := encAt) agg70 rfl (((hv.ext hs_8.ext)).sub (a := 0) (b := k) (Nat.zero_le _) (by omega)) hy (by decide)) <| .f rfl (.alloc hs_8 zero70 fun b_2 w_6 hs_9 hch_3 hb_2 => ?_)
            refine .f rfl (.storeObjA (vs := (encAt).enc y) agg70 hs_9 (i := 1) rfl rfl rfl rfl ((encAt).one _) fun w_7 hs_10 hch_4 => ?_)
            refine .nil <| .seq <| .region <| .e rfl (.fieldAddr fld70_0 rfl rfl) <| .e rfl (.load scal9 rfl (hs_10.cell (i := 0) (j := 0) rfl rfl)) <| .e rfl (.fieldAddr fld70_0 rfl rfl) <| .e rfl (.load scal9 rfl (hs_10.cell (i := 1) (j := 0) rfl rfl)) <| .e rfl (.strEql rfl rfl) <| .nil <| .condD rfl (fun hc_6 => ?_) (fun hc_6 => ?_)
            · refine .seq <| .region <| .m rfl rfl <| .s rfl rfl <| .s rfl rfl <| .nil <| .ret ?_
              show PostK _ _ _ _ _ _
              refine post2 rfl rfl rfl ?_
              have hs_11 : Sat w [] w_7 := hs_10.sub ((.cons _ (.cons _ .slnil)))
              have hno : ¬ atsOk l := fun h9 => by
                have h8 := (h9.1 k x hx).2
                rw [List.any_eq_false] at h8
                have hyl : l[j]? = some y := by have h7 := hy; rw [List.drop_zero, List.getElem?_take, if_pos (by omega)] at h7; exact h7
                exact h8 y (List.mem_of_getElem? (by rw [List.getElem?_take, if_pos (by omega)]; exact hyl)) (decide_eq_true (hc_6).symm)
              exact ⟨_, 5, rfl, ⟨fun h9 => absurd h9 (by decide), fun h9 => absurd h9 hno⟩, hs_11⟩
            · refine .skip <| .region <| .e rfl (.addI (b := 1) rfl rfl (by omega)) <| .m rfl rfl <| .nil ?_
              have hs_12 : Sat w [_] w_7 := hs_10.sub ((.cons_cons _ (.cons _ .slnil)))
              exact ⟨j + 1, ⟨rfl, rfl, rfl, rfl, rfl, rfl, rfl, rfl, rfl, trivial⟩, ⟨hs_12, fun i hi q hq => by
      rcases Nat.lt_or_ge i j with h | h
      · exact hin i h q hq
      · have e : i = j := by omega
        subst e
        rw [hy] at hq; cases hq; exact hc_6⟩, (show ((((l).take k).drop 0).length - (j + 1)) < ((((l).take k).drop 0).length - j) from by omega)⟩
          · refine .exit0 ?_
            have hjn := hc_5
            refine .region <| .e rfl (.addI (b := 1) rfl rfl (by omega)) <| .m rfl rfl <| .nil ?_
            have hs_13 : Sat w [] w_5 := hs_8.sub ((.cons _ .slnil))
            exact ⟨k + 1, ⟨rfl, rfl, rfl, rfl, trivial⟩, ⟨hs_13, by omega, fun i hi z hz => by
      rcases Nat.lt_or_ge i k with h | h
      · exact hall i h z hz
      · have e : i = k := by omega
        subst e
        rw [hx] at hz; cases hz
        exact ⟨by cases h8 : nameB x.1 <;> simp_all, List.any_eq_false.2 fun q hq => by
          obtain ⟨m, hm⟩ := List.getElem?_of_mem hq
          have h7 := (List.getElem?_eq_some_iff.1 hm).1
          have h6 : m < j := by rw [List.length_take] at h7; have h5 := hjn; rw [List.length_drop, List.length_take] at h5; omega
          have h4 := hin m h6 q (by rw [List.drop_zero]; exact hm)
          simpa using fun e => h4 e.symm⟩⟩, (show (l.length - (k + 1)) < (l.length - k) from by omega)⟩
      · refine .exit0 <| .seq <| .region <| .s rfl rfl <| .s rfl rfl <| .nil <| .ret ?_
        show PostK _ _ _ _ _ _
        refine post2 rfl rfl rfl ?_
        have hs_14 : Sat w [] w_1 := hs_3.sub (.slnil)
        have hyes : atsOk l := ⟨fun i z hz => hall i (by have := (List.getElem?_eq_some_iff.1 hz).1; omega) z hz, by omega, by omega⟩
        exact ⟨_, 0, rfl, ⟨fun _ => hyes, fun _ => rfl⟩, hs_14⟩
theorem r6tokens_n (av : Value) (l : List (ByteArray × Bool)) (w : World) (ha : RdL w av encAt l) :
    CallsV Tryz.prog 133 [(.agg #[av, (.slice none 0 0), (.slice none 0 0), (.slice none 0 0), (.slice none 0 0), (.slice none 0 0), (.slice none 0 0)])] w fun r w' => r = .tuple #[.int .i64 0, .int .i64 0] ∧ Sat w [] w' := by
  have hs0 := Sat.start w
  refine callsV_of Tryz.func133 rfl rfl ?_
  refine .seq <| .region <| .f rfl (.box hs0 rfl fun b_1 w_1 hs_1 hch_1 hb_1 => ?_)
  refine .s rfl rfl <| .s rfl rfl <| .nil <| .seq <| .seq <| .region <| .e rfl (.fieldAddr fld96_1 rfl rfl) <| .e rfl (.load scal91 rfl (hs_1.cell (i := 0) (j := 1) rfl rfl)) <| .e rfl (.lenL (l := ([] : List Nat)) (E := encN .u8) Tryz.underlying91 rfl (RdL.nil _ _)) <| .e rfl (.gtrN (a := 0) (b := 4096) rfl rfl) <| .nil <| .condF rfl (rfl) <| .skip <| .seq <| .seq <| .region <| .e rfl (.fieldAddr fld96_1 rfl rfl) <| .e rfl (.load scal91 rfl (hs_1.cell (i := 0) (j := 1) rfl rfl)) <| .e rfl (.lenL (l := ([] : List Nat)) (E := encN .u8) Tryz.underlying91 rfl (RdL.nil _ _)) <| .m rfl rfl <| .nil <| .block <| .loop (α := Unit) (fun _ => [(1, (.pointer (some ⟨b_1, 0, none⟩))), (14, (.slice none 0 0)), (15, (.int .i64 (0 : Nat))), (16, (.int .i64 (0 : Nat)))]) (fun _ w' => Sat w [cObj b_1 96 [av, (.slice none 0 0), (.slice none 0 0), (.slice none 0 0), (.slice none 0 0), (.slice none 0 0), (.slice none 0 0)]] w') (fun _ => 0) () ⟨rfl, rfl, rfl, rfl, trivial⟩ hs_1 ?_
  rintro _ w_2 hs_2
  show CW _ _ _ _ [(1, (.pointer (some ⟨b_1, 0, none⟩))), (14, (.slice none 0 0)), (15, (.int .i64 (0 : Nat))), (16, (.int .i64 (0 : Nat)))] _
  refine .seq <| .region <| .e rfl (.lssN (a := 0) (b := 0) rfl rfl) <| .nil <| .seq <| .condF rfl (rfl) <| .exit0 <| .seq <| .region <| .s rfl rfl <| .s rfl rfl <| .nil <| .ret ?_
  show PostK _ _ _ _ _ _
  refine post2 rfl rfl rfl ?_
  have hs_3 : Sat w [] w_2 := hs_2.sub ((.cons _ .slnil))
  exact ⟨rfl, hs_3⟩
theorem r6texts_n (av : Value) (l : List (ByteArray × Bool)) (w : World) (ha : RdL w av encAt l) :
    CallsV Tryz.prog 134 [(.agg #[av, (.slice none 0 0), (.slice none 0 0), (.slice none 0 0), (.slice none 0 0), (.slice none 0 0), (.slice none 0 0)])] w fun r w' => r = .tuple #[.int .i64 0, .int .i64 0] ∧ Sat w [] w' := by
  have hs0 := Sat.start w
  refine callsV_of Tryz.func134 rfl rfl ?_
  refine .seq <| .region <| .f rfl (.box hs0 rfl fun b_1 w_1 hs_1 hch_1 hb_1 => ?_)
  refine .s rfl rfl <| .s rfl rfl <| .nil <| .seq <| .region <| .e rfl (.fieldAddr fld96_1 rfl rfl) <| .e rfl (.load scal91 rfl (hs_1.cell (i := 0) (j := 1) rfl rfl)) <| .e rfl (.lenL (l := ([] : List Nat)) (E := encN .u8) Tryz.underlying91 rfl (RdL.nil _ _)) <| .s rfl rfl <| .nil <| .seq <| .seq <| .region <| .e rfl (.fieldAddr fld96_2 rfl rfl) <| .e rfl (.load scal92 rfl (hs_1.cell (i := 0) (j := 2) rfl rfl)) <| .e rfl (.lenL (l := ([] : List Nat)) (E := encN .u8) Tryz.underlying92 rfl (RdL.nil _ _)) <| .e rfl (.gtrN (a := 0) (b := 64) rfl rfl) <| .nil <| .condF rfl (rfl) <| .skip <| .seq <| .seq <| .region <| .e rfl (.fieldAddr fld96_2 rfl rfl) <| .e rfl (.load scal92 rfl (hs_1.cell (i := 0) (j := 2) rfl rfl)) <| .e rfl (.lenL (l := ([] : List Nat)) (E := encN .u8) Tryz.underlying92 rfl (RdL.nil _ _)) <| .e rfl (.eqlN (a := 0) (b := 0) rfl rfl) <| .m rfl rfl <| .e rfl (.eqlN (a := 0) (b := 0) rfl rfl) <| .e rfl (.neqB Tryz.underlying4 rfl rfl) <| .nil <| .condF rfl (bool_neq (rfl) (rfl) rfl) <| .skip <| .seq <| .region <| .s rfl rfl <| .nil <| .seq <| .seq <| .region <| .e rfl (.fieldAddr fld96_2 rfl rfl) <| .e rfl (.load scal92 rfl (hs_1.cell (i := 0) (j := 2) rfl rfl)) <| .e rfl (.lenL (l := ([] : List Nat)) (E := encN .u8) Tryz.underlying92 rfl (RdL.nil _ _)) <| .m rfl rfl <| .nil <| .block <| .loop (α := Unit) (fun _ => [(1, (.pointer (some ⟨b_1, 0, none⟩))), (4, (.int .i64 (0 : Nat))), (5, (.int .i64 (0 : Nat))), (26, (.slice none 0 0)), (27, (.int .i64 (0 : Nat))), (28, (.int .i64 (0 : Nat)))]) (fun _ w' => Sat w [cObj b_1 96 [av, (.slice none 0 0), (.slice none 0 0), (.slice none 0 0), (.slice none 0 0), (.slice none 0 0), (.slice none 0 0)]] w') (fun _ => 0) () ⟨rfl, rfl, rfl, rfl, rfl, rfl, trivial⟩ hs_1 ?_
  rintro _ w_2 hs_2
  show CW _ _ _ _ [(1, (.pointer (some ⟨b_1, 0, none⟩))), (4, (.int .i64 (0 : Nat))), (5, (.int .i64 (0 : Nat))), (26, (.slice none 0 0)), (27, (.int .i64 (0 : Nat))), (28, (.int .i64 (0 : Nat)))] _
  refine .seq <| .region <| .e rfl (.lssN (a := 0) (b := 0) rfl rfl) <| .nil <| .seq <| .condF rfl (rfl) <| .exit0 <| .seq <| .region <| .s rfl rfl <| .s rfl rfl <| .nil <| .ret ?_
  show PostK _ _ _ _ _ _
  refine post2 rfl rfl rfl ?_
  have hs_3 : Sat w [] w_2 := hs_2.sub ((.cons _ .slnil))
  exact ⟨rfl, hs_3⟩
theorem r6regions_n (av : Value) (l : List (ByteArray × Bool)) (w : World) (ha : RdL w av encAt l) :
    CallsV Tryz.prog 135 [(.agg #[av, (.slice none 0 0), (.slice none 0 0), (.slice none 0 0), (.slice none 0 0), (.slice none 0 0), (.slice none 0 0)])] w fun r w' => r = .tuple #[.int .i64 0, .int .i64 0] ∧ Sat w [] w' := by
  have hs0 := Sat.start w
  refine callsV_of Tryz.func135 rfl rfl ?_
  refine .seq <| .region <| .f rfl (.box hs0 rfl fun b_1 w_1 hs_1 hch_1 hb_1 => ?_)
  refine .s rfl rfl <| .s rfl rfl <| .nil <| .seq <| .seq <| .region <| .e rfl (.fieldAddr fld96_3 rfl rfl) <| .e rfl (.load scal93 rfl (hs_1.cell (i := 0) (j := 3) rfl rfl)) <| .e rfl (.lenL (l := ([] : List Nat)) (E := encN .u8) Tryz.underlying93 rfl (RdL.nil _ _)) <| .e rfl (.gtrN (a := 0) (b := 1024) rfl rfl) <| .nil <| .condF rfl (rfl) <| .skip <| .seq <| .seq <| .region <| .e rfl (.fieldAddr fld96_3 rfl rfl) <| .e rfl (.load scal93 rfl (hs_1.cell (i := 0) (j := 3) rfl rfl)) <| .e rfl (.lenL (l := ([] : List Nat)) (E := encN .u8) Tryz.underlying93 rfl (RdL.nil _ _)) <| .m rfl rfl <| .nil <| .block <| .loop (α := Unit) (fun _ => [(1, (.pointer (some ⟨b_1, 0, none⟩))), (15, (.slice none 0 0)), (16, (.int .i64 (0 : Nat))), (17, (.int .i64 (0 : Nat)))]) (fun _ w' => Sat w [cObj b_1 96 [av, (.slice none 0 0), (.slice none 0 0), (.slice none 0 0), (.slice none 0 0), (.slice none 0 0), (.slice none 0 0)]] w') (fun _ => 0) () ⟨rfl, rfl, rfl, rfl, trivial⟩ hs_1 ?_
  rintro _ w_2 hs_2
  show CW _ _ _ _ [(1, (.pointer (some ⟨b_1, 0, none⟩))), (15, (.slice none 0 0)), (16, (.int .i64 (0 : Nat))), (17, (.int .i64 (0 : Nat)))] _
  refine .seq <| .region <| .e rfl (.lssN (a := 0) (b := 0) rfl rfl) <| .nil <| .seq <| .condF rfl (rfl) <| .exit0 <| .seq <| .region <| .s rfl rfl <| .s rfl rfl <| .nil <| .ret ?_
  show PostK _ _ _ _ _ _
  refine post2 rfl rfl rfl ?_
  have hs_3 : Sat w [] w_2 := hs_2.sub ((.cons _ .slnil))
  exact ⟨rfl, hs_3⟩
theorem r6nodes_n (av : Value) (l : List (ByteArray × Bool)) (w : World) (ha : RdL w av encAt l) :
    CallsV Tryz.prog 136 [(.slice none 0 0), (.agg #[av, (.slice none 0 0), (.slice none 0 0), (.slice none 0 0), (.slice none 0 0), (.slice none 0 0), (.slice none 0 0)])] w fun r w' => r = .tuple #[.int .i64 0, .int .i64 0] ∧ Sat w [] w' := by
  have hs0 := Sat.start w
  refine callsV_of Tryz.func136 rfl rfl ?_
  refine .seq <| .region <| .f rfl (.box hs0 rfl fun b_1 w_1 hs_1 hch_1 hb_1 => ?_)
  refine .s rfl rfl <| .s rfl rfl <| .nil <| .seq <| .seq <| .region <| .m rfl rfl <| .e rfl (.lenL (l := ([] : List Nat)) (E := encN .u8) Tryz.underlying94 rfl (RdL.nil _ _)) <| .e rfl (.gtrN (a := 0) (b := 2048) rfl rfl) <| .nil <| .condF rfl (rfl) <| .skip <| .seq <| .region <| .m rfl rfl <| .e rfl (.lenL (l := ([] : List Nat)) (E := encN .u8) Tryz.underlying94 rfl (RdL.nil _ _)) <| .f rfl (.makeL (encN .i64) (0) (l := 0) (c := 0) sl22 rfl hs_1 rfl rfl (by omega) (by omega) (by omega) fun v_1 w_2 hs_2 hch_2 => ?_)
  refine .s rfl rfl <| .nil <| .seq <| .seq <| .region <| .m rfl rfl <| .e rfl (.lenL (l := ([] : List Nat)) (E := encN .u8) Tryz.underlying94 rfl (RdL.nil _ _)) <| .m rfl rfl <| .nil <| .block <| .loop (α := Unit) (fun _ => [(0, (.slice none 0 0)), (3, (.pointer (some ⟨b_1, 0, none⟩))), (6, v_1), (18, (.slice none 0 0)), (19, (.int .i64 (0 : Nat))), (20, (.int .i64 (0 : Nat)))]) (fun _ w' => Sat w [cObj b_1 96 [av, (.slice none 0 0), (.slice none 0 0), (.slice none 0 0), (.slice none 0 0), (.slice none 0 0), (.slice none 0 0)], cL v_1 3 (encN .i64) ([])] w') (fun _ => 0) () ⟨rfl, rfl, rfl, rfl, rfl, rfl, trivial⟩ hs_2 ?_
  rintro _ w_3 hs_3
  show CW _ _ _ _ [(0, (.slice none 0 0)), (3, (.pointer (some ⟨b_1, 0, none⟩))), (6, v_1), (18, (.slice none 0 0)), (19, (.int .i64 (0 : Nat))), (20, (.int .i64 (0 : Nat)))] _
  refine .seq <| .region <| .e rfl (.lssN (a := 0) (b := 0) rfl rfl) <| .nil <| .seq <| .condF rfl (rfl) <| .exit0 <| .seq <| .region <| .s rfl rfl <| .s rfl rfl <| .nil <| .ret ?_
  show PostK _ _ _ _ _ _
  refine post2 rfl rfl rfl ?_
  have hs_4 : Sat w [] w_3 := hs_3.sub ((.cons _ (.cons _ .slnil)))
  exact ⟨rfl, hs_4⟩
theorem r6heads_n (av : Value) (l : List (ByteArray × Bool)) (w : World) (ha : RdL w av encAt l) :
    CallsV Tryz.prog 137 [(.agg #[av, (.slice none 0 0), (.slice none 0 0), (.slice none 0 0), (.slice none 0 0), (.slice none 0 0), (.slice none 0 0)])] w fun r w' => r = .tuple #[.int .i64 0, .int .i64 0] ∧ Sat w [] w' := by
  have hs0 := Sat.start w
  refine callsV_of Tryz.func137 rfl rfl ?_
  refine .seq <| .region <| .f rfl (.box hs0 rfl fun b_1 w_1 hs_1 hch_1 hb_1 => ?_)
  refine .s rfl rfl <| .s rfl rfl <| .nil <| .seq <| .region <| .e rfl (.fieldAddr fld96_5 rfl rfl) <| .e rfl (.load scal22 rfl (hs_1.cell (i := 0) (j := 5) rfl rfl)) <| .e rfl (.lenL (l := ([] : List Nat)) (E := encN .u8) Tryz.underlying22 rfl (RdL.nil _ _)) <| .s rfl rfl <| .nil <| .seq <| .seq <| .region <| .m rfl rfl <| .e rfl (.fieldAddr fld96_6 rfl rfl) <| .e rfl (.load scal61 rfl (hs_1.cell (i := 0) (j := 6) rfl rfl)) <| .e rfl (.lenL (l := ([] : List Nat)) (E := encN .u8) Tryz.underlying61 rfl (RdL.nil _ _)) <| .e rfl (.neqN (a := 0) (b := 0) rfl rfl) <| .m rfl rfl <| .yes rfl rfl rfl (rfl) <| .m rfl rfl <| .yes rfl rfl rfl (rfl) <| .e rfl (.neqN (a := 0) (b := 0) rfl rfl) <| .yes rfl rfl rfl (rfl) <| .m rfl rfl <| .no rfl rfl rfl (rfl) rfl <| .no rfl rfl rfl (rfl) rfl <| .no rfl rfl rfl (rfl) rfl <| .no rfl rfl rfl (rfl) rfl <| .no rfl rfl rfl (rfl) rfl <| .yes rfl rfl rfl (rfl) <| .e rfl (.pickN rfl (rfl) rfl) <| .e rfl (.pickN rfl (rfl) rfl) <| .nil <| .condF rfl (rfl) <| .skip <| .seq <| .seq <| .region <| .m rfl rfl <| .e rfl (.gtrN (a := 0) (b := 0) rfl rfl) <| .m rfl rfl <| .no rfl rfl rfl (rfl) rfl <| .no rfl rfl rfl (rfl) rfl <| .no rfl rfl rfl (rfl) rfl <| .no rfl rfl rfl (rfl) rfl <| .no rfl rfl rfl (rfl) rfl <| .e rfl (.pickN rfl (rfl) rfl) <| .nil <| .condF rfl (rfl) <| .skip <| .seq <| .seq <| .region <| .e rfl (.fieldAddr fld96_5 rfl rfl) <| .e rfl (.load scal22 rfl (hs_1.cell (i := 0) (j := 5) rfl rfl)) <| .e rfl (.lenL (l := ([] : List Nat)) (E := encN .u8) Tryz.underlying22 rfl (RdL.nil _ _)) <| .m rfl rfl <| .nil <| .block ?_
  refine .loop (α := Unit) (fun _ => [(1, (.pointer (some ⟨b_1, 0, none⟩))), (4, (.int .i64 (0 : Nat))), (36, (.slice none 0 0)), (37, (.int .i64 (0 : Nat))), (38, (.int .i64 (0 : Nat)))]) (fun _ w' => Sat w [cObj b_1 96 [av, (.slice none 0 0), (.slice none 0 0), (.slice none 0 0), (.slice none 0 0), (.slice none 0 0), (.slice none 0 0)]] w') (fun _ => 0) () ⟨rfl, rfl, rfl, rfl, rfl, trivial⟩ hs_1 ?_
  rintro _ w_2 hs_2
  show CW _ _ _ _ [(1, (.pointer (some ⟨b_1, 0, none⟩))), (4, (.int .i64 (0 : Nat))), (36, (.slice none 0 0)), (37, (.int .i64 (0 : Nat))), (38, (.int .i64 (0 : Nat)))] _
  refine .seq <| .region <| .e rfl (.lssN (a := 0) (b := 0) rfl rfl) <| .nil <| .seq <| .condF rfl (rfl) <| .exit0 <| .seq <| .region <| .s rfl rfl <| .s rfl rfl <| .nil <| .ret ?_
  show PostK _ _ _ _ _ _
  refine post2 rfl rfl rfl ?_
  have hs_3 : Sat w [] w_2 := hs_2.sub ((.cons _ .slnil))
  exact ⟨rfl, hs_3⟩
theorem r6validate_n (av : Value) (l : List (ByteArray × Bool)) (w : World) (ha : RdL w av encAt l) (hn : l.length ≤ 1000000) :
    CallsV Tryz.prog 97 [(.agg #[av, (.slice none 0 0), (.slice none 0 0), (.slice none 0 0), (.slice none 0 0), (.slice none 0 0), (.slice none 0 0)])] w fun r w' => ∃ i k e : Int, r = .tuple #[.int .i64 i, .int .i64 k, .int .i64 e] ∧ (e = 0 ↔ atsOk l) ∧ Sat w [] w' := by
  have hs0 := Sat.start w
  refine callsV_of Tryz.func97 rfl rfl ?_
  refine .seq <| .region <| .f rfl (.box hs0 rfl fun b_1 w_1 hs_1 hch_1 hb_1 => ?_)
  refine .s rfl rfl <| .s rfl rfl <| .s rfl rfl <| .nil <| .seq <| .seq <| .region <| .e rfl (.fieldAddr fld96_0 rfl rfl) <| .e rfl (.load scal23 rfl (hs_1.cell (i := 0) (j := 0) rfl rfl)) <| .f rfl (.call ent132 rfl ((r6attrs_n _ (l) _ (ha.ext hs_1.ext) hn).mono fun r_1 w_2 h_1 => ?_))
  obtain ⟨ri_1, re_1, rfl, hre_1, hp_1⟩ := h_1
  have hs_2 := hs_1.adds hp_1
  refine .m rfl rfl <| .e rfl (.extract rfl rfl) <| .e rfl (.extract rfl rfl) <| .s rfl rfl <| .s rfl rfl <| .nil <| .seq <| .region <| .m rfl rfl <| .e rfl (.neq rfl rfl) <| .nil <| .condD rfl (fun hc_1 => ?_) (fun hc_1 => ?_)
  · refine .seq <| .region <| .m rfl rfl <| .m rfl rfl <| .s rfl rfl <| .s rfl rfl <| .s rfl rfl <| .nil <| .ret ?_
    show PostK _ _ _ _ _ _
    refine post3 rfl rfl rfl rfl ?_
    have hs_3 : Sat w [] w_2 := hs_2.sub ((.cons _ .slnil))
    exact ⟨_, _, _, rfl, hre_1, hs_3⟩
  · refine .skip <| .seq <| .seq <| .region <| .e rfl (.ldObj agg96 rfl hs_2 (i := 0) rfl rfl) <| .f rfl (.call ent133 rfl ((r6tokens_n _ l _ (ha.ext hs_2.ext)).mono fun r_2 w_3 h_2 => ?_))
    obtain ⟨rfl, hp_2⟩ := h_2
    have hs_4 := hs_2.adds hp_2
    refine .m rfl rfl <| .e rfl (.extract rfl rfl) <| .e rfl (.extract rfl rfl) <| .s rfl rfl <| .s rfl rfl <| .nil <| .seq <| .region <| .m rfl rfl <| .e rfl (.neqN (a := 0) (b := 0) rfl rfl) <| .nil <| .condF rfl (rfl) <| .skip <| .seq <| .seq <| .region <| .e rfl (.ldObj agg96 rfl hs_4 (i := 0) rfl rfl) <| .f rfl (.call ent134 rfl ((r6texts_n _ l _ (ha.ext hs_4.ext)).mono fun r_3 w_4 h_3 => ?_))
    obtain ⟨rfl, hp_3⟩ := h_3
    have hs_5 := hs_4.adds hp_3
    refine .m rfl rfl <| .e rfl (.extract rfl rfl) <| .e rfl (.extract rfl rfl) <| .s rfl rfl <| .s rfl rfl <| .nil <| .seq <| .region <| .m rfl rfl <| .e rfl (.neqN (a := 0) (b := 0) rfl rfl) <| .nil <| .condF rfl (rfl) <| .skip <| .seq <| .seq <| .region <| .e rfl (.ldObj agg96 rfl hs_5 (i := 0) rfl rfl) <| .f rfl (.call ent135 rfl ((r6regions_n _ l _ (ha.ext hs_5.ext)).mono fun r_4 w_5 h_4 => ?_))
    obtain ⟨rfl, hp_4⟩ := h_4
    have hs_6 : Sat w [_] _ := hs_5.adds hp_4
    refine .m rfl rfl <| .e rfl (.extract rfl rfl) <| .e rfl (.extract rfl rfl) <| .s rfl rfl <| .s rfl rfl <| .nil <| .seq <| .region <| .m rfl rfl <| .e rfl (.neqN (a := 0) (b := 0) rfl rfl) <| .nil <| .condF rfl (rfl) <| .skip <| .seq <| .seq <| .weaken [(0, _), (1, _), (2, _), (3, _), (4, _), (5, _), (6, _), (7, _), (8, _), (9, _), (10, _), (11, _), (12, _), (24, _), (33, _), (42, _), (51, _)] ⟨rfl, rfl, rfl, rfl, rfl, rfl, rfl, rfl, rfl, rfl, rfl, rfl, rfl, rfl, rfl, rfl, rfl, trivial⟩ <| .region <| .e rfl (.fieldAddr fld96_4 rfl rfl) <| .e rfl (.load scal94 rfl (hs_6.cell (i := 0) (j := 4) rfl rfl)) <| .e rfl (.ldObj agg96 rfl hs_6 (i := 0) rfl rfl) <| .f rfl (.call ent136 rfl ((r6nodes_n _ l _ (ha.ext hs_6.ext)).mono fun r_5 w_6 h_5 => ?_))
    obtain ⟨rfl, hp_5⟩ := h_5
    have hs_7 := hs_6.adds hp_5
    refine .m rfl rfl <| .e rfl (.extract rfl rfl) <| .e rfl (.extract rfl rfl) <| .s rfl rfl <| .s rfl rfl <| .nil <| .seq <| .region <| .m rfl rfl <| .e rfl (.neqN (a := 0) (b := 0) rfl rfl) <| .nil <| .condF rfl (rfl) <| .skip <| .seq <| .seq <| .region <| .e rfl (.ldObj agg96 rfl hs_7 (i := 0) rfl rfl) <| .f rfl (.call ent137 rfl ((r6heads_n _ l _ (ha.ext hs_7.ext)).mono fun r_6 w_7 h_6 => ?_))
    obtain ⟨rfl, hp_6⟩ := h_6
    have hs_8 := hs_7.adds hp_6
    refine .m rfl rfl <| .e rfl (.extract rfl rfl) <| .e rfl (.extract rfl rfl) <| .s rfl rfl <| .s rfl rfl <| .nil <| .seq <| .region <| .m rfl rfl <| .e rfl (.neqN (a := 0) (b := 0) rfl rfl) <| .nil <| .condF rfl (rfl) <| .skip <| .seq <| .region <| .s rfl rfl <| .s rfl rfl <| .s rfl rfl <| .nil <| .ret ?_
    show PostK _ _ _ _ _ _
    refine post3 rfl rfl rfl rfl ?_
    have hs_9 : Sat w [] w_7 := hs_8.sub ((.cons _ .slnil))
    exact ⟨_, _, 0, rfl, ⟨fun _ => hre_1.1 (Decidable.not_not.1 hc_1), fun _ => rfl⟩, hs_9⟩
end Go.Proofs.YtecfgjdpghddgaaGreatDoor
