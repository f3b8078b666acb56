/- The walks of the functions of F42n, printed by our own program (kwgen.py) out of our descriptions (base.py). -/
import Derived.Test.YtecfgjdpghddgaaGreatDoorM42
import Derived.Test.YtecfgjdpghddgaaGreatDoorKp
import Derived.Test.YtecfgjdpghddgaaGreatDoorKc
import Derived.Test.YtecfgjdpghddgaaGreatDoorTab
set_option linter.unusedVariables false
set_option linter.unusedSimpArgs false
set_option linter.unusedSectionVars false
namespace Go.Proofs.YtecfgjdpghddgaaGreatDoor
open Go.RowKit Go.Kw
set_option maxRecDepth 100000
theorem begins_n (c : Nat) (w : World) :
    CallsV Tryz.prog 124 [(.int .u8 c)] w fun r w' => r = .bool (nmF c) ∧ Sat w [] w' := by
  have hs0 := Sat.start w
  refine callsV_of Tryz.func124 rfl rfl ?_
  refine .seq <| .region <| .s rfl rfl <| .nil <| .seq <| .mid (fun L' w' => Weak [(0, (.int .u8 c)), (2, (.bool (decide ((((65 ≤ c) ∧ (c ≤ 90)) ∨ ((97 ≤ c) ∧ (c ≤ 122))) ∨ (c = 95)))))] L' ∧ Sat w [] w') ?_ ?_
  · refine .region <| .m rfl rfl <| .e rfl (.geqN (b := 65) rfl rfl) <| .m rfl rfl ?_
    by_cases hg_1 : 65 ≤ c
    · refine .yes rfl rfl rfl (decide_eq_true hg_1) <| .m rfl rfl <| .yes rfl rfl rfl (decide_eq_true hg_1) <| .e rfl (.leqN (b := 90) rfl rfl) <| .e rfl (.pickY rfl (decide_eq_true hg_1) rfl) <| .m rfl rfl ?_
      by_cases hg_2 : c ≤ 90
      · refine .no rfl rfl rfl (decide_eq_true hg_2) rfl <| .no rfl rfl rfl (decide_eq_true hg_2) rfl <| .no rfl rfl rfl (decide_eq_true hg_2) rfl <| .noU rfl rfl rfl rfl <| .noU rfl rfl rfl rfl <| .no rfl rfl rfl (decide_eq_true hg_2) rfl <| .e rfl (.pickY rfl (decide_eq_true hg_2) rfl) <| .m rfl rfl <| .no rfl rfl rfl (rfl) rfl <| .no rfl rfl rfl (rfl) rfl <| .e rfl (.pickY rfl (rfl) rfl) <| .s rfl rfl <| .nil ?_
        exact ⟨⟨rfl, congrArg some (congrArg Value.bool (by simp [hg_1, hg_2])), trivial⟩, hs0⟩
      · refine .yes rfl rfl rfl (decide_eq_false hg_2) <| .m rfl rfl <| .yes rfl rfl rfl (decide_eq_false hg_2) <| .e rfl (.geqN (b := 97) rfl rfl) <| .yes rfl rfl rfl (decide_eq_false hg_2) <| .m rfl rfl ?_
        by_cases hg_3 : 97 ≤ c
        · refine .yes rfl rfl rfl (decide_eq_true hg_3) <| .m rfl rfl <| .yes rfl rfl rfl (decide_eq_true hg_3) <| .e rfl (.leqN (b := 122) rfl rfl) <| .yes rfl rfl rfl (decide_eq_false hg_2) <| .e rfl (.pickY rfl (decide_eq_true hg_3) rfl) <| .e rfl (.pickN rfl (decide_eq_false hg_2) rfl) <| .m rfl rfl ?_
          by_cases hg_4 : c ≤ 122
          · refine .no rfl rfl rfl (decide_eq_true hg_4) rfl <| .no rfl rfl rfl (decide_eq_true hg_4) rfl <| .e rfl (.pickY rfl (decide_eq_true hg_4) rfl) <| .s rfl rfl <| .nil ?_
            exact ⟨⟨rfl, congrArg some (congrArg Value.bool (by simp [hg_1, hg_2, hg_3, hg_4])), trivial⟩, hs0⟩
          · refine .yes rfl rfl rfl (decide_eq_false hg_4) <| .m rfl rfl <| .yes rfl rfl rfl (decide_eq_false hg_4) <| .e rfl (.eqlN (b := 95) rfl rfl) <| .e rfl (.pickN rfl (decide_eq_false hg_4) rfl) <| .s rfl rfl <| .nil ?_
            exact ⟨⟨rfl, congrArg some (congrArg Value.bool (by simp [hg_1, hg_2, hg_3, hg_4])), trivial⟩, hs0⟩
        · refine .no rfl rfl rfl (decide_eq_false hg_3) rfl <| .no rfl rfl rfl (decide_eq_false hg_3) rfl <| .yes rfl rfl rfl (decide_eq_false hg_2) <| .e rfl (.pickN rfl (decide_eq_false hg_3) rfl) <| .e rfl (.pickN rfl (decide_eq_false hg_2) rfl) <| .m rfl rfl <| .yes rfl rfl rfl (rfl) <| .m rfl rfl <| .yes rfl rfl rfl (rfl) <| .e rfl (.eqlN (b := 95) rfl rfl) <| .e rfl (.pickN rfl (rfl) rfl) <| .s rfl rfl <| .nil ?_
          exact ⟨⟨rfl, congrArg some (congrArg Value.bool (by simp [hg_1, hg_2, hg_3])), trivial⟩, hs0⟩
    · refine .no rfl rfl rfl (decide_eq_false hg_1) rfl <| .no rfl rfl rfl (decide_eq_false hg_1) rfl <| .e rfl (.pickN rfl (decide_eq_false hg_1) rfl) <| .m rfl rfl <| .yes rfl rfl rfl (rfl) <| .m rfl rfl <| .yes rfl rfl rfl (rfl) <| .e rfl (.geqN (b := 97) rfl rfl) <| .yes rfl rfl rfl (rfl) <| .m rfl rfl ?_
      by_cases hg_5 : 97 ≤ c
      · refine .yes rfl rfl rfl (decide_eq_true hg_5) <| .m rfl rfl <| .yes rfl rfl rfl (decide_eq_true hg_5) <| .e rfl (.leqN (b := 122) rfl rfl) <| .yes rfl rfl rfl (rfl) <| .e rfl (.pickY rfl (decide_eq_true hg_5) rfl) <| .e rfl (.pickN rfl (rfl) rfl) <| .m rfl rfl ?_
        by_cases hg_6 : c ≤ 122
        · refine .no rfl rfl rfl (decide_eq_true hg_6) rfl <| .no rfl rfl rfl (decide_eq_true hg_6) rfl <| .e rfl (.pickY rfl (decide_eq_true hg_6) rfl) <| .s rfl rfl <| .nil ?_
          exact ⟨⟨rfl, congrArg some (congrArg Value.bool (by simp [hg_1, hg_5, hg_6])), trivial⟩, hs0⟩
        · refine .yes rfl rfl rfl (decide_eq_false hg_6) <| .m rfl rfl <| .yes rfl rfl rfl (decide_eq_false hg_6) <| .e rfl (.eqlN (b := 95) rfl rfl) <| .e rfl (.pickN rfl (decide_eq_false hg_6) rfl) <| .s rfl rfl <| .nil ?_
          exact ⟨⟨rfl, congrArg some (congrArg Value.bool (by simp [hg_1, hg_5, hg_6])), trivial⟩, hs0⟩
      · refine .no rfl rfl rfl (decide_eq_false hg_5) rfl <| .no rfl rfl rfl (decide_eq_false hg_5) rfl <| .yes rfl rfl rfl (rfl) <| .e rfl (.pickN rfl (decide_eq_false hg_5) rfl) <| .e rfl (.pickN rfl (rfl) rfl) <| .m rfl rfl <| .yes rfl rfl rfl (rfl) <| .m rfl rfl <| .yes rfl rfl rfl (rfl) <| .e rfl (.eqlN (b := 95) rfl rfl) <| .e rfl (.pickN rfl (rfl) rfl) <| .s rfl rfl <| .nil ?_
        exact ⟨⟨rfl, congrArg some (congrArg Value.bool (by simp [hg_1, hg_5])), trivial⟩, hs0⟩
  · rintro L' w_1 ⟨hw_1, hs_1⟩
    refine .weaken _ hw_1 <| .ret ?_
    show PostK _ _ _ _ _ _
    refine post1 rfl rfl ?_
    exact ⟨congrArg Value.bool (by unfold nmF; exact decide_eq_decide.2 (by omega)), hs_1⟩
theorem goesOn_n (c : Nat) (w : World) :
    CallsV Tryz.prog 125 [(.int .u8 c)] w fun r w' => r = .bool (nmN c) ∧ Sat w [] w' := by
  have hs0 := Sat.start w
  refine callsV_of Tryz.func125 rfl rfl ?_
  refine .seq <| .region <| .s rfl rfl <| .nil <| .seq <| .mid (fun L' w' => Weak [(0, (.int .u8 c)), (2, (.bool (decide ((((nmF c) = true) ∨ ((48 ≤ c) ∧ (c ≤ 57))) ∨ (c = 45)))))] L' ∧ Sat w [] w') ?_ ?_
  · refine .region <| .m rfl rfl <| .f rfl (.call ent124 rfl ((begins_n (c) _).mono fun r_1 w_1 h_1 => ?_))
    obtain ⟨rfl, hp_1⟩ := h_1
    have hs_1 := hs0.adds hp_1
    refine .m rfl rfl ?_
    by_cases hg_1 : (nmF c) = true
    · refine .no rfl rfl rfl (hg_1) rfl <| .no rfl rfl rfl (hg_1) rfl <| .no rfl rfl rfl (hg_1) rfl <| .noU rfl rfl rfl rfl <| .noU rfl rfl rfl rfl <| .no rfl rfl rfl (hg_1) rfl <| .e rfl (.pickY rfl (hg_1) rfl) <| .m rfl rfl <| .no rfl rfl rfl (rfl) rfl <| .no rfl rfl rfl (rfl) rfl <| .e rfl (.pickY rfl (rfl) rfl) <| .s rfl rfl <| .nil ?_
      exact ⟨⟨rfl, congrArg some (congrArg Value.bool (by simp [hg_1])), trivial⟩, hs_1⟩
    · refine .yes rfl rfl rfl (by simpa using hg_1) <| .m rfl rfl <| .yes rfl rfl rfl (by simpa using hg_1) <| .e rfl (.geqN (b := 48) rfl rfl) <| .yes rfl rfl rfl (by simpa using hg_1) <| .m rfl rfl ?_
      by_cases hg_2 : 48 ≤ c
      · refine .yes rfl rfl rfl (decide_eq_true hg_2) <| .m rfl rfl <| .yes rfl rfl rfl (decide_eq_true hg_2) <| .e rfl (.leqN (b := 57) rfl rfl) <| .yes rfl rfl rfl (by simpa using hg_1) <| .e rfl (.pickY rfl (decide_eq_true hg_2) rfl) <| .e rfl (.pickN rfl (by simpa using hg_1) rfl) <| .m rfl rfl ?_
        by_cases hg_3 : c ≤ 57
        · refine .no rfl rfl rfl (decide_eq_true hg_3) rfl <| .no rfl rfl rfl (decide_eq_true hg_3) rfl <| .e rfl (.pickY rfl (decide_eq_true hg_3) rfl) <| .s rfl rfl <| .nil ?_
          exact ⟨⟨rfl, congrArg some (congrArg Value.bool (by simp [hg_1, hg_2, hg_3])), trivial⟩, hs_1⟩
        · refine .yes rfl rfl rfl (decide_eq_false hg_3) <| .m rfl rfl <| .yes rfl rfl rfl (decide_eq_false hg_3) <| .e rfl (.eqlN (b := 45) rfl rfl) <| .e rfl (.pickN rfl (decide_eq_false hg_3) rfl) <| .s rfl rfl <| .nil ?_
          exact ⟨⟨rfl, congrArg some (congrArg Value.bool (by simp [hg_1, hg_2, hg_3])), trivial⟩, hs_1⟩
      · refine .no rfl rfl rfl (decide_eq_false hg_2) rfl <| .no rfl rfl rfl (decide_eq_false hg_2) rfl <| .yes rfl rfl rfl (by simpa using hg_1) <| .e rfl (.pickN rfl (decide_eq_false hg_2) rfl) <| .e rfl (.pickN rfl (by simpa using hg_1) rfl) <| .m rfl rfl <| .yes rfl rfl rfl (rfl) <| .m rfl rfl <| .yes rfl rfl rfl (rfl) <| .e rfl (.eqlN (b := 45) rfl rfl) <| .e rfl (.pickN rfl (rfl) rfl) <| .s rfl rfl <| .nil ?_
        exact ⟨⟨rfl, congrArg some (congrArg Value.bool (by simp [hg_1, hg_2])), trivial⟩, hs_1⟩
  · rintro L' w_2 ⟨hw_1, hs_2⟩
    refine .weaken _ hw_1 <| .ret ?_
    show PostK _ _ _ _ _ _
    refine post1 rfl rfl ?_
    exact ⟨congrArg Value.bool (by unfold nmN; exact decide_eq_decide.2 ⟨fun h => h.elim (fun h => h.elim .inl (fun h => .inr (.inl h))) (fun h => .inr (.inr h)), fun h => h.elim (fun h => .inl (.inl h)) (fun h => h.elim (fun h => .inl (.inr h)) .inr)⟩), hs_2⟩
theorem rfirst_n (c : Nat) (w : World) :
    CallsV Tryz.prog 98 [(.int .u8 c)] w fun r w' => r = .bool (nmF c) ∧ Sat w [] w' := by
  have hs0 := Sat.start w
  refine callsV_of Tryz.func98 rfl rfl ?_
  refine .seq <| .region <| .s rfl rfl <| .nil <| .seq <| .mid (fun L' w' => Weak [(0, (.int .u8 c)), (2, (.bool (decide (((c = 95) ∨ ((65 ≤ c) ∧ (c ≤ 90))) ∨ ((97 ≤ c) ∧ (c ≤ 122))))))] L' ∧ Sat w [] w') ?_ ?_
  · refine .region <| .m rfl rfl <| .e rfl (.eqlN (b := 95) rfl rfl) <| .m rfl rfl ?_
    by_cases hg_1 : c = 95
    · refine .no rfl rfl rfl (decide_eq_true hg_1) rfl <| .no rfl rfl rfl (decide_eq_true hg_1) rfl <| .no rfl rfl rfl (decide_eq_true hg_1) rfl <| .noU rfl rfl rfl rfl <| .noU rfl rfl rfl rfl <| .no rfl rfl rfl (decide_eq_true hg_1) rfl <| .e rfl (.pickY rfl (decide_eq_true hg_1) rfl) <| .m rfl rfl <| .no rfl rfl rfl (rfl) rfl <| .no rfl rfl rfl (rfl) rfl <| .no rfl rfl rfl (rfl) rfl <| .noU rfl rfl rfl rfl <| .noU rfl rfl rfl rfl <| .no rfl rfl rfl (rfl) rfl <| .e rfl (.pickY rfl (rfl) rfl) <| .s rfl rfl <| .nil ?_
      exact ⟨⟨rfl, congrArg some (congrArg Value.bool (by simp [hg_1])), trivial⟩, hs0⟩
    · refine .yes rfl rfl rfl (decide_eq_false hg_1) <| .m rfl rfl <| .yes rfl rfl rfl (decide_eq_false hg_1) <| .e rfl (.geqN (b := 65) rfl rfl) <| .yes rfl rfl rfl (decide_eq_false hg_1) <| .m rfl rfl ?_
      by_cases hg_2 : 65 ≤ c
      · refine .yes rfl rfl rfl (decide_eq_true hg_2) <| .m rfl rfl <| .yes rfl rfl rfl (decide_eq_true hg_2) <| .e rfl (.leqN (b := 90) rfl rfl) <| .yes rfl rfl rfl (decide_eq_false hg_1) <| .e rfl (.pickY rfl (decide_eq_true hg_2) rfl) <| .e rfl (.pickN rfl (decide_eq_false hg_1) rfl) <| .m rfl rfl ?_
        by_cases hg_3 : c ≤ 90
        · refine .no rfl rfl rfl (decide_eq_true hg_3) rfl <| .no rfl rfl rfl (decide_eq_true hg_3) rfl <| .no rfl rfl rfl (decide_eq_true hg_3) rfl <| .noU rfl rfl rfl rfl <| .noU rfl rfl rfl rfl <| .no rfl rfl rfl (decide_eq_true hg_3) rfl <| .e rfl (.pickY rfl (decide_eq_true hg_3) rfl) <| .s rfl rfl <| .nil ?_
          exact ⟨⟨rfl, congrArg some (congrArg Value.bool (by simp [hg_1, hg_2, hg_3])), trivial⟩, hs0⟩
        · refine .yes rfl rfl rfl (decide_eq_false hg_3) <| .m rfl rfl <| .yes rfl rfl rfl (decide_eq_false hg_3) <| .e rfl (.geqN (b := 97) rfl rfl) <| .yes rfl rfl rfl (decide_eq_false hg_3) <| .m rfl rfl ?_
          by_cases hg_4 : 97 ≤ c
          · refine .yes rfl rfl rfl (decide_eq_true hg_4) <| .m rfl rfl <| .yes rfl rfl rfl (decide_eq_true hg_4) <| .e rfl (.leqN (b := 122) rfl rfl) <| .yes rfl rfl rfl (decide_eq_false hg_3) <| .e rfl (.pickY rfl (decide_eq_true hg_4) rfl) <| .e rfl (.pickN rfl (decide_eq_false hg_3) rfl) <| .s rfl rfl <| .nil ?_
            exact ⟨⟨rfl, congrArg some (congrArg Value.bool (by simp [hg_1, hg_2, hg_3, hg_4])), trivial⟩, hs0⟩
          · refine .no rfl rfl rfl (decide_eq_false hg_4) rfl <| .no rfl rfl rfl (decide_eq_false hg_4) rfl <| .yes rfl rfl rfl (decide_eq_false hg_3) <| .e rfl (.pickN rfl (decide_eq_false hg_4) rfl) <| .e rfl (.pickN rfl (decide_eq_false hg_3) rfl) <| .s rfl rfl <| .nil ?_
            exact ⟨⟨rfl, congrArg some (congrArg Value.bool (by simp [hg_1, hg_2, hg_3, hg_4])), trivial⟩, hs0⟩
      · refine .no rfl rfl rfl (decide_eq_false hg_2) rfl <| .no rfl rfl rfl (decide_eq_false hg_2) rfl <| .yes rfl rfl rfl (decide_eq_false hg_1) <| .e rfl (.pickN rfl (decide_eq_false hg_2) rfl) <| .e rfl (.pickN rfl (decide_eq_false hg_1) rfl) <| .m rfl rfl <| .yes rfl rfl rfl (rfl) <| .m rfl rfl <| .yes rfl rfl rfl (rfl) <| .e rfl (.geqN (b := 97) rfl rfl) <| .yes rfl rfl rfl (rfl) <| .m rfl rfl ?_
        by_cases hg_5 : 97 ≤ c
        · refine .yes rfl rfl rfl (decide_eq_true hg_5) <| .m rfl rfl <| .yes rfl rfl rfl (decide_eq_true hg_5) <| .e rfl (.leqN (b := 122) rfl rfl) <| .yes rfl rfl rfl (rfl) <| .e rfl (.pickY rfl (decide_eq_true hg_5) rfl) <| .e rfl (.pickN rfl (rfl) rfl) <| .s rfl rfl <| .nil ?_
          exact ⟨⟨rfl, congrArg some (congrArg Value.bool (by simp [hg_1, hg_2, hg_5])), trivial⟩, hs0⟩
        · refine .no rfl rfl rfl (decide_eq_false hg_5) rfl <| .no rfl rfl rfl (decide_eq_false hg_5) rfl <| .yes rfl rfl rfl (rfl) <| .e rfl (.pickN rfl (decide_eq_false hg_5) rfl) <| .e rfl (.pickN rfl (rfl) rfl) <| .s rfl rfl <| .nil ?_
          exact ⟨⟨rfl, congrArg some (congrArg Value.bool (by simp [hg_1, hg_2, hg_5])), trivial⟩, hs0⟩
  · rintro L' w_1 ⟨hw_1, hs_1⟩
    refine .weaken _ hw_1 <| .ret ?_
    show PostK _ _ _ _ _ _
    refine post1 rfl rfl ?_
    exact ⟨congrArg Value.bool (by unfold nmF; exact decide_eq_decide.2 (by omega)), hs_1⟩
theorem rnext_n (c : Nat) (w : World) :
    CallsV Tryz.prog 99 [(.int .u8 c)] w fun r w' => r = .bool (nmN c) ∧ Sat w [] w' := by
  have hs0 := Sat.start w
  refine callsV_of Tryz.func99 rfl rfl ?_
  refine .seq <| .region <| .s rfl rfl <| .nil <| .seq <| .mid (fun L' w' => Weak [(0, (.int .u8 c)), (2, (.bool (decide ((((nmF c) = true) ∨ ((48 ≤ c) ∧ (c ≤ 57))) ∨ (c = 45)))))] L' ∧ Sat w [] w') ?_ ?_
  · refine .region <| .m rfl rfl <| .f rfl (.call ent98 rfl ((rfirst_n (c) _).mono fun r_1 w_1 h_1 => ?_))
    obtain ⟨rfl, hp_1⟩ := h_1
    have hs_1 := hs0.adds hp_1
    refine .m rfl rfl ?_
    by_cases hg_1 : (nmF c) = true
    · refine .no rfl rfl rfl (hg_1) rfl <| .no rfl rfl rfl (hg_1) rfl <| .no rfl rfl rfl (hg_1) rfl <| .noU rfl rfl rfl rfl <| .noU rfl rfl rfl rfl <| .no rfl rfl rfl (hg_1) rfl <| .e rfl (.pickY rfl (hg_1) rfl) <| .m rfl rfl <| .no rfl rfl rfl (rfl) rfl <| .no rfl rfl rfl (rfl) rfl <| .e rfl (.pickY rfl (rfl) rfl) <| .s rfl rfl <| .nil ?_
      exact ⟨⟨rfl, congrArg some (congrArg Value.bool (by simp [hg_1])), trivial⟩, hs_1⟩
    · refine .yes rfl rfl rfl (by simpa using hg_1) <| .m rfl rfl <| .yes rfl rfl rfl (by simpa using hg_1) <| .e rfl (.geqN (b := 48) rfl rfl) <| .yes rfl rfl rfl (by simpa using hg_1) <| .m rfl rfl ?_
      by_cases hg_2 : 48 ≤ c
      · refine .yes rfl rfl rfl (decide_eq_true hg_2) <| .m rfl rfl <| .yes rfl rfl rfl (decide_eq_true hg_2) <| .e rfl (.leqN (b := 57) rfl rfl) <| .yes rfl rfl rfl (by simpa using hg_1) <| .e rfl (.pickY rfl (decide_eq_true hg_2) rfl) <| .e rfl (.pickN rfl (by simpa using hg_1) rfl) <| .m rfl rfl ?_
        by_cases hg_3 : c ≤ 57
        · refine .no rfl rfl rfl (decide_eq_true hg_3) rfl <| .no rfl rfl rfl (decide_eq_true hg_3) rfl <| .e rfl (.pickY rfl (decide_eq_true hg_3) rfl) <| .s rfl rfl <| .nil ?_
          exact ⟨⟨rfl, congrArg some (congrArg Value.bool (by simp [hg_1, hg_2, hg_3])), trivial⟩, hs_1⟩
        · refine .yes rfl rfl rfl (decide_eq_false hg_3) <| .m rfl rfl <| .yes rfl rfl rfl (decide_eq_false hg_3) <| .e rfl (.eqlN (b := 45) rfl rfl) <| .e rfl (.pickN rfl (decide_eq_false hg_3) rfl) <| .s rfl rfl <| .nil ?_
          exact ⟨⟨rfl, congrArg some (congrArg Value.bool (by simp [hg_1, hg_2, hg_3])), trivial⟩, hs_1⟩
      · refine .no rfl rfl rfl (decide_eq_false hg_2) rfl <| .no rfl rfl rfl (decide_eq_false hg_2) rfl <| .yes rfl rfl rfl (by simpa using hg_1) <| .e rfl (.pickN rfl (decide_eq_false hg_2) rfl) <| .e rfl (.pickN rfl (by simpa using hg_1) rfl) <| .m rfl rfl <| .yes rfl rfl rfl (rfl) <| .m rfl rfl <| .yes rfl rfl rfl (rfl) <| .e rfl (.eqlN (b := 45) rfl rfl) <| .e rfl (.pickN rfl (rfl) rfl) <| .s rfl rfl <| .nil ?_
        exact ⟨⟨rfl, congrArg some (congrArg Value.bool (by simp [hg_1, hg_2])), trivial⟩, hs_1⟩
  · rintro L' w_2 ⟨hw_1, hs_2⟩
    refine .weaken _ hw_1 <| .ret ?_
    show PostK _ _ _ _ _ _
    refine post1 rfl rfl ?_
    exact ⟨congrArg Value.bool (by unfold nmN; exact decide_eq_decide.2 ⟨fun h => h.elim (fun h => h.elim .inl (fun h => .inr (.inl h))) (fun h => .inr (.inr h)), fun h => h.elim (fun h => .inl (.inl h)) (fun h => h.elim (fun h => .inl (.inr h)) .inr)⟩), hs_2⟩
theorem validName_n (s : ByteArray) (w : World) :
    CallsV Tryz.prog 89 [(.string s)] w fun r w' => r = .bool (nameB s) ∧ Sat w [] w' := by
  have hs0 := Sat.start w
  refine callsV_of Tryz.func89 rfl rfl ?_
  refine .seq <| .region <| .s rfl rfl <| .nil <| .seq <| .seq ?_
  obtain ⟨b0, hb0⟩ : ∃ b0, 1 ≤ s.size → s.data.toList[0]? = some b0 := by rcases Nat.lt_or_ge s.size 1 with h | h; exact ⟨0, fun h9 => absurd h9 (by omega)⟩; exact ⟨_, fun _ => List.getElem?_eq_getElem (show 0 < s.data.toList.length from h)⟩
  refine .mid (fun L' w' => Weak [(0, (.string s)), (2, (.bool false)), (17, (.bool (decide (((s.size < 1) ∨ (32 < s.size)) ∨ ((!(nmF b0.toNat)) = true)))))] L' ∧ Sat w [] w') ?_ ?_
  · refine .region <| .m rfl rfl <| .e rfl (.lenStr Tryz.underlying9 rfl) <| .e rfl (.lssN (b := 1) rfl rfl) <| .m rfl rfl ?_
    by_cases hg_1 : s.size < 1
    · refine .no rfl rfl rfl (decide_eq_true hg_1) rfl <| .no rfl rfl rfl (decide_eq_true hg_1) rfl <| .no rfl rfl rfl (decide_eq_true hg_1) rfl <| .e rfl (.pickY rfl (decide_eq_true hg_1) rfl) <| .m rfl rfl <| .no rfl rfl rfl (rfl) rfl <| .no rfl rfl rfl (rfl) rfl <| .no rfl rfl rfl (rfl) rfl <| .no rfl rfl rfl (rfl) rfl <| .e rfl (.pickY rfl (rfl) rfl) <| .nil ?_
      exact ⟨⟨rfl, rfl, congrArg some (congrArg Value.bool (by simp [hg_1])), trivial⟩, hs0⟩
    · refine .yes rfl rfl rfl (decide_eq_false hg_1) <| .m rfl rfl <| .yes rfl rfl rfl (decide_eq_false hg_1) <| .e rfl (.lenStr Tryz.underlying9 rfl) <| .yes rfl rfl rfl (decide_eq_false hg_1) <| .e rfl (.gtrN (b := 32) rfl rfl) <| .e rfl (.pickN rfl (decide_eq_false hg_1) rfl) <| .m rfl rfl ?_
      by_cases hg_2 : 32 < s.size
      · refine .no rfl rfl rfl (decide_eq_true hg_2) rfl <| .no rfl rfl rfl (decide_eq_true hg_2) rfl <| .no rfl rfl rfl (decide_eq_true hg_2) rfl <| .no rfl rfl rfl (decide_eq_true hg_2) rfl <| .e rfl (.pickY rfl (decide_eq_true hg_2) rfl) <| .nil ?_
        exact ⟨⟨rfl, rfl, congrArg some (congrArg Value.bool (by simp [hg_1, hg_2])), trivial⟩, hs0⟩
      · refine .yes rfl rfl rfl (decide_eq_false hg_2) <| .m rfl rfl <| .yes rfl rfl rfl (decide_eq_false hg_2) <| .e rfl (.idxStr Tryz.underlying9 rfl rfl (hb0 (by omega))) <| .yes rfl rfl rfl (decide_eq_false hg_2) <| .f rfl (.call ent124 rfl ((begins_n (b0.toNat) _).mono fun r_1 w_1 h_1 => ?_))
        obtain ⟨rfl, hp_1⟩ := h_1
        have hs_1 := hs0.adds hp_1
        refine .yes rfl rfl rfl (decide_eq_false hg_2) <| .e rfl (.notB rfl) <| .e rfl (.pickN rfl (decide_eq_false hg_2) rfl) <| .nil ?_
        exact ⟨⟨rfl, rfl, congrArg some (congrArg Value.bool (by simp [hg_1, hg_2])), trivial⟩, hs_1⟩
  · rintro L' w_2 ⟨hw_1, hs_2⟩
    refine .weaken _ hw_1 <| .condD rfl (fun hc_1 => ?_) (fun hc_1 => ?_)
    · refine .seq <| .region <| .s rfl rfl <| .nil <| .ret ?_
      show PostK _ _ _ _ _ _
      refine post1 rfl rfl ?_
      have hno : nameB s = false := by
        have h9 := hc_1
        rcases Nat.lt_or_ge s.size 1 with h1 | h1
        · exact nameB_nil h1
        · rcases Nat.lt_or_ge 32 s.size with h2 | h2
          · exact nameB_long h2
          · have h3 : nmF b0.toNat = false := by
              rcases h9 with h9 | h9
              · omega
              · simpa using h9
            unfold nameB; rw [nameL_first (hb0 h1) h3, Bool.and_false]
      exact ⟨by rw [hno], hs_2⟩
    · refine .skip <| .seq <| .seq ?_
      have hok1 : 1 ≤ s.size ∧ s.size ≤ 32 ∧ nmF b0.toNat = true := by have h9 := hc_1; simp only [not_or] at h9; exact ⟨by omega, by omega, by simpa using h9.2⟩
      have hb00 := hb0 hok1.1
      refine .region <| .m rfl rfl <| .e rfl (.lenStr Tryz.underlying9 rfl) <| .m rfl rfl <| .nil <| .block <| .loop (α := Nat) (fun k => [(0, (.string s)), (19, (.int .i64 s.size)), (20, (.int .i64 k))]) (fun k w' => Sat w [] w' ∧ (k ≤ s.size) ∧ (∀ (i : Nat) (d : UInt8), s.data.toList[i]? = some d → 0 < i → i < k → nmN d.toNat = true)) (fun k => s.size - k) 0 ⟨rfl, rfl, rfl, trivial⟩ ⟨hs_2, by omega, fun i d _ h1 h2 => absurd h2 (by omega)⟩ ?_
      rintro k w_3 ⟨hs_3, hk, hall⟩
      show CW _ _ _ _ [(0, (.string s)), (19, (.int .i64 s.size)), (20, (.int .i64 k))] _
      refine .seq <| .region <| .e rfl (.lssN rfl rfl) <| .nil <| .seq <| .condD rfl (fun hc_2 => ?_) (fun hc_2 => ?_)
      · refine .skip <| .seq <| .block <| .seq <| .region <| .m rfl rfl <| .s rfl rfl <| .nil <| .seq ?_
        obtain ⟨x, hx⟩ : ∃ x, s.data.toList[k]? = some x := ⟨_, List.getElem?_eq_getElem (show k < s.data.toList.length from hc_2)⟩
        refine .region <| .m rfl rfl <| .m rfl rfl <| .e rfl (.idxStr Tryz.underlying9 rfl rfl hx) <| .f rfl (.call ent125 rfl ((goesOn_n (x.toNat) _).mono fun r_2 w_4 h_2 => ?_))
        obtain ⟨rfl, hp_2⟩ := h_2
        have hs_4 := hs_3.adds hp_2
        refine .e rfl (.notB rfl) <| .nil <| .cond rfl (fun hc_3 => ?_) (fun hc_3 => ?_)
        · refine .seq <| .region <| .s rfl rfl <| .nil <| .ret ?_
          show PostK _ _ _ _ _ _
          refine post1 rfl rfl ?_
          exact ⟨by unfold nameB; rw [nameL_bad hx (by simpa using hc_3), Bool.and_false], hs_4⟩
        · refine .skip <| .region <| .e rfl (.addI (b := 1) rfl rfl (by omega)) <| .m rfl rfl <| .nil ?_
          exact ⟨k + 1, ⟨rfl, rfl, rfl, trivial⟩, ⟨hs_4, by omega, fun i d hd h1 h2 => by
      by_cases hik : i = k
      · subst hik; rw [hx] at hd; cases hd; simpa using hc_3
      · exact hall i d hd h1 (by omega)⟩, (show (s.size - (k + 1)) < (s.size - k) from by omega)⟩
      · refine .exit0 <| .seq <| .region <| .s rfl rfl <| .nil <| .ret ?_
        show PostK _ _ _ _ _ _
        refine post1 rfl rfl ?_
        exact ⟨by unfold nameB; rw [nameL_good hb00 hok1.2.2 (fun i d hd hi => hall i d hd hi (by have h8 := (List.getElem?_eq_some_iff.1 hd).1; have h7 : s.data.toList.length = s.size := rfl; omega)), decide_eq_true hok1.2.1]; rfl, hs_3⟩
theorem rvalidName_n (s : ByteArray) (w : World) :
    CallsV Tryz.prog 58 [(.string s)] w fun r w' => r = .bool (nameB s) ∧ Sat w [] w' := by
  have hs0 := Sat.start w
  refine callsV_of Tryz.func58 rfl rfl ?_
  refine .seq <| .region <| .s rfl rfl <| .nil <| .seq <| .seq ?_
  obtain ⟨b0, hb0⟩ : ∃ b0, 1 ≤ s.size → s.data.toList[0]? = some b0 := by rcases Nat.lt_or_ge s.size 1 with h | h; exact ⟨0, fun h9 => absurd h9 (by omega)⟩; exact ⟨_, fun _ => List.getElem?_eq_getElem (show 0 < s.data.toList.length from h)⟩
  refine .mid (fun L' w' => Weak [(0, (.string s)), (2, (.bool false)), (17, (.bool (decide (((s.size < 1) ∨ (32 < s.size)) ∨ ((!(nmF b0.toNat)) = true)))))] L' ∧ Sat w [] w') ?_ ?_
  · refine .region <| .m rfl rfl <| .e rfl (.lenStr Tryz.underlying9 rfl) <| .e rfl (.lssN (b := 1) rfl rfl) <| .m rfl rfl ?_
    by_cases hg_1 : s.size < 1
    · refine .no rfl rfl rfl (decide_eq_true hg_1) rfl <| .no rfl rfl rfl (decide_eq_true hg_1) rfl <| .no rfl rfl rfl (decide_eq_true hg_1) rfl <| .e rfl (.pickY rfl (decide_eq_true hg_1) rfl) <| .m rfl rfl <| .no rfl rfl rfl (rfl) rfl <| .no rfl rfl rfl (rfl) rfl <| .no rfl rfl rfl (rfl) rfl <| .no rfl rfl rfl (rfl) rfl <| .e rfl (.pickY rfl (rfl) rfl) <| .nil ?_
      exact ⟨⟨rfl, rfl, congrArg some (congrArg Value.bool (by simp [hg_1])), trivial⟩, hs0⟩
    · refine .yes rfl rfl rfl (decide_eq_false hg_1) <| .m rfl rfl <| .yes rfl rfl rfl (decide_eq_false hg_1) <| .e rfl (.lenStr Tryz.underlying9 rfl) <| .yes rfl rfl rfl (decide_eq_false hg_1) <| .e rfl (.gtrN (b := 32) rfl rfl) <| .e rfl (.pickN rfl (decide_eq_false hg_1) rfl) <| .m rfl rfl ?_
      by_cases hg_2 : 32 < s.size
      · refine .no rfl rfl rfl (decide_eq_true hg_2) rfl <| .no rfl rfl rfl (decide_eq_true hg_2) rfl <| .no rfl rfl rfl (decide_eq_true hg_2) rfl <| .no rfl rfl rfl (decide_eq_true hg_2) rfl <| .e rfl (.pickY rfl (decide_eq_true hg_2) rfl) <| .nil ?_
        exact ⟨⟨rfl, rfl, congrArg some (congrArg Value.bool (by simp [hg_1, hg_2])), trivial⟩, hs0⟩
      · refine .yes rfl rfl rfl (decide_eq_false hg_2) <| .m rfl rfl <| .yes rfl rfl rfl (decide_eq_false hg_2) <| .e rfl (.idxStr Tryz.underlying9 rfl rfl (hb0 (by omega))) <| .yes rfl rfl rfl (decide_eq_false hg_2) <| .f rfl (.call ent98 rfl ((rfirst_n (b0.toNat) _).mono fun r_1 w_1 h_1 => ?_))
        obtain ⟨rfl, hp_1⟩ := h_1
        have hs_1 := hs0.adds hp_1
        refine .yes rfl rfl rfl (decide_eq_false hg_2) <| .e rfl (.notB rfl) <| .e rfl (.pickN rfl (decide_eq_false hg_2) rfl) <| .nil ?_
        exact ⟨⟨rfl, rfl, congrArg some (congrArg Value.bool (by simp [hg_1, hg_2])), trivial⟩, hs_1⟩
  · rintro L' w_2 ⟨hw_1, hs_2⟩
    refine .weaken _ hw_1 <| .condD rfl (fun hc_1 => ?_) (fun hc_1 => ?_)
    · refine .seq <| .region <| .s rfl rfl <| .nil <| .ret ?_
      show PostK _ _ _ _ _ _
      refine post1 rfl rfl ?_
      have hno : nameB s = false := by
        have h9 := hc_1
        rcases Nat.lt_or_ge s.size 1 with h1 | h1
        · exact nameB_nil h1
        · rcases Nat.lt_or_ge 32 s.size with h2 | h2
          · exact nameB_long h2
          · have h3 : nmF b0.toNat = false := by
              rcases h9 with h9 | h9
              · omega
              · simpa using h9
            unfold nameB; rw [nameL_first (hb0 h1) h3, Bool.and_false]
      exact ⟨by rw [hno], hs_2⟩
    · refine .skip <| .seq <| .seq ?_
      have hok1 : 1 ≤ s.size ∧ s.size ≤ 32 ∧ nmF b0.toNat = true := by have h9 := hc_1; simp only [not_or] at h9; exact ⟨by omega, by omega, by simpa using h9.2⟩
      have hb00 := hb0 hok1.1
      refine .region <| .s rfl rfl <| .nil <| .block <| .loop (α := Nat) (fun k => [(0, (.string s)), (3, (.int .i64 k))]) (fun k w' => Sat w [] w' ∧ (k ≤ s.size) ∧ (∀ (i : Nat) (d : UInt8), s.data.toList[i]? = some d → 0 < i → i < k → nmN d.toNat = true)) (fun k => s.size - k) 1 ⟨rfl, rfl, trivial⟩ ⟨hs_2, by omega, fun i d _ h1 h2 => absurd h2 (by omega)⟩ ?_
      rintro k w_3 ⟨hs_3, hk, hall⟩
      show CW _ _ _ _ [(0, (.string s)), (3, (.int .i64 k))] _
      refine .seq <| .seq <| .region <| .m rfl rfl <| .m rfl rfl <| .e rfl (.lenStr Tryz.underlying9 rfl) <| .e rfl (.lssN rfl rfl) <| .nil <| .condD rfl (fun hc_2 => ?_) (fun hc_2 => ?_)
      · refine .skip <| .seq <| .block <| .seq ?_
        obtain ⟨x, hx⟩ : ∃ x, s.data.toList[k]? = some x := ⟨_, List.getElem?_eq_getElem (show k < s.data.toList.length from hc_2)⟩
        refine .region <| .m rfl rfl <| .m rfl rfl <| .e rfl (.idxStr Tryz.underlying9 rfl rfl hx) <| .f rfl (.call ent99 rfl ((rnext_n (x.toNat) _).mono fun r_2 w_4 h_2 => ?_))
        obtain ⟨rfl, hp_2⟩ := h_2
        have hs_4 := hs_3.adds hp_2
        refine .e rfl (.notB rfl) <| .nil <| .cond rfl (fun hc_3 => ?_) (fun hc_3 => ?_)
        · refine .seq <| .region <| .s rfl rfl <| .nil <| .ret ?_
          show PostK _ _ _ _ _ _
          refine post1 rfl rfl ?_
          exact ⟨by unfold nameB; rw [nameL_bad hx (by simpa using hc_3), Bool.and_false], hs_4⟩
        · refine .skip <| .region <| .m rfl rfl <| .e rfl (.addI (b := 1) rfl rfl (by omega)) <| .s rfl rfl <| .nil ?_
          exact ⟨k + 1, ⟨rfl, rfl, trivial⟩, ⟨hs_4, by omega, fun i d hd h1 h2 => by
      by_cases hik : i = k
      · subst hik; rw [hx] at hd; cases hd; simpa using hc_3
      · exact hall i d hd h1 (by omega)⟩, (show (s.size - (k + 1)) < (s.size - k) from by omega)⟩
      · refine .exit0 <| .seq <| .region <| .s rfl rfl <| .nil <| .ret ?_
        show PostK _ _ _ _ _ _
        refine post1 rfl rfl ?_
        exact ⟨by unfold nameB; rw [nameL_good hb00 hok1.2.2 (fun i d hd hi => hall i d hd hi (by have h8 := (List.getElem?_eq_some_iff.1 hd).1; have h7 : s.data.toList.length = s.size := rfl; omega)), decide_eq_true hok1.2.1]; rfl, hs_3⟩
end Go.Proofs.YtecfgjdpghddgaaGreatDoor
