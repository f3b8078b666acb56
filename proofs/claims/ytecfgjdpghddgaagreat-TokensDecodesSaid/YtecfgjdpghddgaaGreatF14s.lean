/- The walks of the functions of F14s, printed by our own program (kwgen.py) out of our descriptions (base.py). -/
import Derived.Test.YtecfgjdpghddgaaGreatF02s
import Derived.Test.YtecfgjdpghddgaaGreatM14s
import Derived.Test.YtecfgjdpghddgaaGreatTab
set_option linter.unusedVariables false
set_option linter.unusedSimpArgs false
set_option linter.unusedSectionVars false
namespace Go.Proofs.YtecfgjdpghddgaaGreat
open Go.RowKit Go.Kw
set_option maxRecDepth 100000
theorem rlcheck_ok (v : Value) (c : List Nat) (w : World) (hv : RdL w v (encN .i64) c) (hn : c.length ≤ 1024) (hc : ∀ x ∈ c, x ≤ 4096) :
    CallsV Tryz.prog 118 [v, (.int .i64 (15 : Nat))] w fun r w' => r = .int .i64 ((0 : Nat) : Int) ∧ Sat w [] w' := by
  have hs0 := Sat.start w
  refine callsV_of Tryz.func118 rfl rfl ?_
  refine .seq <| .region <| .s rfl rfl <| .nil <| .seq <| .seq <| .mid (fun L' w' => Weak [(0, v), (1, (.int .i64 (15 : Nat))), (4, (.int .i64 (0 : Nat))), (13, (.bool (decide ((15 < 1) ∨ (15 < 15)))))] L' ∧ Sat w [] w') ?_ ?_
  · refine .region <| .m rfl rfl <| .e rfl (.lssN (a := 15) (b := 1) rfl rfl) <| .m rfl rfl <| .yes rfl rfl rfl (rfl) <| .m rfl rfl <| .yes rfl rfl rfl (rfl) <| .e rfl (.gtrN (a := 15) (b := 15) rfl rfl) <| .e rfl (.pickN rfl (rfl) rfl) <| .nil ?_
    exact ⟨⟨rfl, rfl, rfl, congrArg some (congrArg Value.bool (by simp [])), trivial⟩, hs0⟩
  · rintro L' w_1 ⟨hw_1, hs_1⟩
    refine .weaken _ hw_1 <| .condF rfl (decide_eq_false (by omega)) <| .skip <| .seq <| .seq <| .region <| .m rfl rfl <| .e rfl (.lenL Tryz.underlying27 rfl (hv.ext hs_1.ext)) <| .e rfl (.gtrN (b := 1024) rfl rfl) <| .nil <| .condF rfl (decide_eq_false (by omega)) <| .skip <| .seq <| .region <| .s rfl rfl <| .nil <| .seq <| .seq <| .region <| .m rfl rfl <| .e rfl (.lenL Tryz.underlying27 rfl (hv.ext hs_1.ext)) <| .m rfl rfl <| .nil <| .block <| .loop (α := Nat × Nat) (fun (k, p) => [(1, (.int .i64 (15 : Nat))), (5, (.int .i64 p)), (17, v), (18, (.int .i64 c.length)), (19, (.int .i64 k))]) (fun (k, p) w' => Sat w [] w' ∧ (k ≤ c.length) ∧ (p ≤ k)) (fun (k, p) => c.length - k) (0, 0) ⟨rfl, rfl, rfl, rfl, rfl, trivial⟩ ⟨hs_1, Nat.zero_le _, Nat.le_refl _⟩ ?_
    rintro ⟨k, p⟩ w_2 ⟨hs_2, hk, hp⟩
    show CW _ _ _ _ [(1, (.int .i64 (15 : Nat))), (5, (.int .i64 p)), (17, v), (18, (.int .i64 c.length)), (19, (.int .i64 k))] _
    refine .seq <| .region <| .e rfl (.lssN rfl rfl) <| .nil <| .seq <| .condD rfl (fun hc_1 => ?_) (fun hc_1 => ?_)
    · refine .skip <| .seq <| .block <| .seq ?_
      obtain ⟨x, hx⟩ : ∃ x, (c)[k]? = some x := ⟨_, List.getElem?_eq_getElem hc_1⟩
      refine .region <| .e rfl (.idxL (E := encN .i64) sl27 rfl rfl (hv.ext hs_2.ext) (by omega)) <| .e rfl (.ldL (E := encN .i64) scal3 rfl (hv.ext hs_2.ext) hx (by decide) rfl) <| .s rfl rfl <| .nil <| .seq <| .seq <| .mid (fun L' w' => Weak [(1, (.int .i64 (15 : Nat))), (5, (.int .i64 p)), (7, (.int .i64 x)), (17, v), (18, (.int .i64 c.length)), (19, (.int .i64 k)), (20, (.bool (decide (k < c.length)))), (28, (.bool (decide ((x < 0) ∨ (4096 < x)))))] L' ∧ Sat w [] w') ?_ ?_
      · refine .region <| .m rfl rfl <| .e rfl (.lssN (b := 0) rfl rfl) <| .m rfl rfl ?_
        by_cases hg_1 : x < 0
        · refine .no rfl rfl rfl (decide_eq_true hg_1) rfl <| .no rfl rfl rfl (decide_eq_true hg_1) rfl <| .e rfl (.pickY rfl (decide_eq_true hg_1) rfl) <| .nil ?_
          exact ⟨⟨rfl, rfl, rfl, rfl, rfl, rfl, rfl, congrArg some (congrArg Value.bool (by simp [hg_1])), trivial⟩, hs_2⟩
        · refine .yes rfl rfl rfl (decide_eq_false hg_1) <| .m rfl rfl <| .yes rfl rfl rfl (decide_eq_false hg_1) <| .e rfl (.gtrN (b := 4096) rfl rfl) <| .e rfl (.pickN rfl (decide_eq_false hg_1) rfl) <| .nil ?_
          exact ⟨⟨rfl, rfl, rfl, rfl, rfl, rfl, rfl, congrArg some (congrArg Value.bool (by simp [hg_1])), trivial⟩, hs_2⟩
      · rintro L' w_3 ⟨hw_2, hs_3⟩
        refine .weaken _ hw_2 <| .condF rfl (decide_eq_false (by have := hc x (mem_of_get hx); omega)) <| .skip <| .seq <| .region <| .m rfl rfl <| .e rfl (.gtrN (b := 0) rfl rfl) <| .nil <| .condD rfl (fun hc_2 => ?_) (fun hc_2 => ?_)
        · refine .region <| .m rfl rfl <| .e rfl (.addI (b := 1) rfl rfl (by omega)) <| .s rfl rfl <| .nil <| .region <| .e rfl (.addI (b := 1) rfl rfl (by omega)) <| .m rfl rfl <| .nil ?_
          exact ⟨(k + 1, (p + 1)), ⟨rfl, rfl, rfl, rfl, rfl, trivial⟩, ⟨hs_3, by omega, by omega⟩, (show (c.length - (k + 1)) < (c.length - k) from by omega)⟩
        · refine .skip <| .region <| .e rfl (.addI (b := 1) rfl rfl (by omega)) <| .m rfl rfl <| .nil ?_
          exact ⟨(k + 1, p), ⟨rfl, rfl, rfl, rfl, rfl, trivial⟩, ⟨hs_3, by omega, by omega⟩, (show (c.length - (k + 1)) < (c.length - k) from by omega)⟩
    · refine .exit0 <| .seq <| .seq <| .region <| .m rfl rfl <| .m rfl rfl <| .e rfl (.convK (by rw [Tryz.underlying3]; rfl) Tryz.underlying88 rfl (wrap_u rfl (by (try simp only [IntKind.bits]); omega))) <| .e rfl (.shlI (a := 1) (b := 15) rfl rfl (by omega) (by omega)) <| .e rfl (.gtrN rfl rfl) <| .nil <| .condF rfl (decide_eq_false (by omega)) <| .skip <| .seq <| .region <| .s rfl rfl <| .nil <| .ret ?_
      show PostK _ _ _ _ _ _
      refine post1 rfl rfl ?_
      exact ⟨rfl, hs_2⟩
theorem rvalid_ok (v : Value) (l : List Nat) (w : World) (hv : RdL w v (encN .i64) l) (hn : l.length ≤ 1024) :
    CallsV Tryz.prog 81 [v] w fun r w' => r = .bool (validB l) ∧ Sat w [] w' := by
  have hs0 := Sat.start w
  refine callsV_of Tryz.func81 rfl rfl ?_
  refine .seq <| .region <| .s rfl rfl <| .nil <| .seq <| .seq <| .region <| .m rfl rfl <| .e rfl (.lenL Tryz.underlying27 rfl (hv.ext hs0.ext)) <| .e rfl (.gtrN (b := 1024) rfl rfl) <| .nil <| .condF rfl (decide_eq_false (by omega)) <| .skip <| .seq <| .region <| .s rfl rfl <| .nil <| .seq <| .seq <| .region <| .m rfl rfl <| .e rfl (.lenL Tryz.underlying27 rfl (hv.ext hs0.ext)) <| .m rfl rfl <| .nil <| .block <| .loop (α := Nat × Nat) (fun (k, s) => [(3, (.int .i64 s)), (9, v), (10, (.int .i64 l.length)), (11, (.int .i64 k))]) (fun (k, s) w' => Sat w [] w' ∧ (k ≤ l.length) ∧ (s = ksum (l.take k)) ∧ (s ≤ k * 2 ^ 14) ∧ (∀ x ∈ l.take k, x ≤ 15)) (fun (k, s) => l.length - k) (0, 0) ⟨rfl, rfl, rfl, rfl, trivial⟩ ⟨hs0, Nat.zero_le _, rfl, Nat.zero_le _, by simp⟩ ?_
  rintro ⟨k, s⟩ w_1 ⟨hs_1, hk, hsum, hsb, hall⟩
  show CW _ _ _ _ [(3, (.int .i64 s)), (9, v), (10, (.int .i64 l.length)), (11, (.int .i64 k))] _
  refine .seq <| .region <| .e rfl (.lssN rfl rfl) <| .nil <| .seq <| .condD rfl (fun hc_1 => ?_) (fun hc_1 => ?_)
  · refine .skip <| .seq <| .block <| .seq ?_
    obtain ⟨x, hx⟩ : ∃ x, (l)[k]? = some x := ⟨_, List.getElem?_eq_getElem hc_1⟩
    refine .region <| .e rfl (.idxL (E := encN .i64) sl27 rfl rfl (hv.ext hs_1.ext) (by omega)) <| .e rfl (.ldL (E := encN .i64) scal3 rfl (hv.ext hs_1.ext) hx (by decide) rfl) <| .s rfl rfl <| .nil <| .seq <| .seq <| .mid (fun L' w' => Weak [(3, (.int .i64 s)), (5, (.int .i64 x)), (9, v), (10, (.int .i64 l.length)), (11, (.int .i64 k)), (12, (.bool (decide (k < l.length)))), (20, (.bool (decide ((x < 0) ∨ (15 < x)))))] L' ∧ Sat w [] w') ?_ ?_
    · refine .region <| .m rfl rfl <| .e rfl (.lssN (b := 0) rfl rfl) <| .m rfl rfl ?_
      by_cases hg_1 : x < 0
      · refine .no rfl rfl rfl (decide_eq_true hg_1) rfl <| .no rfl rfl rfl (decide_eq_true hg_1) rfl <| .e rfl (.pickY rfl (decide_eq_true hg_1) rfl) <| .nil ?_
        exact ⟨⟨rfl, rfl, rfl, rfl, rfl, rfl, congrArg some (congrArg Value.bool (by simp [hg_1])), trivial⟩, hs_1⟩
      · refine .yes rfl rfl rfl (decide_eq_false hg_1) <| .m rfl rfl <| .yes rfl rfl rfl (decide_eq_false hg_1) <| .e rfl (.gtrN (b := 15) rfl rfl) <| .e rfl (.pickN rfl (decide_eq_false hg_1) rfl) <| .nil ?_
        exact ⟨⟨rfl, rfl, rfl, rfl, rfl, rfl, congrArg some (congrArg Value.bool (by simp [hg_1])), trivial⟩, hs_1⟩
    · rintro L' w_2 ⟨hw_1, hs_2⟩
      refine .weaken _ hw_1 <| .condD rfl (fun hc_2 => ?_) (fun hc_2 => ?_)
      · refine .seq <| .region <| .s rfl rfl <| .nil <| .ret ?_
        show PostK _ _ _ _ _ _
        refine post1 rfl rfl ?_
        exact ⟨by rw [validB_bad (mem_of_get hx) (by omega)], hs_2⟩
      · refine .skip <| .seq <| .region <| .m rfl rfl <| .e rfl (.gtrN (b := 0) rfl rfl) <| .nil <| .condD rfl (fun hc_3 => ?_) (fun hc_3 => ?_)
        · have h2 : 2 ^ (15 - x) ≤ 2 ^ 14 := Nat.pow_le_pow_right (by decide) (by omega)
          refine .region <| .m rfl rfl <| .m rfl rfl <| .e rfl (.subI (a := 15) rfl rfl (by omega) (by omega)) <| .e rfl (.convK (by rw [Tryz.underlying3]; rfl) Tryz.underlying88 rfl (wrap_u rfl (by (try simp only [IntKind.bits]); omega))) <| .e rfl (.shlI (a := 1) rfl rfl (by omega) (by omega)) <| .e rfl (.addI rfl rfl (by omega)) <| .s rfl rfl <| .nil <| .region <| .e rfl (.addI (b := 1) rfl rfl (by omega)) <| .m rfl rfl <| .nil ?_
          exact ⟨(k + 1, (s + (1 * 2 ^ (15 - x)))), ⟨rfl, rfl, rfl, rfl, trivial⟩, ⟨hs_2, by omega, by rw [take_succ_of hx, ksum_append, ← hsum]; simp [ksum, kr, hc_3], by omega, all_take hall hx (by omega)⟩, (show (l.length - (k + 1)) < (l.length - k) from by omega)⟩
        · refine .skip <| .region <| .e rfl (.addI (b := 1) rfl rfl (by omega)) <| .m rfl rfl <| .nil ?_
          exact ⟨(k + 1, s), ⟨rfl, rfl, rfl, rfl, trivial⟩, ⟨hs_2, by omega, by rw [take_succ_of hx, ksum_append, ← hsum]; simp [ksum, kr, hc_3], by omega, all_take hall hx (by omega)⟩, (show (l.length - (k + 1)) < (l.length - k) from by omega)⟩
  · refine .exit0 <| .seq <| .region <| .m rfl rfl <| .e rfl (.leqN (b := 32768) rfl rfl) <| .s rfl rfl <| .nil <| .ret ?_
    show PostK _ _ _ _ _ _
    refine post1 rfl rfl ?_
    rw [show k = l.length by omega, List.take_length] at hsum hall
    exact ⟨by rw [validB_of hall, hsum], hs_1⟩
theorem rcodes_ok (v : Value) (l : List Nat) (w : World) (hv : RdL w v (encN .i64) l) (hn : l.length ≤ 1024) (hval : validB l = true) :
    CallsV Tryz.prog 52 [v] w fun r w' => ∃ v', r = .tuple #[v', .int .i64 ((0 : Nat) : Int)] ∧ Sat w [cL v' 56 (encN .u64) (codesN l)] w' := by
  have hs0 := Sat.start w
  refine callsV_of Tryz.func52 rfl rfl ?_
  refine .seq ?_
  have hb := validB_le hval
  refine .region <| .s rfl rfl <| .s rfl rfl <| .nil <| .seq <| .seq <| .region <| .m rfl rfl <| .f rfl (.call ent81 rfl ((rvalid_ok _ (l) _ (hv.ext hs0.ext) (hn)).mono fun r_1 w_1 h_1 => ?_))
  obtain ⟨rfl, hp_1⟩ := h_1
  have hs_1 := hs0.adds hp_1
  refine .e rfl (.notB rfl) <| .nil <| .condF rfl (by rw [hval]; rfl) <| .skip <| .seq <| .region <| .m rfl rfl <| .e rfl (.lenL Tryz.underlying27 rfl (hv.ext hs_1.ext)) <| .f rfl (.makeL (encN .u64) (0) sl92 rfl hs_1 rfl rfl (by omega) (by omega) (by omega) fun v_1 w_2 hs_2 hch_1 => ?_)
  refine .s rfl rfl <| .nil <| .seq <| .region <| .s rfl rfl <| .s rfl rfl <| .nil <| .seq <| .seq <| .region <| .s rfl rfl <| .nil <| .block <| .loop (α := Nat × Nat × Nat × List Nat × Nat) (fun (n, code0, bef0, cds0, cnt0) => [(0, v), (4, v_1), (5, (.int .u64 code0)), (6, (.int .i64 bef0)), (7, (.int .i64 n))]) (fun (n, code0, bef0, cds0, cnt0) w' => Sat w [cL v_1 56 (encN .u64) (cds0)] w' ∧ (1 ≤ n) ∧ (n ≤ 16) ∧ (cdSt l (ordR l n 0) = (cnt0, code0, bef0, cds0)) ∧ (code0 < 2 ^ 64) ∧ (cds0.length = l.length) ∧ (bef0 < n) ∧ (bef0 = 0 ↔ cnt0 = 0) ∧ (cnt0 = 0 → code0 = 0)) (fun (n, code0, bef0, cds0, cnt0) => 16 - n) (1, 0, 0, List.replicate l.length 0, 0) ⟨rfl, rfl, rfl, rfl, rfl, trivial⟩ ⟨hs_2, Nat.le_refl _, by omega, by rw [ordR_first]; rfl, by omega, by simp, by omega, by omega, fun _ => rfl⟩ ?_
  rintro ⟨n, code0, bef0, cds0, cnt0⟩ w_3 ⟨hs_3, h1n, hn16, hst0, hcd0, hcl0, hbn0, h0c0, h0d0⟩
  show CW _ _ _ _ [(0, v), (4, v_1), (5, (.int .u64 code0)), (6, (.int .i64 bef0)), (7, (.int .i64 n))] _
  refine .seq <| .seq <| .region <| .m rfl rfl <| .e rfl (.leqN (b := 15) rfl rfl) <| .nil <| .condD rfl (fun hc_1 => ?_) (fun hc_1 => ?_)
  · refine .skip <| .seq <| .block <| .seq <| .region <| .m rfl rfl <| .e rfl (.lenL Tryz.underlying27 rfl (hv.ext hs_3.ext)) <| .m rfl rfl <| .nil <| .block <| .loop (α := Nat × Nat × Nat × List Nat × Nat) (fun (k, code, bef, cds, cnt) => [(0, v), (4, v_1), (5, (.int .u64 code)), (6, (.int .i64 bef)), (7, (.int .i64 n)), (20, v), (21, (.int .i64 l.length)), (22, (.int .i64 k))]) (fun (k, code, bef, cds, cnt) w' => Sat w [cL v_1 56 (encN .u64) (cds)] w' ∧ (k ≤ l.length) ∧ (cdSt l (ordR l n k) = (cnt, code, bef, cds)) ∧ (code < 2 ^ 64) ∧ (cds.length = l.length) ∧ (bef ≤ n) ∧ (bef = 0 ↔ cnt = 0) ∧ (cnt = 0 → code = 0)) (fun (k, code, bef, cds, cnt) => l.length - k) (0, code0, bef0, cds0, cnt0) ⟨rfl, rfl, rfl, rfl, rfl, rfl, rfl, rfl, trivial⟩ ⟨hs_3, Nat.zero_le _, hst0, hcd0, hcl0, by omega, h0c0, h0d0⟩ ?_
    rintro ⟨k, code, bef, cds, cnt⟩ w_4 ⟨hs_4, hk, hst, hcd, hcl, hbn, h0c, h0d⟩
    show CW _ _ _ _ [(0, v), (4, v_1), (5, (.int .u64 code)), (6, (.int .i64 bef)), (7, (.int .i64 n)), (20, v), (21, (.int .i64 l.length)), (22, (.int .i64 k))] _
    refine .seq <| .region <| .e rfl (.lssN rfl rfl) <| .nil <| .seq <| .condD rfl (fun hc_2 => ?_) (fun hc_2 => ?_)
    · refine .skip <| .seq <| .block <| .seq ?_
      obtain ⟨x, hx⟩ : ∃ x, (l)[k]? = some x := ⟨_, List.getElem?_eq_getElem hc_2⟩
      refine .region <| .m rfl rfl <| .e rfl (.idxL (E := encN .i64) sl27 rfl rfl (hv.ext hs_4.ext) (by omega)) <| .e rfl (.ldL (E := encN .i64) scal3 rfl (hv.ext hs_4.ext) hx (by decide) rfl) <| .s rfl rfl <| .s rfl rfl <| .nil <| .seq <| .seq <| .region <| .m rfl rfl <| .m rfl rfl <| .e rfl (.neqN rfl rfl) <| .nil <| .condD rfl (fun hc_3 => ?_) (fun hc_3 => ?_)
      · refine .exit0 <| .region <| .e rfl (.addI (b := 1) rfl rfl (by omega)) <| .m rfl rfl <| .nil ?_
        exact ⟨(k + 1, code, bef, cds, cnt), ⟨rfl, rfl, rfl, rfl, rfl, rfl, rfl, rfl, trivial⟩, ⟨hs_4, by omega, by rw [ordR_skip h1n hx (by simpa using hc_3)]; exact hst, hcd, hcl, hbn, h0c, h0d⟩, (show (l.length - (k + 1)) < (l.length - k) from by omega)⟩
      · refine .skip <| .seq <| .seq ?_
        have hxn : x = n := Classical.byContradiction fun h => hc_3 h
        have hlk : lenKey l k = n := by simp [lenKey, List.getD_eq_getElem?_getD, hx, hxn]
        refine .region <| .m rfl rfl <| .e rfl (.eqlN (b := 0) rfl rfl) <| .nil <| .condD rfl (fun hc_4 => ?_) (fun hc_4 => ?_)
        · refine .region <| .s rfl rfl <| .nil <| .region <| .m rfl rfl <| .m rfl rfl <| .m rfl rfl <| .m rfl rfl <| .e rfl (.idxL (E := encN .u64) sl92 rfl rfl (hs_4.rdL 0 rfl) (by omega)) <| .f rfl (.setL (a := 0) 0 one56 hs_4 rfl rfl rfl rfl (by omega) fun w_5 hs_5 hch_2 => ?_)
          have hs_5d : Sat w [cL v_1 56 (encN .u64) (cds.set k 0)] _ := hs_5
          refine .s rfl rfl <| .nil <| .region <| .e rfl (.addI (b := 1) rfl rfl (by omega)) <| .m rfl rfl <| .nil ?_
          exact ⟨(k + 1, 0, n, cds.set k 0, cnt + 1), ⟨rfl, rfl, rfl, rfl, rfl, rfl, rfl, rfl, trivial⟩, ⟨hs_5d, by omega, by rw [ordR_take h1n (by rw [hx, hxn]), cdSt_snoc, hst, cdStep_first (h0c.1 hc_4) (h0d (h0c.1 hc_4)), hlk], by omega, by simp only [List.length_set]; exact hcl, Nat.le_refl _, by omega, by omega⟩, (show (l.length - (k + 1)) < (l.length - k) from by omega)⟩
        · refine .region <| .m rfl rfl <| .e rfl (.addN (b := 1) rfl rfl rfl) <| .m rfl rfl <| .m rfl rfl <| .e rfl (.subI rfl rfl (by omega) (by omega)) <| .e rfl (.convK (by rw [Tryz.underlying3]; rfl) Tryz.underlying88 rfl (wrap_u rfl (by (try simp only [IntKind.bits]); omega))) <| .e rfl (.shlN rfl rfl rfl (by (try simp only [IntKind.bits]); omega)) <| .s rfl rfl <| .nil <| .region <| .m rfl rfl <| .m rfl rfl <| .m rfl rfl <| .m rfl rfl <| .e rfl (.idxL (E := encN .u64) sl92 rfl rfl (hs_4.rdL 0 rfl) (by omega)) <| .f rfl (.setL (a := (((code + 1) % 2 ^ 64) * 2 ^ (n - bef) % 2 ^ 64)) 0 one56 hs_4 rfl rfl rfl rfl (by omega) fun w_6 hs_6 hch_3 => ?_)
          refine .s rfl rfl <| .nil <| .region <| .e rfl (.addI (b := 1) rfl rfl (by omega)) <| .m rfl rfl <| .nil ?_
          exact ⟨(k + 1, (((code + 1) % 2 ^ 64) * 2 ^ (n - bef) % 2 ^ 64), n, cds.set k (((code + 1) % 2 ^ 64) * 2 ^ (n - bef) % 2 ^ 64), cnt + 1), ⟨rfl, rfl, rfl, rfl, rfl, rfl, rfl, rfl, trivial⟩, ⟨hs_6, by omega, by rw [ordR_take h1n (by rw [hx, hxn]), cdSt_snoc, hst, cdStep_next (fun h => hc_4 (h0c.2 h)), hlk], by omega, by simp only [List.length_set]; exact hcl, Nat.le_refl _, by omega, by omega⟩, (show (l.length - (k + 1)) < (l.length - k) from by omega)⟩
    · refine .exit0 <| .region <| .m rfl rfl <| .e rfl (.addI (b := 1) rfl rfl (by omega)) <| .s rfl rfl <| .nil ?_
      exact ⟨(n + 1, code, bef, cds, cnt), ⟨rfl, rfl, rfl, rfl, rfl, trivial⟩, ⟨hs_4, by omega, by omega, by rw [← ordR_next, ← hst, show k = l.length by omega], hcd, hcl, by omega, h0c, h0d⟩, (show (16 - (n + 1)) < (16 - n) from by omega)⟩
  · refine .exit0 <| .seq <| .region <| .m rfl rfl <| .s rfl rfl <| .s rfl rfl <| .nil <| .ret ?_
    show PostK _ _ _ _ _ _
    refine post2 rfl rfl rfl ?_
    have hs_7 : Sat w [cL v_1 56 (encN .u64) (cds0)] w_3 := hs_3.sub ((.cons_cons _ .slnil))
    have hs_8 : Sat w [cL v_1 56 (encN .u64) (codesN l)] w_3 := by
      have hq : cds0 = codesN l := by unfold codesN; rw [← ordR_last (fun i => lenKey_le hb i), show 16 = n by omega, hst0]
      rw [← hq]; exact hs_7
    exact ⟨_, rfl, hs_8⟩
theorem rhencode_ok (v u : Value) (l syms : List Nat) (w : World) (hv : RdL w v (encN .i64) l) (hu : RdL w u (encN .i64) syms) (hn : l.length ≤ 1024) (hval : validB l = true) (hsn : syms.length ≤ 4096) (hsy : ∀ s ∈ syms, s < l.length ∧ 0 < lenKey l s) :
    CallsV Tryz.prog 85 [v, u] w fun r w' => ∃ v', r = .tuple #[v', .int .i64 ((hufB l syms).length : Int), .int .i64 ((0 : Nat) : Int)] ∧ Sat w [cL v' 5 (encN .u8) (packB (hufB l syms))] w' := by
  have hs0 := Sat.start w
  refine callsV_of Tryz.func85 rfl rfl ?_
  refine .seq ?_
  have hgl := GoodLens.of_valid hval
  refine .region <| .s rfl rfl <| .s rfl rfl <| .s rfl rfl <| .nil <| .seq <| .region <| .m rfl rfl <| .f rfl (.call ent52 rfl ((rcodes_ok _ (l) _ (hv.ext hs0.ext) (hn) (hval)).mono fun r_1 w_1 h_1 => ?_))
  obtain ⟨cv_1, rfl, hp_1⟩ := h_1
  have hs_1 := hs0.adds hp_1
  refine .m rfl rfl <| .e rfl (.extract rfl rfl) <| .e rfl (.extract rfl rfl) <| .s rfl rfl <| .s rfl rfl <| .nil <| .seq <| .seq <| .region <| .m rfl rfl <| .e rfl (.neqN (a := 0) (b := 0) rfl rfl) <| .nil <| .condF rfl (decide_eq_false (by omega)) <| .skip <| .seq <| .seq <| .region <| .m rfl rfl <| .e rfl (.lenL Tryz.underlying27 rfl (hu.ext hs_1.ext)) <| .e rfl (.gtrN (b := 4096) rfl rfl) <| .nil <| .condF rfl (decide_eq_false (by omega)) <| .skip <| .seq <| .region <| .s rfl rfl <| .nil <| .seq <| .seq <| .region <| .m rfl rfl <| .e rfl (.lenL Tryz.underlying27 rfl (hu.ext hs_1.ext)) <| .m rfl rfl <| .nil <| .block ?_
  have hs_2 := hs_1.newNilL 4 (encB)
  refine .loop (α := Nat × Value × List Bool) (fun (k, wv, bits) => [(0, v), (7, cv_1), (9, wv), (23, u), (24, (.int .i64 syms.length)), (25, (.int .i64 k))]) (fun (k, wv, bits) w' => Sat w [cL cv_1 56 (encN .u64) (codesN l), cL wv 4 (encB) (bits)] w' ∧ (k ≤ syms.length) ∧ (bits = hufB l (syms.take k)) ∧ (bits.length ≤ 15 * k)) (fun (k, wv, bits) => syms.length - k) (0, (.slice none 0 0), []) ⟨rfl, rfl, rfl, rfl, rfl, rfl, trivial⟩ ⟨hs_2, Nat.zero_le _, rfl, Nat.le_refl _⟩ ?_
  rintro ⟨k, wv, bits⟩ w_2 ⟨hs_3, hk, hbits, hbl⟩
  show CW _ _ _ _ [(0, v), (7, cv_1), (9, wv), (23, u), (24, (.int .i64 syms.length)), (25, (.int .i64 k))] _
  refine .seq <| .region <| .e rfl (.lssN rfl rfl) <| .nil <| .seq <| .condD rfl (fun hc_1 => ?_) (fun hc_1 => ?_)
  · refine .skip <| .seq <| .block <| .seq ?_
    obtain ⟨x, hx⟩ : ∃ x, (syms)[k]? = some x := ⟨_, List.getElem?_eq_getElem hc_1⟩
    refine .region <| .e rfl (.idxL (E := encN .i64) sl27 rfl rfl (hu.ext hs_3.ext) (by omega)) <| .e rfl (.ldL (E := encN .i64) scal3 rfl (hu.ext hs_3.ext) hx (by decide) rfl) <| .s rfl rfl <| .nil <| .seq <| .seq ?_
    have hx0 := hsy x (mem_of_get hx)
    have hlx := lenKey_some hx0.1
    have hcdx := (code_of hgl hx0.2).2
    have hl15 := hgl.le x
    have hp15 : 2 ^ lenKey l x ≤ 2 ^ 15 := Nat.pow_le_pow_right (by decide) hl15
    have hcl := codesN_length l
    refine .region <| .m rfl rfl <| .e rfl (.lssN (b := 0) rfl rfl) <| .m rfl rfl <| .yes rfl rfl rfl (decide_eq_false (by omega)) <| .m rfl rfl <| .yes rfl rfl rfl (decide_eq_false (by omega)) <| .m rfl rfl <| .yes rfl rfl rfl (decide_eq_false (by omega)) <| .e rfl (.lenL Tryz.underlying27 rfl (hv.ext hs_3.ext)) <| .yes rfl rfl rfl (decide_eq_false (by omega)) <| .e rfl (.geqN rfl rfl) <| .e rfl (.pickN rfl (decide_eq_false (by omega)) rfl) <| .m rfl rfl <| .yes rfl rfl rfl (decide_eq_false (by omega)) <| .m rfl rfl <| .yes rfl rfl rfl (decide_eq_false (by omega)) <| .m rfl rfl <| .yes rfl rfl rfl (decide_eq_false (by omega)) <| .e rfl (.idxL (E := encN .i64) sl27 rfl rfl (hv.ext hs_3.ext) (hx0.1)) <| .yes rfl rfl rfl (decide_eq_false (by omega)) <| .e rfl (.ldL (E := encN .i64) scal3 rfl (hv.ext hs_3.ext) hlx (by decide) rfl) <| .yes rfl rfl rfl (decide_eq_false (by omega)) <| .e rfl (.eqlN (b := 0) rfl rfl) <| .e rfl (.pickN rfl (decide_eq_false (by omega)) rfl) <| .nil <| .condF rfl (decide_eq_false (by omega)) <| .skip ?_
    have hshp_1 := (hs_3.rdL (E := encB) 1 rfl).shp (by decide)
    refine .drawS hs_1 (.free 0 (.free 1 (.free 2 (.free 3 (.free 4 (.free 5 (.free 6 (.free 7 (.free 8 (.one 9 (.one 10 (.free 11 .fin)))))))))))) mixed (by kernel_rfl) ?_
    have hs_4 := hs_3.drew
    have hS_1 : Sat w [_] _ := hs_4.sub ((.cons_cons _ (.cons _ .slnil)))
    refine .m rfl rfl hS_1 <| .m rfl rfl hS_1 <| .m rfl rfl hS_1 <| .e rfl (fun w' hS' => .idxL (E := encN .u64) sl92 rfl rfl (hS'.rdL 0 rfl) (by omega)) hS_1 <| .e rfl (fun w' hS' => .ldL (E := encN .u64) scal56 rfl (hS'.rdL 0 rfl) (code_of hgl hx0.2).1 (by decide) rfl) hS_1 <| .m rfl rfl hS_1 <| .m rfl rfl hS_1 <| .e rfl (fun w' hS' => .idxL (E := encN .i64) sl27 rfl rfl (hv.ext hS'.ext) (hx0.1)) hS_1 <| .e rfl (fun w' hS' => .ldL (E := encN .i64) scal3 rfl (hv.ext hS'.ext) hlx (by decide) rfl) hS_1 <| .f rfl (.call ent116 rfl ((rlow_ok ((cdOf l x)) ((lenKey l x)) _ (by omega) (by omega)).mono fun r_2 w_3 h_2 => ?_))
    have hp_2 := h_2
    have hs_5 := hs_4.adds hp_2
    have hS_2 : Sat w [_] _ := hs_5.sub ((.cons_cons _ (.cons _ (.cons _ .slnil))))
    refine ⟨hS_2, ?_⟩
    refine .f rfl (.appendL 1 sl90 hs_5 rfl rfl rfl Tryz.underlying90 (hs_5.rdL 2 rfl) (by simp only [List.length_append, lowB_length]; omega) (by simp only [List.length_append, lowB_length]; omega) fun v_1 w_4 hs_6 hch_1 => ?_)
    have hS_3 : Sat w [_] _ := hs_6.sub ((.cons_cons _ (.cons _ (.cons _ .slnil))))
    refine ⟨hS_3, ?_⟩
    refine .e rfl (fun w' hS' => .assign rfl) hS_3 <| .fin <| .region <| .e rfl (.addI (b := 1) rfl rfl (by omega)) <| .m rfl rfl <| .nil ?_
    have hs_7 : Sat w [_, cL v_1 4 (encB) (bits ++ lowB (cdOf l x) (lenKey l x))] w_4 := hs_6.sub ((.cons_cons _ (.cons_cons _ (.cons _ .slnil))))
    exact ⟨(k + 1, v_1, bits ++ lowB (cdOf l x) (lenKey l x)), ⟨rfl, rfl, rfl, rfl, rfl, rfl, trivial⟩, ⟨hs_7, by omega, by rw [take_succ_of hx, hufB_snoc, hbits], by simp only [List.length_append, lowB_length]; omega⟩, (show (syms.length - (k + 1)) < (syms.length - k) from by omega)⟩
  · refine .exit0 <| .seq <| .region <| .m rfl rfl <| .f rfl (.call ent117 rfl ((rpack_ok _ (bits) _ (hs_3.rdL 1 rfl) (by omega)).mono fun r_3 w_5 h_3 => ?_))
    have hp_3 := h_3
    have hs_8 := hs_3.adds hp_3
    refine .m rfl rfl <| .e rfl (.lenL Tryz.underlying90 rfl (hs_8.rdL 1 rfl)) <| .s rfl rfl <| .s rfl rfl <| .s rfl rfl <| .nil <| .ret ?_
    show PostK _ _ _ _ _ _
    refine post3 rfl rfl rfl rfl ?_
    have hs_9 : Sat w [_] w_5 := hs_8.sub ((.cons _ (.cons _ (.cons_cons _ .slnil))))
    have hkl : bits = hufB l syms := by rw [hbits, show k = syms.length by omega, List.take_length]
    subst hkl
    exact ⟨_, rfl, hs_9⟩
end Go.Proofs.YtecfgjdpghddgaaGreat
