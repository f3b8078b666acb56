/- The walks of the functions of F16c, printed by our own program (kwgen.py) out of our descriptions (base.py). -/
import Derived.Test.YtecfgjdpghddgaaGreatF16
import Derived.Test.YtecfgjdpghddgaaGreatKr
import Derived.Test.YtecfgjdpghddgaaGreatM16a
import Derived.Test.YtecfgjdpghddgaaGreatTab
import Derived.Test.YtecfgjdpghddgaaGreatM15u
set_option linter.unusedVariables false
set_option linter.unusedSimpArgs false
set_option linter.unusedSectionVars false
namespace Go.Proofs.YtecfgjdpghddgaaGreat
open Go.RowKit Go.Kw
set_option maxRecDepth 100000
theorem rcheck_range (v : Value) (z : List Int) (w : World) (hv : RdL w v (Kw.encI .i64) z) (hz : z.length ≤ 4096) (hbad : ∃ x ∈ z, x < 0 ∨ 1024 ≤ x) :
    CallsV Tryz.prog 25 [v] w fun r w' => r = .int .i64 ((8 : Nat) : Int) ∧ Sat w [] w' := by
  have hs0 := Sat.start w
  refine callsV_of Tryz.func25 rfl rfl ?_
  refine .seq <| .region <| .s rfl rfl <| .nil <| .seq <| .seq <| .region <| .m rfl rfl <| .e rfl (.lenL Tryz.underlying27 rfl (hv.ext hs0.ext)) <| .e rfl (.gtrN (b := 4096) rfl rfl) <| .nil <| .condF rfl (decide_eq_false (by omega)) <| .skip <| .seq <| .seq <| .region <| .m rfl rfl <| .e rfl (.lenL Tryz.underlying27 rfl (hv.ext hs0.ext)) <| .m rfl rfl <| .nil <| .block <| .loop (α := Nat) (fun k => [(0, v), (8, v), (9, (.int .i64 z.length)), (10, (.int .i64 k))]) (fun k w' => Sat w [] w' ∧ (k ≤ z.length) ∧ (∀ x ∈ z.take k, ¬ (x < 0 ∨ 1024 ≤ x))) (fun k => z.length - k) 0 ⟨rfl, rfl, rfl, rfl, trivial⟩ ⟨hs0, Nat.zero_le _, by simp⟩ ?_
  rintro k w_1 ⟨hs_1, hk, hgd⟩
  show CW _ _ _ _ [(0, v), (8, v), (9, (.int .i64 z.length)), (10, (.int .i64 k))] _
  refine .seq <| .region <| .e rfl (.lssN rfl rfl) <| .nil <| .seq <| .condD rfl (fun hc_1 => ?_) (fun hc_1 => ?_)
  · refine .skip <| .seq <| .block <| .seq ?_
    obtain ⟨x, hx⟩ : ∃ x, (z)[k]? = some x := ⟨_, List.getElem?_eq_getElem hc_1⟩
    refine .region <| .e rfl (.idxL (E := Kw.encI .i64) sl27 rfl rfl (hv.ext hs_1.ext) (by omega)) <| .e rfl (.ldL (E := Kw.encI .i64) scal3 rfl (hv.ext hs_1.ext) hx (by decide) rfl) <| .s rfl rfl <| .nil <| .seq <| .mid (fun L' w' => Weak [(0, v), (4, (.int .i64 (x))), (8, v), (9, (.int .i64 z.length)), (10, (.int .i64 k)), (11, (.bool (decide (k < z.length)))), (19, (.bool (decide (((x : Int) < (0 : Int)) ∨ ((1024 : Int) ≤ (x : Int))))))] L' ∧ Sat w [] w') ?_ ?_
    · refine .region <| .m rfl rfl <| .e rfl (.lss rfl rfl) <| .m rfl rfl ?_
      by_cases hg_1 : (x : Int) < (0 : Int)
      · refine .no rfl rfl rfl (decide_eq_true hg_1) rfl <| .no rfl rfl rfl (decide_eq_true hg_1) rfl <| .e rfl (.pickY rfl (decide_eq_true hg_1) rfl) <| .nil ?_
        exact ⟨⟨rfl, rfl, rfl, rfl, rfl, rfl, congrArg some (congrArg Value.bool (by simp [hg_1])), trivial⟩, hs_1⟩
      · refine .yes rfl rfl rfl (decide_eq_false hg_1) <| .m rfl rfl <| .yes rfl rfl rfl (decide_eq_false hg_1) <| .e rfl (.geq rfl rfl) <| .e rfl (.pickN rfl (decide_eq_false hg_1) rfl) <| .nil ?_
        exact ⟨⟨rfl, rfl, rfl, rfl, rfl, rfl, congrArg some (congrArg Value.bool (by simp [hg_1])), trivial⟩, hs_1⟩
    · rintro L' w_2 ⟨hw_1, hs_2⟩
      refine .weaken _ hw_1 <| .condD rfl (fun hc_2 => ?_) (fun hc_2 => ?_)
      · refine .seq <| .region <| .s rfl rfl <| .nil <| .ret ?_
        show PostK _ _ _ _ _ _
        refine post1 rfl rfl ?_
        exact ⟨rfl, hs_2⟩
      · refine .skip <| .region <| .e rfl (.addI (b := 1) rfl rfl (by omega)) <| .m rfl rfl <| .nil ?_
        exact ⟨k + 1, ⟨rfl, rfl, rfl, rfl, trivial⟩, ⟨hs_2, by omega, all_take hgd hx (by simpa using hc_2)⟩, (show (z.length - (k + 1)) < (z.length - k) from by omega)⟩
  · refine .exit0 <| .seq ?_
    obtain ⟨x, hx, hxb⟩ := hbad
    rw [show k = z.length by omega, List.take_length] at hgd
    exact absurd hxb (hgd x hx)
theorem rcheck_ok (v : Value) (l : List Nat) (w : World) (hv : RdL w v (encN .i64) l) (hl : OkN l) :
    CallsV Tryz.prog 25 [v] w fun r w' => r = .int .i64 ((0 : Nat) : Int) ∧ Sat w [] w' := by
  have hs0 := Sat.start w
  refine callsV_of Tryz.func25 rfl rfl ?_
  refine .seq ?_
  have hlen := hl.len
  refine .region <| .s rfl rfl <| .nil <| .seq <| .seq <| .region <| .m rfl rfl <| .e rfl (.lenL Tryz.underlying27 rfl (hv.ext hs0.ext)) <| .e rfl (.gtrN (b := 4096) rfl rfl) <| .nil <| .condF rfl (decide_eq_false (by have := hl.len; omega)) <| .skip <| .seq <| .seq <| .region <| .m rfl rfl <| .e rfl (.lenL Tryz.underlying27 rfl (hv.ext hs0.ext)) <| .m rfl rfl <| .nil <| .block <| .loop (α := Nat) (fun k => [(0, v), (8, v), (9, (.int .i64 l.length)), (10, (.int .i64 k))]) (fun k w' => Sat w [] w' ∧ (k ≤ l.length)) (fun k => l.length - k) 0 ⟨rfl, rfl, rfl, rfl, trivial⟩ ⟨hs0, Nat.zero_le _⟩ ?_
  rintro k w_1 ⟨hs_1, hk⟩
  show CW _ _ _ _ [(0, v), (8, v), (9, (.int .i64 l.length)), (10, (.int .i64 k))] _
  refine .seq <| .region <| .e rfl (.lssN rfl rfl) <| .nil <| .seq <| .condD rfl (fun hc_1 => ?_) (fun hc_1 => ?_)
  · refine .skip <| .seq <| .block <| .seq ?_
    obtain ⟨x, hx⟩ : ∃ x, (l)[k]? = some x := ⟨_, List.getElem?_eq_getElem hc_1⟩
    refine .region <| .e rfl (.idxL (E := encN .i64) sl27 rfl rfl (hv.ext hs_1.ext) (by omega)) <| .e rfl (.ldL (E := encN .i64) scal3 rfl (hv.ext hs_1.ext) hx (by decide) rfl) <| .s rfl rfl <| .nil <| .seq <| .mid (fun L' w' => Weak [(0, v), (4, (.int .i64 x)), (8, v), (9, (.int .i64 l.length)), (10, (.int .i64 k)), (11, (.bool (decide (k < l.length)))), (19, (.bool (decide ((x < 0) ∨ (1024 ≤ x)))))] L' ∧ Sat w [] w') ?_ ?_
    · refine .region <| .m rfl rfl <| .e rfl (.lssN (b := 0) rfl rfl) <| .m rfl rfl ?_
      by_cases hg_1 : x < 0
      · refine .no rfl rfl rfl (decide_eq_true hg_1) rfl <| .no rfl rfl rfl (decide_eq_true hg_1) rfl <| .e rfl (.pickY rfl (decide_eq_true hg_1) rfl) <| .nil ?_
        exact ⟨⟨rfl, rfl, rfl, rfl, rfl, rfl, congrArg some (congrArg Value.bool (by simp [hg_1])), trivial⟩, hs_1⟩
      · refine .yes rfl rfl rfl (decide_eq_false hg_1) <| .m rfl rfl <| .yes rfl rfl rfl (decide_eq_false hg_1) <| .e rfl (.geqN (b := 1024) rfl rfl) <| .e rfl (.pickN rfl (decide_eq_false hg_1) rfl) <| .nil ?_
        exact ⟨⟨rfl, rfl, rfl, rfl, rfl, rfl, congrArg some (congrArg Value.bool (by simp [hg_1])), trivial⟩, hs_1⟩
    · rintro L' w_2 ⟨hw_1, hs_2⟩
      refine .weaken _ hw_1 <| .condF rfl (decide_eq_false (by have := hl.lt x (mem_of_get hx); omega)) <| .skip <| .region <| .e rfl (.addI (b := 1) rfl rfl (by omega)) <| .m rfl rfl <| .nil ?_
      exact ⟨k + 1, ⟨rfl, rfl, rfl, rfl, trivial⟩, ⟨hs_2, by omega⟩, (show (l.length - (k + 1)) < (l.length - k) from by omega)⟩
  · refine .exit0 <| .seq <| .region <| .s rfl rfl <| .nil <| .ret ?_
    show PostK _ _ _ _ _ _
    refine post1 rfl rfl ?_
    exact ⟨rfl, hs_1⟩
theorem awake_ok (w : World) :
    CallsV Tryz.prog 7 [] w fun r w' => r = .bool true ∧ Sat w [] w' := by
  have hs0 := Sat.start w
  refine callsV_of Tryz.func7 rfl rfl ?_
  refine .seq <| .region <| .s rfl rfl <| .nil <| .seq <| .region <| .f rfl (.litN (encN .i64) [5, 5, 5] sl27 rfl ⟨rfl, rfl, rfl, trivial⟩ rfl rfl rfl rfl (by decide) (by decide) hs0 fun v_1 w_1 hs_1 hch_1 => ?_)
  refine .f rfl (.call ent13 rfl ((build_ok _ ([5, 5, 5]) _ (hs_1.rdL 0 rfl) (ok555)).mono fun r_1 w_2 h_1 => ?_))
  obtain ⟨g_1, lv_1, bv_1, ps_1, rfl, hps_1, hp_1⟩ := h_1
  have hs_2 := hs_1.adds hp_1
  refine .m rfl rfl <| .e rfl (.extract rfl rfl) <| .e rfl (.extract rfl rfl) <| .s rfl rfl <| .s rfl rfl <| .nil <| .seq <| .region <| .m rfl rfl <| .e rfl (.eqlN (a := 0) (b := 0) rfl rfl) <| .m rfl rfl <| .yes rfl rfl rfl (rfl) <| .m rfl rfl <| .yes rfl rfl rfl (rfl) <| .e rfl (.neqPt Tryz.underlying23 rfl rfl) <| .e rfl (.pickY rfl (rfl) rfl) <| .m rfl rfl <| .yes rfl rfl rfl (rfl) <| .m rfl rfl <| .yes rfl rfl rfl (rfl) <| .f rfl (.call ent27 rfl ((skind_ok _ ((kindN ([5, 5, 5]))) _ (hs_2.cell (i := 1) (j := 1) rfl rfl)).mono fun r_2 w_3 h_2 => ?_))
  obtain ⟨rfl, hp_2⟩ := h_2
  have hs_3 : Sat w [_, _, _, _, _, _] _ := hs_2.adds hp_2
  refine .yes rfl rfl rfl (rfl) <| .e rfl (.eqlN (b := 0) rfl rfl) <| .e rfl (.pickY rfl (rfl) rfl) <| .m rfl rfl <| .yes rfl rfl rfl (decide_eq_true aw_kind) <| .m rfl rfl <| .yes rfl rfl rfl (decide_eq_true aw_kind) <| .f rfl (.call ent11 rfl ((sencode_ok g_1 ((([5, 5, 5])).length) (kindN ([5, 5, 5])) lv_1 bv_1 (lensK ([5, 5, 5])) ps_1 _ (hs_3.cell (i := 1) (j := 0) rfl rfl) (hs_3.cell (i := 1) (j := 1) rfl rfl) (hs_3.cell (i := 1) (j := 2) rfl rfl) (hs_3.cell (i := 1) (j := 3) rfl rfl) (hs_3.rdL 2 rfl) (hs_3.rdL 3 rfl) (hs_3.rdParts 4 rfl) (by decide) (kindN_le _) (lensK_len ok555) ((ptsK_b hps_1 ok555).1) ((ptsK_b hps_1 ok555).2) (by rw [hps_1]; exact ptsK_lt _)).mono fun r_3 w_4 h_3 => ?_))
  have hp_3 := h_3
  have hs_4 := hs_3.adds hp_3
  refine .yes rfl rfl rfl (decide_eq_true aw_kind) <| .e rfl (.lenL Tryz.underlying22 rfl (hs_4.rdL 6 rfl)) <| .yes rfl rfl rfl (decide_eq_true aw_kind) <| .e rfl (.eqlN (b := 12) rfl rfl) <| .e rfl (.pickY rfl (decide_eq_true aw_kind) rfl) <| .m rfl rfl <| .yes rfl rfl rfl (decide_eq_true (by rw [hps_1, aw_seal]; rfl)) <| .m rfl rfl <| .yes rfl rfl rfl (decide_eq_true (by rw [hps_1, aw_seal]; rfl)) <| .f rfl (.call ent11 rfl ((sencode_ok g_1 ((([5, 5, 5])).length) (kindN ([5, 5, 5])) lv_1 bv_1 (lensK ([5, 5, 5])) ps_1 _ (hs_4.cell (i := 1) (j := 0) rfl rfl) (hs_4.cell (i := 1) (j := 1) rfl rfl) (hs_4.cell (i := 1) (j := 2) rfl rfl) (hs_4.cell (i := 1) (j := 3) rfl rfl) (hs_4.rdL 2 rfl) (hs_4.rdL 3 rfl) (hs_4.rdParts 4 rfl) (by decide) (kindN_le _) (lensK_len ok555) ((ptsK_b hps_1 ok555).1) ((ptsK_b hps_1 ok555).2) (by rw [hps_1]; exact ptsK_lt _)).mono fun r_4 w_5 h_4 => ?_))
  have hp_4 := h_4
  have hs_5 := hs_4.adds hp_4
  refine .yes rfl rfl rfl (decide_eq_true (by rw [hps_1, aw_seal]; rfl)) <| .e rfl (.sliceL (E := encN .u8) (a := 0) (c := 8) sl22 rfl (hs_5.rdL 7 rfl) rfl ⟨_, rfl⟩ (by omega) (by rw [hps_1, aw_seal]; decide)) <| .yes rfl rfl rfl (decide_eq_true (by rw [hps_1, aw_seal]; rfl)) <| .e rfl (.bytesStr Tryz.underlying22 Tryz.underlying9 Tryz.underlying5 rfl (((hs_5.rdL 7 rfl)).sub (a := 0) (b := 8) (by omega) (by rw [hps_1, aw_seal]; decide))) <| .yes rfl rfl rfl (decide_eq_true (by rw [hps_1, aw_seal]; rfl)) <| .e rfl (.strEql rfl rfl) <| .e rfl (.pickY rfl (decide_eq_true (by rw [hps_1, aw_seal]; rfl)) rfl) <| .s rfl rfl <| .nil <| .ret ?_
  show PostK _ _ _ _ _ _
  refine post1 rfl rfl ?_
  have hs_6 : Sat w [] w_5 := hs_5.sub ((.cons _ (.cons _ (.cons _ (.cons _ (.cons _ (.cons _ (.cons _ (.cons _ .slnil)))))))))
  exact ⟨congrArg Value.bool (decide_eq_true (by rw [hps_1, aw_seal]; rfl)), hs_6⟩
end Go.Proofs.YtecfgjdpghddgaaGreat
namespace Go.Proofs.YtecfgjdpghddgaaGreat
open Go.RowKit Go.Kw
set_option maxRecDepth 100000
theorem uvarint_ok (v : Value) (l : List Nat) (w : World) (hv : RdL w v (encN .u8) l) (hb : ∀ x ∈ l, x < 256) :
    CallsV Tryz.prog 69 [v] w fun r w' => r = .tuple #[.int .u64 ((uvR l).1 : Nat), .int .i64 ((uvR l).2.1 : Nat), .int .i64 ((uvR l).2.2 : Nat)] ∧ Sat w [] w' := by
  have hs0 := Sat.start w
  refine callsV_of Tryz.func69 rfl rfl ?_
  refine .seq <| .region <| .s rfl rfl <| .s rfl rfl <| .s rfl rfl <| .nil <| .seq <| .seq <| .region <| .m rfl rfl <| .e rfl (.lenL Tryz.underlying22 rfl (hv.ext hs0.ext)) <| .m rfl rfl <| .nil <| .block <| .loop (α := Nat × Nat) (fun (k, u) => [(2, (.int .u64 u)), (7, v), (8, (.int .i64 l.length)), (9, (.int .i64 k))]) (fun (k, u) w' => Sat w [] w' ∧ (k ≤ l.length) ∧ (uvr k u (l.drop k) = uvr 0 0 l) ∧ (u < 2 ^ (7 * k)) ∧ (k ≤ 9)) (fun (k, u) => l.length - k) (0, 0) ⟨rfl, rfl, rfl, rfl, trivial⟩ ⟨hs0, Nat.zero_le _, rfl, by decide, by omega⟩ ?_
  rintro ⟨k, u⟩ w_1 ⟨hs_1, hk, hinv, hvk, hk9⟩
  show CW _ _ _ _ [(2, (.int .u64 u)), (7, v), (8, (.int .i64 l.length)), (9, (.int .i64 k))] _
  refine .seq <| .region <| .e rfl (.lssN rfl rfl) <| .nil <| .seq <| .condD rfl (fun hc_1 => ?_) (fun hc_1 => ?_)
  · refine .skip <| .seq <| .block <| .seq ?_
    obtain ⟨x, hx⟩ : ∃ x, (l)[k]? = some x := ⟨_, List.getElem?_eq_getElem hc_1⟩
    refine .region <| .m rfl rfl <| .e rfl (.idxL (E := encN .u8) sl22 rfl rfl (hv.ext hs_1.ext) (by omega)) <| .e rfl (.ldL (E := encN .u8) scal5 rfl (hv.ext hs_1.ext) hx (by decide) rfl) <| .s rfl rfl <| .s rfl rfl <| .nil <| .seq <| .seq ?_
    have hdk := drop_of_get hx
    have hx256 := hb x (mem_of_get hx)
    have hstep := hinv
    rw [hdk, uvr] at hstep
    refine .mid (fun L' w' => Weak [(2, (.int .u64 u)), (5, (.int .i64 k)), (6, (.int .u8 x)), (7, v), (8, (.int .i64 l.length)), (9, (.int .i64 k)), (10, (.bool (decide (k < l.length)))), (19, (.bool (decide ((k = 9) ∧ (x ≠ 1)))))] L' ∧ Sat w [] w') ?_ ?_
    · refine .region <| .m rfl rfl <| .e rfl (.eqlN (b := 9) rfl rfl) <| .m rfl rfl ?_
      by_cases hg_1 : k = 9
      · refine .yes rfl rfl rfl (decide_eq_true hg_1) <| .m rfl rfl <| .yes rfl rfl rfl (decide_eq_true hg_1) <| .e rfl (.neqN (b := 1) rfl rfl) <| .e rfl (.pickY rfl (decide_eq_true hg_1) rfl) <| .nil ?_
        exact ⟨⟨rfl, rfl, rfl, rfl, rfl, rfl, rfl, congrArg some (congrArg Value.bool (by simp [hg_1])), trivial⟩, hs_1⟩
      · refine .no rfl rfl rfl (decide_eq_false hg_1) rfl <| .no rfl rfl rfl (decide_eq_false hg_1) rfl <| .e rfl (.pickN rfl (decide_eq_false hg_1) rfl) <| .nil ?_
        exact ⟨⟨rfl, rfl, rfl, rfl, rfl, rfl, rfl, congrArg some (congrArg Value.bool (by simp [hg_1])), trivial⟩, hs_1⟩
    · rintro L' w_2 ⟨hw_1, hs_2⟩
      refine .weaken _ hw_1 <| .condD rfl (fun hc_2 => ?_) (fun hc_2 => ?_)
      · refine .seq <| .region <| .s rfl rfl <| .s rfl rfl <| .s rfl rfl <| .nil <| .ret ?_
        show PostK _ _ _ _ _ _
        refine post3 rfl rfl rfl rfl ?_
        rw [if_pos (by simpa using hc_2)] at hstep
        exact ⟨by rw [uvR, ← hstep]; rfl, hs_2⟩
      · refine .skip <| .seq ?_
        have h9' : ¬ (k = 9 ∧ x ≠ 1) := by simpa using hc_2
        rw [if_neg h9'] at hstep
        have hor := uvr_or (c := x) hvk hk9 h9'
        have hbd := uvr_bound (c := x) hvk
        have hsm := uvr_small (c := x) hk9 h9'
        have hpk : 2 ^ (7 * k) ≤ 2 ^ 63 := Nat.pow_le_pow_right (by decide) (by omega)
        refine .region <| .m rfl rfl <| .m rfl rfl <| .e rfl (.maskN (b := 127) 7 rfl rfl rfl (by decide) (by (try simp only [IntKind.bits]); omega) (by decide)) <| .e rfl (.convK (by rw [Tryz.underlying5]; rfl) Tryz.underlying56 rfl (wrap_u rfl (by (try simp only [IntKind.bits]); omega))) <| .m rfl rfl <| .e rfl (.mulI (a := 7) rfl rfl (by omega)) <| .e rfl (.shlN rfl rfl rfl (by (try simp only [IntKind.bits]); omega)) <| .e rfl (.orN rfl rfl rfl (by (try simp only [IntKind.bits]); omega) (by (try simp only [IntKind.bits]); omega)) <| .s rfl rfl <| .nil <| .seq <| .region <| .m rfl rfl <| .e rfl (.lssN (b := 128) rfl rfl) <| .nil <| .condD rfl (fun hc_3 => ?_) (fun hc_3 => ?_)
        · refine .seq <| .seq <| .mid (fun L' w' => Weak [(2, (.int .u64 ((u ||| ((x % 2 ^ 7) * 2 ^ (7 * k) % 2 ^ 64)) : Nat))), (5, (.int .i64 k)), (6, (.int .u8 x)), (7, v), (8, (.int .i64 l.length)), (9, (.int .i64 k)), (10, (.bool (decide (k < l.length)))), (19, (.bool (decide ((k = 9) ∧ (x ≠ 1))))), (29, (.bool (decide (x < 128)))), (35, (.bool (decide ((x = 0) ∧ (0 < k)))))] L' ∧ Sat w [] w') ?_ ?_
          · refine .region <| .m rfl rfl <| .e rfl (.eqlN (b := 0) rfl rfl) <| .m rfl rfl ?_
            by_cases hg_2 : x = 0
            · refine .yes rfl rfl rfl (decide_eq_true hg_2) <| .m rfl rfl <| .yes rfl rfl rfl (decide_eq_true hg_2) <| .e rfl (.gtrN (b := 0) rfl rfl) <| .e rfl (.pickY rfl (decide_eq_true hg_2) rfl) <| .nil ?_
              exact ⟨⟨rfl, rfl, rfl, rfl, rfl, rfl, rfl, rfl, rfl, congrArg some (congrArg Value.bool (by simp [hg_2])), trivial⟩, hs_2⟩
            · refine .no rfl rfl rfl (decide_eq_false hg_2) rfl <| .no rfl rfl rfl (decide_eq_false hg_2) rfl <| .e rfl (.pickN rfl (decide_eq_false hg_2) rfl) <| .nil ?_
              exact ⟨⟨rfl, rfl, rfl, rfl, rfl, rfl, rfl, rfl, rfl, congrArg some (congrArg Value.bool (by simp [hg_2])), trivial⟩, hs_2⟩
          · rintro L' w_3 ⟨hw_2, hs_3⟩
            refine .weaken _ hw_2 <| .condD rfl (fun hc_4 => ?_) (fun hc_4 => ?_)
            · refine .seq <| .region <| .s rfl rfl <| .s rfl rfl <| .s rfl rfl <| .nil <| .ret ?_
              show PostK _ _ _ _ _ _
              refine post3 rfl rfl rfl rfl ?_
              rw [if_pos hc_3, if_pos (by simpa using hc_4)] at hstep
              exact ⟨by rw [uvR, ← hstep]; rfl, hs_3⟩
            · refine .skip <| .seq <| .region <| .m rfl rfl <| .m rfl rfl <| .e rfl (.addI (b := 1) rfl rfl (by omega)) <| .s rfl rfl <| .s rfl rfl <| .s rfl rfl <| .nil <| .ret ?_
              show PostK _ _ _ _ _ _
              refine post3 rfl rfl rfl rfl ?_
              rw [if_pos hc_3, if_neg (by simpa using hc_4)] at hstep
              exact ⟨by rw [uvR, ← hstep, hor]; rfl, hs_3⟩
        · refine .skip <| .region <| .e rfl (.addI (b := 1) rfl rfl (by omega)) <| .m rfl rfl <| .nil ?_
          exact ⟨(k + 1, (u ||| ((x % 2 ^ 7) * 2 ^ (7 * k) % 2 ^ 64))), ⟨rfl, rfl, rfl, rfl, trivial⟩, ⟨hs_2, by omega, by rw [hor, ← hstep, if_neg hc_3], by rw [hor]; exact hbd, by rcases Nat.lt_or_ge k 9 with h | h; (omega); exact absurd ⟨(by omega : k = 9), (by omega : x ≠ 1)⟩ h9'⟩, (show (l.length - (k + 1)) < (l.length - k) from by omega)⟩
  · refine .exit0 <| .seq <| .region <| .s rfl rfl <| .s rfl rfl <| .s rfl rfl <| .nil <| .ret ?_
    show PostK _ _ _ _ _ _
    refine post3 rfl rfl rfl rfl ?_
    rw [show k = l.length by omega, List.drop_length, uvr] at hinv
    exact ⟨by rw [uvR, ← hinv]; rfl, hs_1⟩
theorem bnum_ok (w0 w : World) (cs : List Chunk) (g : Nat) (bv : Value) (ok : Bool) (bl : List Nat) (lim : Nat) (hs : Sat w0 ([cObj g 117 [bv, .bool ok]] ++ cs) w) (hb : RdL w0 bv (encN .u8) bl) (hbb : ∀ x ∈ bl, x < 256) (hn : bl.length ≤ 1000000000) (hlim : lim ≤ 1000000000000) :
    CallsV Tryz.prog 71 [(.pointer (some ⟨g, 0, none⟩)), (.int .i64 lim)] w fun r w' => r = .int .i64 ((numN ok bl lim).1 : Nat) ∧ ∃ bv', RdL w0 bv' (encN .u8) (numN ok bl lim).2.2 ∧ Sat w0 ([cObj g 117 [bv', .bool (numN ok bl lim).2.1]] ++ cs) w' := by
  refine callsV_of Tryz.func71 rfl rfl ?_
  refine .seq <| .region <| .s rfl rfl <| .nil <| .seq <| .region <| .m rfl rfl <| .e rfl (.nilCheck rfl) <| .e rfl (.fieldAddr fld117_0 rfl rfl) <| .e rfl (.load scal22 rfl (hs.cell (i := 0) (j := 0) rfl rfl)) <| .f rfl (.call ent69 rfl ((uvarint_ok _ (bl) _ (hb.ext hs.ext) (hbb)).mono fun r_1 w_1 h_1 => ?_))
  obtain ⟨rfl, hp_1⟩ := h_1
  have hs_1 : Sat w0 ([cObj g 117 [bv, (.bool ok)]] ++ cs) _ := (hs.adds hp_1).mid
  refine .m rfl rfl <| .e rfl (.extract rfl rfl) <| .e rfl (.extract rfl rfl) <| .e rfl (.extract rfl rfl) <| .s rfl rfl <| .s rfl rfl <| .s rfl rfl <| .nil <| .seq <| .seq <| .mid (fun L' w' => Weak [(0, (.pointer (some ⟨g, 0, none⟩))), (1, (.int .i64 lim)), (4, (.int .i64 (0 : Nat))), (5, (.int .u64 ((uvR bl).1 : Nat))), (6, (.int .i64 ((uvR bl).2.1 : Nat))), (7, (.int .i64 ((uvR bl).2.2 : Nat))), (31, (.bool (decide ((((!ok) = true) ∨ ((uvR bl).2.2 ≠ 0)) ∨ (lim < (uvR bl).1)))))] L' ∧ Sat w0 ([cObj g 117 [bv, (.bool ok)]] ++ cs) w') ?_ ?_
  · refine .region <| .m rfl rfl <| .e rfl (.nilCheck rfl) <| .e rfl (.fieldAddr fld117_1 rfl rfl) <| .e rfl (.load scal4 rfl (hs_1.cell (i := 0) (j := 1) rfl rfl)) <| .e rfl (.notB rfl) <| .m rfl rfl ?_
    by_cases hg_1 : (!ok) = true
    · refine .no rfl rfl rfl (hg_1) rfl <| .no rfl rfl rfl (hg_1) rfl <| .e rfl (.pickY rfl (hg_1) rfl) <| .m rfl rfl <| .no rfl rfl rfl (rfl) rfl <| .no rfl rfl rfl (rfl) rfl <| .no rfl rfl rfl (rfl) rfl <| .no rfl rfl rfl (rfl) rfl <| .e rfl (.pickY rfl (rfl) rfl) <| .nil ?_
      exact ⟨⟨rfl, rfl, rfl, rfl, rfl, rfl, congrArg some (congrArg Value.bool (by simp [hg_1])), trivial⟩, hs_1⟩
    · refine .yes rfl rfl rfl (by simpa using hg_1) <| .m rfl rfl <| .yes rfl rfl rfl (by simpa using hg_1) <| .e rfl (.neqN (b := 0) rfl rfl) <| .e rfl (.pickN rfl (by simpa using hg_1) rfl) <| .m rfl rfl ?_
      by_cases hg_2 : (uvR bl).2.2 ≠ 0
      · refine .no rfl rfl rfl (decide_eq_true hg_2) rfl <| .no rfl rfl rfl (decide_eq_true hg_2) rfl <| .no rfl rfl rfl (decide_eq_true hg_2) rfl <| .no rfl rfl rfl (decide_eq_true hg_2) rfl <| .e rfl (.pickY rfl (decide_eq_true hg_2) rfl) <| .nil ?_
        exact ⟨⟨rfl, rfl, rfl, rfl, rfl, rfl, congrArg some (congrArg Value.bool (by simp [hg_1, hg_2])), trivial⟩, hs_1⟩
      · refine .yes rfl rfl rfl (decide_eq_false hg_2) <| .m rfl rfl <| .yes rfl rfl rfl (decide_eq_false hg_2) <| .m rfl rfl <| .yes rfl rfl rfl (decide_eq_false hg_2) <| .e rfl (.convK (by rw [Tryz.underlying3]; rfl) Tryz.underlying56 rfl (wrap_u rfl (by (try simp only [IntKind.bits]); omega))) <| .yes rfl rfl rfl (decide_eq_false hg_2) <| .e rfl (.gtrN rfl rfl) <| .e rfl (.pickN rfl (decide_eq_false hg_2) rfl) <| .nil ?_
        exact ⟨⟨rfl, rfl, rfl, rfl, rfl, rfl, congrArg some (congrArg Value.bool (by simp [hg_1, hg_2])), trivial⟩, hs_1⟩
  · rintro L' w_2 ⟨hw_1, hs_2⟩
    refine .weaken _ hw_1 <| .condD rfl (fun hc_1 => ?_) (fun hc_1 => ?_)
    · refine .seq <| .region <| .m rfl rfl <| .e rfl (.nilCheck rfl) <| .e rfl (.fieldAddr fld117_1 rfl rfl) <| .f rfl (.storeObj one4 hs_2 (i := 0) rfl rfl rfl (rfl) rfl fun w_3 hs_3 hch_1 => ?_)
      refine .nil <| .seq <| .region <| .s rfl rfl <| .nil <| .ret ?_
      show PostK _ _ _ _ _ _
      refine post1 rfl rfl ?_
      have hN : numN ok bl lim = (0, false, bl) := by rw [numN, if_pos (by simpa [or_assoc] using hc_1)]
      exact ⟨by rw [hN]; rfl, _, by rw [hN]; exact hb, by rw [hN]; exact hs_3⟩
    · refine .skip <| .seq ?_
      have hule := uvR_le bl
      refine .region <| .m rfl rfl <| .m rfl rfl <| .e rfl (.nilCheck rfl) <| .e rfl (.fieldAddr fld117_0 rfl rfl) <| .e rfl (.load scal22 rfl (hs_2.cell (i := 0) (j := 0) rfl rfl)) <| .m rfl rfl <| .e rfl (.sliceL (E := encN .u8) (a := (uvR bl).2.1) (c := (bl).length) sl22 rfl (hb.ext hs_2.ext) ⟨_, rfl⟩ rfl (hule) (Nat.le_refl _)) <| .e rfl (.nilCheck rfl) <| .e rfl (.fieldAddr fld117_0 rfl rfl) <| .f rfl (.storeObj one22 hs_2 (i := 0) rfl rfl rfl ((((hb.ext hs_2.ext)).sub (a := (uvR bl).2.1) (b := (bl).length) (hule) (Nat.le_refl _)).oneCell) rfl fun w_4 hs_4 hch_2 => ?_)
      refine .nil <| .seq ?_
      have hlv : (uvR bl).1 ≤ lim := Nat.le_of_not_lt fun h => hc_1 (by simp [h])
      refine .region <| .m rfl rfl <| .e rfl (.convK (by rw [Tryz.underlying56]; rfl) Tryz.underlying3 rfl (wrap_i (by omega))) <| .s rfl rfl <| .nil <| .ret ?_
      show PostK _ _ _ _ _ _
      refine post1 rfl rfl ?_
      have hN : numN ok bl lim = ((uvR bl).1, true, bl.drop (uvR bl).2.1) := by rw [numN, if_neg (by simpa [or_assoc] using hc_1)]
      have hok : ok = true := by cases ok <;> simp_all
      subst hok
      refine ⟨by rw [hN], _, ?_, by rw [hN]; exact hs_4⟩
      rw [hN]
      have hsub := hb.sub (a := (uvR bl).2.1) (b := bl.length) (uvR_le bl) (Nat.le_refl _)
      rw [List.take_length] at hsub
      exact hsub
theorem tnum_ok (w0 w : World) (cs : List Chunk) (g : Nat) (bv : Value) (ok : Bool) (bl : List Nat) (lim : Nat) (hs : Sat w0 ([cObj g 51 [bv, .bool ok]] ++ cs) w) (hb : RdL w0 bv (encN .u8) bl) (hbb : ∀ x ∈ bl, x < 256) (hn : bl.length ≤ 1000000000) (hlim : lim ≤ 1000000000000) :
    CallsV Tryz.prog 43 [(.pointer (some ⟨g, 0, none⟩)), (.int .i64 lim)] w fun r w' => r = .int .i64 ((numN ok bl lim).1 : Nat) ∧ ∃ bv', RdL w0 bv' (encN .u8) (numN ok bl lim).2.2 ∧ Sat w0 ([cObj g 51 [bv', .bool (numN ok bl lim).2.1]] ++ cs) w' := by
  refine callsV_of Tryz.func43 rfl rfl ?_
  refine .seq <| .region <| .s rfl rfl <| .nil <| .seq <| .region <| .m rfl rfl <| .e rfl (.nilCheck rfl) <| .e rfl (.fieldAddr fld51_0 rfl rfl) <| .e rfl (.load scal22 rfl (hs.cell (i := 0) (j := 0) rfl rfl)) <| .f rfl (.call ent69 rfl ((uvarint_ok _ (bl) _ (hb.ext hs.ext) (hbb)).mono fun r_1 w_1 h_1 => ?_))
  obtain ⟨rfl, hp_1⟩ := h_1
  have hs_1 : Sat w0 ([cObj g 51 [bv, (.bool ok)]] ++ cs) _ := (hs.adds hp_1).mid
  refine .m rfl rfl <| .e rfl (.extract rfl rfl) <| .e rfl (.extract rfl rfl) <| .e rfl (.extract rfl rfl) <| .s rfl rfl <| .s rfl rfl <| .s rfl rfl <| .nil <| .seq <| .seq <| .mid (fun L' w' => Weak [(0, (.pointer (some ⟨g, 0, none⟩))), (1, (.int .i64 lim)), (4, (.int .i64 (0 : Nat))), (5, (.int .u64 ((uvR bl).1 : Nat))), (6, (.int .i64 ((uvR bl).2.1 : Nat))), (7, (.int .i64 ((uvR bl).2.2 : Nat))), (31, (.bool (decide ((((!ok) = true) ∨ ((uvR bl).2.2 ≠ 0)) ∨ (lim < (uvR bl).1)))))] L' ∧ Sat w0 ([cObj g 51 [bv, (.bool ok)]] ++ cs) w') ?_ ?_
  · refine .region <| .m rfl rfl <| .e rfl (.nilCheck rfl) <| .e rfl (.fieldAddr fld51_1 rfl rfl) <| .e rfl (.load scal4 rfl (hs_1.cell (i := 0) (j := 1) rfl rfl)) <| .e rfl (.notB rfl) <| .m rfl rfl ?_
    by_cases hg_1 : (!ok) = true
    · refine .no rfl rfl rfl (hg_1) rfl <| .no rfl rfl rfl (hg_1) rfl <| .e rfl (.pickY rfl (hg_1) rfl) <| .m rfl rfl <| .no rfl rfl rfl (rfl) rfl <| .no rfl rfl rfl (rfl) rfl <| .no rfl rfl rfl (rfl) rfl <| .no rfl rfl rfl (rfl) rfl <| .e rfl (.pickY rfl (rfl) rfl) <| .nil ?_
      exact ⟨⟨rfl, rfl, rfl, rfl, rfl, rfl, congrArg some (congrArg Value.bool (by simp [hg_1])), trivial⟩, hs_1⟩
    · refine .yes rfl rfl rfl (by simpa using hg_1) <| .m rfl rfl <| .yes rfl rfl rfl (by simpa using hg_1) <| .e rfl (.neqN (b := 0) rfl rfl) <| .e rfl (.pickN rfl (by simpa using hg_1) rfl) <| .m rfl rfl ?_
      by_cases hg_2 : (uvR bl).2.2 ≠ 0
      · refine .no rfl rfl rfl (decide_eq_true hg_2) rfl <| .no rfl rfl rfl (decide_eq_true hg_2) rfl <| .no rfl rfl rfl (decide_eq_true hg_2) rfl <| .no rfl rfl rfl (decide_eq_true hg_2) rfl <| .e rfl (.pickY rfl (decide_eq_true hg_2) rfl) <| .nil ?_
        exact ⟨⟨rfl, rfl, rfl, rfl, rfl, rfl, congrArg some (congrArg Value.bool (by simp [hg_1, hg_2])), trivial⟩, hs_1⟩
      · refine .yes rfl rfl rfl (decide_eq_false hg_2) <| .m rfl rfl <| .yes rfl rfl rfl (decide_eq_false hg_2) <| .m rfl rfl <| .yes rfl rfl rfl (decide_eq_false hg_2) <| .e rfl (.convK (by rw [Tryz.underlying3]; rfl) Tryz.underlying56 rfl (wrap_u rfl (by (try simp only [IntKind.bits]); omega))) <| .yes rfl rfl rfl (decide_eq_false hg_2) <| .e rfl (.gtrN rfl rfl) <| .e rfl (.pickN rfl (decide_eq_false hg_2) rfl) <| .nil ?_
        exact ⟨⟨rfl, rfl, rfl, rfl, rfl, rfl, congrArg some (congrArg Value.bool (by simp [hg_1, hg_2])), trivial⟩, hs_1⟩
  · rintro L' w_2 ⟨hw_1, hs_2⟩
    refine .weaken _ hw_1 <| .condD rfl (fun hc_1 => ?_) (fun hc_1 => ?_)
    · refine .seq <| .region <| .m rfl rfl <| .e rfl (.nilCheck rfl) <| .e rfl (.fieldAddr fld51_1 rfl rfl) <| .f rfl (.storeObj one4 hs_2 (i := 0) rfl rfl rfl (rfl) rfl fun w_3 hs_3 hch_1 => ?_)
      refine .nil <| .seq <| .region <| .s rfl rfl <| .nil <| .ret ?_
      show PostK _ _ _ _ _ _
      refine post1 rfl rfl ?_
      have hN : numN ok bl lim = (0, false, bl) := by rw [numN, if_pos (by simpa [or_assoc] using hc_1)]
      exact ⟨by rw [hN]; rfl, _, by rw [hN]; exact hb, by rw [hN]; exact hs_3⟩
    · refine .skip <| .seq ?_
      have hule := uvR_le bl
      refine .region <| .m rfl rfl <| .m rfl rfl <| .e rfl (.nilCheck rfl) <| .e rfl (.fieldAddr fld51_0 rfl rfl) <| .e rfl (.load scal22 rfl (hs_2.cell (i := 0) (j := 0) rfl rfl)) <| .m rfl rfl <| .e rfl (.sliceL (E := encN .u8) (a := (uvR bl).2.1) (c := (bl).length) sl22 rfl (hb.ext hs_2.ext) ⟨_, rfl⟩ rfl (hule) (Nat.le_refl _)) <| .e rfl (.nilCheck rfl) <| .e rfl (.fieldAddr fld51_0 rfl rfl) <| .f rfl (.storeObj one22 hs_2 (i := 0) rfl rfl rfl ((((hb.ext hs_2.ext)).sub (a := (uvR bl).2.1) (b := (bl).length) (hule) (Nat.le_refl _)).oneCell) rfl fun w_4 hs_4 hch_2 => ?_)
      refine .nil <| .seq ?_
      have hlv : (uvR bl).1 ≤ lim := Nat.le_of_not_lt fun h => hc_1 (by simp [h])
      refine .region <| .m rfl rfl <| .e rfl (.convK (by rw [Tryz.underlying56]; rfl) Tryz.underlying3 rfl (wrap_i (by omega))) <| .s rfl rfl <| .nil <| .ret ?_
      show PostK _ _ _ _ _ _
      refine post1 rfl rfl ?_
      have hN : numN ok bl lim = ((uvR bl).1, true, bl.drop (uvR bl).2.1) := by rw [numN, if_neg (by simpa [or_assoc] using hc_1)]
      have hok : ok = true := by cases ok <;> simp_all
      subst hok
      refine ⟨by rw [hN], _, ?_, by rw [hN]; exact hs_4⟩
      rw [hN]
      have hsub := hb.sub (a := (uvR bl).2.1) (b := bl.length) (uvR_le bl) (Nat.le_refl _)
      rw [List.take_length] at hsub
      exact hsub
theorem rbit_ok (g : Nat) (v : Value) (l : List Nat) (a : Nat) (w : World) (hc : w.cell? ⟨g, 0, none⟩ = some v) (hv : RdL w v (encN .u8) l) (hb : ∀ x ∈ l, x < 256) (ha : a < 8 * l.length) (hn : l.length ≤ 1000000000) :
    CallsV Tryz.prog 152 [(.pointer (some ⟨g, 0, none⟩)), (.int .i64 a)] w fun r w' => r = .int .u64 (rb l a : Nat) ∧ Sat w [] w' := by
  have hs0 := Sat.start w
  refine callsV_of Tryz.func152 rfl rfl ?_
  refine .seq <| .region <| .s rfl rfl <| .nil <| .seq ?_
  obtain ⟨x, hx⟩ : ∃ x, l[a / 2 ^ 3]? = some x := ⟨_, List.getElem?_eq_getElem (by omega)⟩
  have hx256 := hb x (mem_of_get hx)
  have hxd := Nat.div_le_self x (2 ^ (7 - a % 2 ^ 3))
  refine .region <| .m rfl rfl <| .e rfl (.nilCheck rfl) <| .e rfl (.fieldAddr fld160_0 rfl rfl) <| .e rfl (.load scal22 rfl (hs0.ext _ _ hc)) <| .m rfl rfl <| .e rfl (.shrN (b := 3) rfl rfl (by (try simp only [IntKind.bits]); omega)) <| .e rfl (.idxL (E := encN .u8) sl22 rfl rfl (hv.ext hs0.ext) (by omega)) <| .e rfl (.ldL (E := encN .u8) scal5 rfl (hv.ext hs0.ext) hx (by decide) rfl) <| .m rfl rfl <| .e rfl (.maskI (b := 7) 3 rfl rfl (by decide) (by omega) (by decide)) <| .e rfl (.subI (a := 7) rfl rfl (by omega) (by omega)) <| .e rfl (.shrN rfl rfl (by (try simp only [IntKind.bits]); omega)) <| .e rfl (.convK (by rw [Tryz.underlying5]; rfl) Tryz.underlying56 rfl (wrap_u rfl (by (try simp only [IntKind.bits]); omega))) <| .e rfl (.maskN (b := 1) 1 rfl rfl rfl (by decide) (by (try simp only [IntKind.bits]); omega) (by decide)) <| .s rfl rfl <| .nil <| .ret ?_
  show PostK _ _ _ _ _ _
  refine post1 rfl rfl ?_
  refine ⟨?_, hs0⟩
  have hd : l.getD (a / 8) 0 = x := getD_some hx
  rw [rb, hd]
theorem rtake_ok (g : Nat) (v : Value) (l : List Nat) (N a m : Nat) (w : World) (hc : w.cell? ⟨g, 0, none⟩ = some v) (hc1 : w.cell? ⟨g, 1, none⟩ = some (.int .i64 (N : Int))) (hv : RdL w v (encN .u8) l) (hb : ∀ x ∈ l, x < 256) (hN : N ≤ 8 * l.length) (hn : l.length ≤ 1000000000) (hm : m ≤ 63) (ham : a + m ≤ N) :
    CallsV Tryz.prog 142 [(.pointer (some ⟨g, 0, none⟩)), (.int .i64 a), (.int .i64 m)] w fun r w' => r = .tuple #[.int .u64 (bvN l a m : Nat), .bool true] ∧ Sat w [] w' := by
  have hs0 := Sat.start w
  refine callsV_of Tryz.func142 rfl rfl ?_
  refine .seq <| .region <| .s rfl rfl <| .s rfl rfl <| .nil <| .seq <| .seq <| .region <| .m rfl rfl <| .e rfl (.nilCheck rfl) <| .e rfl (.fieldAddr fld162_0 rfl rfl) <| .f rfl (.call ent141 rfl ((wsize_ok _ (N) _ (hs0.ext _ _ hc1)).mono fun r_1 w_1 h_1 => ?_))
  obtain ⟨rfl, hp_1⟩ := h_1
  have hs_1 := hs0.adds hp_1
  refine .m rfl rfl <| .e rfl (.subI rfl rfl (by omega) (by omega)) <| .m rfl rfl <| .e rfl (.lssN rfl rfl) <| .nil <| .condF rfl (decide_eq_false (by omega)) <| .skip <| .seq <| .region <| .s rfl rfl <| .nil <| .seq <| .seq <| .region <| .m rfl rfl <| .m rfl rfl <| .nil <| .block <| .loop (α := Nat) (fun k => [(0, (.pointer (some ⟨g, 0, none⟩))), (1, (.int .i64 a)), (8, (.int .u64 (bvN l a k))), (18, (.int .i64 m)), (19, (.int .i64 k))]) (fun k w' => Sat w [] w' ∧ (k ≤ m)) (fun k => m - k) 0 ⟨rfl, rfl, rfl, rfl, rfl, trivial⟩ ⟨hs_1, Nat.zero_le _⟩ ?_
  rintro k w_2 ⟨hs_2, hk⟩
  show CW _ _ _ _ [(0, (.pointer (some ⟨g, 0, none⟩))), (1, (.int .i64 a)), (8, (.int .u64 (bvN l a k))), (18, (.int .i64 m)), (19, (.int .i64 k))] _
  refine .seq <| .region <| .e rfl (.lssN rfl rfl) <| .nil <| .seq <| .condD rfl (fun hc_1 => ?_) (fun hc_1 => ?_)
  · refine .skip <| .seq <| .block <| .seq <| .region <| .m rfl rfl <| .s rfl rfl <| .nil ?_
    have hbl := bvN_lt l a k
    have hp63 : 2 ^ k ≤ 2 ^ 62 := Nat.pow_le_pow_right (by decide) (by omega)
    have hrl := rb_lt l (a + k)
    have hor := or_one (v := bvN l a k) hrl (by omega)
    refine .region <| .m rfl rfl <| .e rfl (.shlN (b := 1) rfl rfl rfl (by (try simp only [IntKind.bits]); omega)) <| .m rfl rfl <| .e rfl (.nilCheck rfl) <| .e rfl (.fieldAddr fld162_0 rfl rfl) <| .m rfl rfl <| .m rfl rfl <| .e rfl (.addI rfl rfl (by omega)) <| .f rfl (.call ent152 rfl ((rbit_ok _ _ (l) ((a + k)) _ (hs_2.ext _ _ hc) (hv.ext hs_2.ext) (hb) (by omega) (hn)).mono fun r_2 w_3 h_2 => ?_))
    obtain ⟨rfl, hp_2⟩ := h_2
    have hs_3 := hs_2.adds hp_2
    refine .e rfl (.orN rfl rfl rfl (by (try simp only [IntKind.bits]); omega) (by (try simp only [IntKind.bits]); omega)) <| .s rfl rfl <| .nil <| .region <| .e rfl (.addI (b := 1) rfl rfl (by omega)) <| .m rfl rfl <| .nil ?_
    exact ⟨k + 1, ⟨rfl, rfl, congrArg some (congrArg (Value.int .u64) (congrArg (fun (q : Nat) => (q : Int)) hor)), rfl, rfl, trivial⟩, ⟨hs_3, by omega⟩, (show (m - (k + 1)) < (m - k) from by omega)⟩
  · refine .exit0 <| .seq <| .region <| .m rfl rfl <| .s rfl rfl <| .s rfl rfl <| .nil <| .ret ?_
    show PostK _ _ _ _ _ _
    refine post2 rfl rfl rfl ?_
    rw [show k = m by omega]
    exact ⟨rfl, hs_2⟩
theorem rtake_no (g : Nat) (N a m : Nat) (w : World) (hc1 : w.cell? ⟨g, 1, none⟩ = some (.int .i64 (N : Int))) (hN : N ≤ 1000000000000) (ha : a ≤ N) (hm : m ≤ 63) (ham : N < a + m) :
    CallsV Tryz.prog 142 [(.pointer (some ⟨g, 0, none⟩)), (.int .i64 a), (.int .i64 m)] w fun r w' => r = .tuple #[.int .u64 ((0 : Nat) : Int), .bool false] ∧ Sat w [] w' := by
  have hs0 := Sat.start w
  refine callsV_of Tryz.func142 rfl rfl ?_
  refine .seq <| .region <| .s rfl rfl <| .s rfl rfl <| .nil <| .seq <| .seq <| .region <| .m rfl rfl <| .e rfl (.nilCheck rfl) <| .e rfl (.fieldAddr fld162_0 rfl rfl) <| .f rfl (.call ent141 rfl ((wsize_ok _ (N) _ (hs0.ext _ _ hc1)).mono fun r_1 w_1 h_1 => ?_))
  obtain ⟨rfl, hp_1⟩ := h_1
  have hs_1 := hs0.adds hp_1
  refine .m rfl rfl <| .e rfl (.subI rfl rfl (by omega) (by omega)) <| .m rfl rfl <| .e rfl (.lssN rfl rfl) <| .nil <| .condT rfl (decide_eq_true (by omega)) <| .seq <| .region <| .s rfl rfl <| .s rfl rfl <| .nil <| .ret ?_
  show PostK _ _ _ _ _ _
  refine post2 rfl rfl rfl ?_
  exact ⟨rfl, hs_1⟩
theorem rbits_ok (w0 w : World) (cs : List Chunk) (g : Nat) (v : Value) (by_ : List Nat) (N pos m : Nat) (hs : Sat w0 ([cObj g 162 [v, .int .i64 (N : Int), .int .i64 (pos : Int)], cL v 5 (encN .u8) by_] ++ cs) w) (hb : ∀ x ∈ by_, x < 256) (hN : N ≤ 8 * by_.length) (hn : by_.length ≤ 1000000000) (hm : m ≤ 63) (ham : pos + m ≤ N) :
    CallsV Tryz.prog 112 [(.pointer (some ⟨g, 0, none⟩)), (.int .i64 m)] w fun r w' => r = .tuple #[.int .u64 (bvN by_ pos m : Nat), .int .i64 ((0 : Nat) : Int)] ∧ Sat w0 ([cObj g 162 [v, .int .i64 (N : Int), .int .i64 ((pos + m : Nat) : Int)], cL v 5 (encN .u8) by_] ++ cs) w' := by
  refine callsV_of Tryz.func112 rfl rfl ?_
  refine .seq <| .region <| .s rfl rfl <| .s rfl rfl <| .nil <| .seq <| .seq <| .mid (fun L' w' => Weak [(0, (.pointer (some ⟨g, 0, none⟩))), (1, (.int .i64 m)), (4, (.int .u64 (0 : Nat))), (5, (.int .i64 (0 : Nat))), (13, (.bool (decide ((m < 0) ∨ (64 < m)))))] L' ∧ Sat w0 ([cObj g 162 [v, (.int .i64 N), (.int .i64 pos)], cL v 5 (encN .u8) (by_)] ++ cs) w') ?_ ?_
  · refine .region <| .m rfl rfl <| .e rfl (.lssN (b := 0) rfl rfl) <| .m rfl rfl ?_
    by_cases hg_1 : m < 0
    · refine .no rfl rfl rfl (decide_eq_true hg_1) rfl <| .no rfl rfl rfl (decide_eq_true hg_1) rfl <| .e rfl (.pickY rfl (decide_eq_true hg_1) rfl) <| .nil ?_
      exact ⟨⟨rfl, rfl, rfl, rfl, congrArg some (congrArg Value.bool (by simp [hg_1])), trivial⟩, hs⟩
    · refine .yes rfl rfl rfl (decide_eq_false hg_1) <| .m rfl rfl <| .yes rfl rfl rfl (decide_eq_false hg_1) <| .e rfl (.gtrN (b := 64) rfl rfl) <| .e rfl (.pickN rfl (decide_eq_false hg_1) rfl) <| .nil ?_
      exact ⟨⟨rfl, rfl, rfl, rfl, congrArg some (congrArg Value.bool (by simp [hg_1])), trivial⟩, hs⟩
  · rintro L' w_1 ⟨hw_1, hs_1⟩
    refine .weaken _ hw_1 <| .condF rfl (decide_eq_false (by omega)) <| .skip <| .seq <| .region <| .m rfl rfl <| .m rfl rfl <| .e rfl (.nilCheck rfl) <| .e rfl (.fieldAddr fld162_1 rfl rfl) <| .e rfl (.load scal3 rfl (hs_1.cell (i := 0) (j := 2) rfl rfl)) <| .m rfl rfl <| .f rfl (.call ent142 rfl ((rtake_ok _ _ (by_) (N) (pos) (m) _ (hs_1.cell (i := 0) (j := 0) rfl rfl) (hs_1.cell (i := 0) (j := 1) rfl rfl) (hs_1.rdL 1 rfl) (hb) (hN) (hn) (hm) (ham)).mono fun r_1 w_2 h_1 => ?_))
    obtain ⟨rfl, hp_1⟩ := h_1
    have hs_2 : Sat w0 ([cObj g 162 [v, (.int .i64 N), (.int .i64 pos)], cL v 5 (encN .u8) (by_)] ++ cs) _ := (hs_1.adds hp_1).mid
    refine .m rfl rfl <| .e rfl (.extract rfl rfl) <| .e rfl (.extract rfl rfl) <| .s rfl rfl <| .s rfl rfl <| .nil <| .seq <| .seq <| .region <| .m rfl rfl <| .e rfl (.notB rfl) <| .nil <| .condF rfl (rfl) <| .skip <| .seq <| .region <| .m rfl rfl <| .e rfl (.nilCheck rfl) <| .e rfl (.fieldAddr fld162_1 rfl rfl) <| .e rfl (.load scal3 rfl (hs_2.cell (i := 0) (j := 2) rfl rfl)) <| .m rfl rfl <| .e rfl (.addI rfl rfl (by omega)) <| .e rfl (.nilCheck rfl) <| .e rfl (.fieldAddr fld162_1 rfl rfl) <| .f rfl (.storeObj one3 hs_2 (i := 0) rfl rfl rfl (rfl) rfl fun w_3 hs_3 hch_1 => ?_)
    refine .nil <| .seq <| .region <| .m rfl rfl <| .s rfl rfl <| .s rfl rfl <| .nil <| .ret ?_
    show PostK _ _ _ _ _ _
    refine post2 rfl rfl rfl ?_
    exact ⟨rfl, hs_3⟩
theorem rbits_no (w0 w : World) (cs : List Chunk) (g : Nat) (v : Value) (by_ : List Nat) (N pos m : Nat) (hs : Sat w0 ([cObj g 162 [v, .int .i64 (N : Int), .int .i64 (pos : Int)], cL v 5 (encN .u8) by_] ++ cs) w) (hb : ∀ x ∈ by_, x < 256) (hN : N ≤ 8 * by_.length) (hn : by_.length ≤ 1000000000) (hm : m ≤ 63) (hp : pos ≤ N) (ham : N < pos + m) :
    CallsV Tryz.prog 112 [(.pointer (some ⟨g, 0, none⟩)), (.int .i64 m)] w fun r w' => r = .tuple #[.int .u64 ((0 : Nat) : Int), .int .i64 ((10 : Nat) : Int)] ∧ Sat w0 ([cObj g 162 [v, .int .i64 (N : Int), .int .i64 (pos : Int)], cL v 5 (encN .u8) by_] ++ cs) w' := by
  refine callsV_of Tryz.func112 rfl rfl ?_
  refine .seq <| .region <| .s rfl rfl <| .s rfl rfl <| .nil <| .seq <| .seq <| .mid (fun L' w' => Weak [(0, (.pointer (some ⟨g, 0, none⟩))), (1, (.int .i64 m)), (4, (.int .u64 (0 : Nat))), (5, (.int .i64 (0 : Nat))), (13, (.bool (decide ((m < 0) ∨ (64 < m)))))] L' ∧ Sat w0 ([cObj g 162 [v, (.int .i64 N), (.int .i64 pos)], cL v 5 (encN .u8) (by_)] ++ cs) w') ?_ ?_
  · refine .region <| .m rfl rfl <| .e rfl (.lssN (b := 0) rfl rfl) <| .m rfl rfl ?_
    by_cases hg_1 : m < 0
    · refine .no rfl rfl rfl (decide_eq_true hg_1) rfl <| .no rfl rfl rfl (decide_eq_true hg_1) rfl <| .e rfl (.pickY rfl (decide_eq_true hg_1) rfl) <| .nil ?_
      exact ⟨⟨rfl, rfl, rfl, rfl, congrArg some (congrArg Value.bool (by simp [hg_1])), trivial⟩, hs⟩
    · refine .yes rfl rfl rfl (decide_eq_false hg_1) <| .m rfl rfl <| .yes rfl rfl rfl (decide_eq_false hg_1) <| .e rfl (.gtrN (b := 64) rfl rfl) <| .e rfl (.pickN rfl (decide_eq_false hg_1) rfl) <| .nil ?_
      exact ⟨⟨rfl, rfl, rfl, rfl, congrArg some (congrArg Value.bool (by simp [hg_1])), trivial⟩, hs⟩
  · rintro L' w_1 ⟨hw_1, hs_1⟩
    refine .weaken _ hw_1 <| .condF rfl (decide_eq_false (by omega)) <| .skip <| .seq <| .region <| .m rfl rfl <| .m rfl rfl <| .e rfl (.nilCheck rfl) <| .e rfl (.fieldAddr fld162_1 rfl rfl) <| .e rfl (.load scal3 rfl (hs_1.cell (i := 0) (j := 2) rfl rfl)) <| .m rfl rfl <| .f rfl (.call ent142 rfl ((rtake_no _ (N) (pos) (m) _ (hs_1.cell (i := 0) (j := 1) rfl rfl) (by omega) (hp) (by omega) (ham)).mono fun r_1 w_2 h_1 => ?_))
    obtain ⟨rfl, hp_1⟩ := h_1
    have hs_2 : Sat w0 ([cObj g 162 [v, (.int .i64 N), (.int .i64 pos)], cL v 5 (encN .u8) (by_)] ++ cs) _ := (hs_1.adds hp_1).mid
    refine .m rfl rfl <| .e rfl (.extract rfl rfl) <| .e rfl (.extract rfl rfl) <| .s rfl rfl <| .s rfl rfl <| .nil <| .seq <| .seq <| .region <| .m rfl rfl <| .e rfl (.notB rfl) <| .nil <| .condT rfl (rfl) <| .seq <| .region <| .s rfl rfl <| .s rfl rfl <| .nil <| .ret ?_
    show PostK _ _ _ _ _ _
    refine post2 rfl rfl rfl ?_
    exact ⟨rfl, hs_2⟩
theorem rpos_ok (g m : Nat) (w : World) (hc : w.cell? ⟨g, 2, none⟩ = some (.int .i64 (m : Int))) :
    CallsV Tryz.prog 77 [(.pointer (some ⟨g, 0, none⟩))] w fun r w' => r = .int .i64 (m : Int) ∧ Sat w [] w' := by
  have hs0 := Sat.start w
  refine callsV_of Tryz.func77 rfl rfl ?_
  refine .seq <| .region <| .s rfl rfl <| .nil <| .seq <| .region <| .m rfl rfl <| .e rfl (.nilCheck rfl) <| .e rfl (.fieldAddr fld162_1 rfl rfl) <| .e rfl (.load scal3 rfl (hs0.ext _ _ hc)) <| .s rfl rfl <| .nil <| .ret ?_
  show PostK _ _ _ _ _ _
  refine post1 rfl rfl ?_
  exact ⟨rfl, hs0⟩
theorem newReader_ok (v : Value) (l : List Nat) (m : Nat) (w : World) (hv : RdL w v (encN .u8) l) (hm : m ≤ 8 * l.length) (hn : l.length ≤ 1000000000) :
    CallsV Tryz.prog 74 [v, (.int .i64 m)] w fun r w' => ∃ g bv, r = .tuple #[.pointer (some ⟨g, 0, none⟩), .int .i64 ((0 : Nat) : Int)] ∧ Sat w [cObj g 162 [bv, .int .i64 (m : Int), .int .i64 ((0 : Nat) : Int)], cL bv 5 (encN .u8) (l.take ((m + 7) / 8))] w' := by
  have hs0 := Sat.start w
  refine callsV_of Tryz.func74 rfl rfl ?_
  refine .seq <| .region <| .s rfl rfl <| .s rfl rfl <| .nil <| .seq <| .seq <| .mid (fun L' w' => Weak [(0, v), (1, (.int .i64 m)), (4, (.pointer none)), (5, (.int .i64 (0 : Nat))), (14, (.bool (decide ((m < 0) ∨ ((8 * l.length) < m)))))] L' ∧ Sat w [] w') ?_ ?_
  · refine .region <| .m rfl rfl <| .e rfl (.lssN (b := 0) rfl rfl) <| .m rfl rfl ?_
    by_cases hg_1 : m < 0
    · refine .no rfl rfl rfl (decide_eq_true hg_1) rfl <| .no rfl rfl rfl (decide_eq_true hg_1) rfl <| .no rfl rfl rfl (decide_eq_true hg_1) rfl <| .no rfl rfl rfl (decide_eq_true hg_1) rfl <| .no rfl rfl rfl (decide_eq_true hg_1) rfl <| .e rfl (.pickY rfl (decide_eq_true hg_1) rfl) <| .nil ?_
      exact ⟨⟨rfl, rfl, rfl, rfl, congrArg some (congrArg Value.bool (by simp [hg_1])), trivial⟩, hs0⟩
    · refine .yes rfl rfl rfl (decide_eq_false hg_1) <| .m rfl rfl <| .yes rfl rfl rfl (decide_eq_false hg_1) <| .m rfl rfl <| .yes rfl rfl rfl (decide_eq_false hg_1) <| .e rfl (.lenL Tryz.underlying22 rfl (hv.ext hs0.ext)) <| .yes rfl rfl rfl (decide_eq_false hg_1) <| .e rfl (.mulI (a := 8) rfl rfl (by omega)) <| .yes rfl rfl rfl (decide_eq_false hg_1) <| .e rfl (.gtrN rfl rfl) <| .e rfl (.pickN rfl (decide_eq_false hg_1) rfl) <| .nil ?_
      exact ⟨⟨rfl, rfl, rfl, rfl, congrArg some (congrArg Value.bool (by simp [hg_1])), trivial⟩, hs0⟩
  · rintro L' w_1 ⟨hw_1, hs_1⟩
    refine .weaken _ hw_1 <| .condF rfl (decide_eq_false (by omega)) <| .skip <| .seq <| .region <| .f rfl (.lit0 (encN .u8) sl22 hs_1 fun v_1 w_2 hs_2 hch_1 => ?_)
    refine .m rfl rfl <| .m rfl rfl <| .e rfl (.addI (b := 7) rfl rfl (by omega)) <| .e rfl (.quo (b := 8) rfl rfl (by omega) (by unfold inI64; omega)) <| .e rfl (.sliceL (E := encN .u8) (a := 0) (c := ((m + 7) / 8)) sl22 rfl (hv.ext hs_2.ext) rfl ⟨_, rfl⟩ (by omega) (by omega)) <| .f rfl (.appendL 0 sl22 hs_2 rfl rfl rfl Tryz.underlying22 (((hv.ext hs_2.ext)).sub (a := 0) (b := ((m + 7) / 8)) (by omega) (by omega)) (by simp; omega) (by simp; omega) fun v_2 w_3 hs_3 hch_2 => ?_)
    refine .m rfl rfl <| .e rfl (.build bt160 rfl ⟨(hs_3.rdL 0 rfl).oneCell, rfl, trivial⟩ rfl) <| .e rfl (.buildF bt162 rfl rfl) <| .f rfl (.box hs_3 rfl fun b_1 w_4 hs_4 hch_3 hb_1 => ?_)
    have hs_4d : Sat w [cL v_2 5 (encN .u8) (((l).take ((m + 7) / 8)).drop 0), cObj b_1 162 [v_2, (.int .i64 m), (.int .i64 (0 : Nat))]] _ := hs_4
    refine .s rfl rfl <| .s rfl rfl <| .nil <| .ret ?_
    show PostK _ _ _ _ _ _
    refine post2 rfl rfl rfl ?_
    have hs_5 : Sat w [cObj b_1 162 [v_2, (.int .i64 m), (.int .i64 (0 : Nat))], cL v_2 5 (encN .u8) (((l).take ((m + 7) / 8)).drop 0)] w_4 := ((Sat.order [1, 0] (by decide) hs_4d.tail).untail).sub ((.cons_cons _ (.cons_cons _ .slnil)))
    rw [show (l.take ((m + 7) / 8)).drop 0 = l.take ((m + 7) / 8) from rfl] at hs_5
    exact ⟨_, _, rfl, hs_5⟩
theorem beq_ok (v u : Value) (a b : List Nat) (w : World) (hv : RdL w v (encN .u8) a) (hu : RdL w u (encN .u8) b) (ha : ∀ x ∈ a, x < 256) (hb : ∀ x ∈ b, x < 256) :
    CallsV Tryz.prog 20 [v, u] w fun r w' => r = .bool (decide (a = b)) ∧ Sat w [] w' := by
  have hs0 := Sat.start w
  refine callsV_of Tryz.func20 rfl rfl ?_
  refine .seq <| .region <| .s rfl rfl <| .nil <| .seq <| .region <| .m rfl rfl <| .e rfl (.bytesStr Tryz.underlying22 Tryz.underlying9 Tryz.underlying5 rfl (hv.ext hs0.ext)) <| .m rfl rfl <| .e rfl (.bytesStr Tryz.underlying22 Tryz.underlying9 Tryz.underlying5 rfl (hu.ext hs0.ext)) <| .e rfl (.strEql rfl rfl) <| .s rfl rfl <| .nil <| .ret ?_
  show PostK _ _ _ _ _ _
  refine post1 rfl rfl ?_
  refine ⟨congrArg Value.bool ?_, hs0⟩
  by_cases hab : a = b
  · subst hab; simp
  · rw [decide_eq_false hab, decide_eq_false fun h => hab ((strOf_inj ha hb).1 h)]
end Go.Proofs.YtecfgjdpghddgaaGreat
namespace Go.Proofs.YtecfgjdpghddgaaGreat
open Go.RowKit Go.Kw
set_option maxRecDepth 100000
theorem lowest_ok (v : Value) (l : List Nat) (n m : Nat) (w : World) (hv : RdL w v (encN .u8) l) (hb : ∀ x ∈ l, x < 256) (hn : n ≤ 128) (hm : m ≤ 31) (hl : l.length = (n * m + 7) / 8) :
    CallsV Tryz.prog 72 [v, (.int .i64 n), (.int .i64 m)] w fun r w' => Sat w [cL r 3 (encN .i64) (lowsN l n m)] w' := by
  have hs0 := Sat.start w
  refine callsV_of Tryz.func72 rfl rfl ?_
  refine .seq ?_
  have hnm : n * m ≤ 128 * 31 := Nat.mul_le_mul hn hm
  refine .region <| .s rfl rfl <| .nil <| .seq <| .region <| .m rfl rfl <| .m rfl rfl <| .m rfl rfl <| .e rfl (.mulI rfl rfl (by omega)) <| .f rfl (.call ent74 rfl ((newReader_ok _ (l) ((n * m)) _ (hv.ext hs0.ext) (by omega) (by omega)).mono fun r_1 w_1 h_1 => ?_))
  obtain ⟨rg_1, rv_1, rfl, hp_1⟩ := h_1
  have hs_1 := hs0.adds hp_1
  refine .m rfl rfl <| .e rfl (.extract rfl rfl) <| .e rfl (.extract rfl rfl) <| .s rfl rfl <| .s rfl rfl <| .nil <| .seq ?_
  have hs_2 : Sat w [cObj rg_1 162 [rv_1, (.int .i64 ((n * m) : Nat)), (.int .i64 (0 : Nat))], cL rv_1 5 (encN .u8) (l)] w_1 := by
    have hq : l.take (((n * m) + 7) / 8) = l := List.take_of_length_le (by omega)
    rw [← hq]; exact hs_1
  refine .region <| .m rfl rfl <| .f rfl (.makeL (encN .i64) (0) sl27 rfl hs_2 rfl rfl (by omega) (by omega) (by omega) fun v_1 w_2 hs_3 hch_1 => ?_)
  refine .s rfl rfl <| .nil <| .seq <| .seq <| .region <| .m rfl rfl <| .e rfl (.lenL Tryz.underlying27 rfl (hs_3.rdL 2 rfl)) <| .m rfl rfl <| .nil <| .block ?_
  have hs_4 : Sat w [cObj rg_1 162 [rv_1, (.int .i64 ((n * m) : Nat)), (.int .i64 (0 : Nat))], cL rv_1 5 (encN .u8) (l), cL v_1 3 (encN .i64) (lowU l n m 0)] w_2 := by
    have hq : List.replicate (n) 0 = lowU l n m 0 := (lowU_zero l n m).symm
    rw [← hq]; exact hs_3
  refine .loop (α := Nat) (fun k => [(2, (.int .i64 m)), (7, (.pointer (some ⟨rg_1, 0, none⟩))), (9, v_1), (24, (.int .i64 n)), (25, (.int .i64 k))]) (fun k w' => Sat w [cObj rg_1 162 [rv_1, (.int .i64 ((n * m) : Nat)), (.int .i64 ((m * k) : Nat))], cL rv_1 5 (encN .u8) (l), cL v_1 3 (encN .i64) (lowU l n m k)] w' ∧ (k ≤ n)) (fun k => n - k) 0 ⟨rfl, rfl, rfl, congrArg some (congrArg (Value.int .i64) (by simp)), rfl, trivial⟩ ⟨hs_4, Nat.zero_le _⟩ ?_
  rintro k w_3 ⟨hs_5, hk⟩
  show CW _ _ _ _ [(2, (.int .i64 m)), (7, (.pointer (some ⟨rg_1, 0, none⟩))), (9, v_1), (24, (.int .i64 n)), (25, (.int .i64 k))] _
  refine .seq <| .region <| .e rfl (.lssN rfl rfl) <| .nil <| .seq <| .condD rfl (fun hc_1 => ?_) (fun hc_1 => ?_)
  · refine .skip <| .seq <| .block <| .seq <| .region <| .m rfl rfl <| .s rfl rfl <| .nil <| .seq ?_
    have hkm : m * (k + 1) ≤ n * m := by rw [Nat.mul_comm n]; exact Nat.mul_le_mul_left m hc_1
    refine .region <| .m rfl rfl <| .m rfl rfl ?_
    have hA_1 : Sat w ([cObj rg_1 162 [rv_1, (.int .i64 ((n * m) : Nat)), (.int .i64 ((m * k) : Nat))], cL rv_1 5 (encN .u8) (l)] ++ ([cL v_1 3 (encN .i64) (lowU l n m k)] ++ [])) _ := (Sat.order [0, 1, 2] (by decide) hs_5.tail).cut 2
    refine .f rfl (.call ent112 rfl ((rbits_ok _ _ _ _ _ (l) ((n * m)) ((m * k)) (m) hA_1 (hb) (by omega) (by omega) (by omega) (by rw [← Nat.mul_succ]; exact hkm)).mono fun r_2 w_4 h_2 => ?_))
    obtain ⟨rfl, hp_2⟩ := h_2
    have hs_6 : Sat w [cObj rg_1 162 [rv_1, (.int .i64 ((n * m) : Nat)), (.int .i64 (((m * k) + m) : Nat))], cL rv_1 5 (encN .u8) (l), cL v_1 3 (encN .i64) (lowU l n m k)] _ := (Sat.order [0, 1, 2] (by decide) hp_2.join).untail
    refine .m rfl rfl <| .e rfl (.extract rfl rfl) <| .e rfl (.extract rfl rfl) <| .s rfl rfl <| .s rfl rfl <| .nil <| .region <| .m rfl rfl <| .m rfl rfl <| .m rfl rfl <| .e rfl (.convK (by rw [Tryz.underlying56]; rfl) Tryz.underlying3 rfl (wrap_i (by have := bvN_lt l (m * k) m; have : 2 ^ m ≤ 2 ^ 31 := Nat.pow_le_pow_right (by decide) hm; omega))) <| .e rfl (.idxL (E := encN .i64) sl27 rfl rfl (hs_6.rdL 2 rfl) (by rw [lowU_length]; all_goals omega)) <| .f rfl (.setL (a := (bvN l (m * k) m)) 2 one3 hs_6 rfl rfl rfl rfl (by rw [lowU_length]; all_goals omega) fun w_5 hs_7 hch_2 => ?_)
    refine .nil <| .region <| .e rfl (.addI (b := 1) rfl rfl (by omega)) <| .m rfl rfl <| .nil ?_
    have hs_8 : Sat w [cObj rg_1 162 [rv_1, (.int .i64 ((n * m) : Nat)), (.int .i64 ((m * (k + 1)) : Nat))], _, _] w_5 := hs_7
    have hs_9 : Sat w [cObj rg_1 162 [rv_1, (.int .i64 ((n * m) : Nat)), (.int .i64 ((m * (k + 1)) : Nat))], cL rv_1 5 (encN .u8) (l), cL v_1 3 (encN .i64) (lowU l n m (k + 1))] w_5 := by
      have hq : (lowU l n m k).set k (bvN l (m * k) m) = lowU l n m (k + 1) := lowU_set hc_1
      rw [← hq]; exact hs_8
    exact ⟨k + 1, ⟨rfl, rfl, rfl, rfl, rfl, trivial⟩, ⟨hs_9, by omega⟩, (show (n - (k + 1)) < (n - k) from by omega)⟩
  · refine .exit0 <| .seq <| .region <| .m rfl rfl <| .s rfl rfl <| .nil <| .ret ?_
    show PostK _ _ _ _ _ _
    refine post1 rfl rfl ?_
    have hs_10 : Sat w [cL v_1 3 (encN .i64) (lowU l n m k)] w_3 := hs_5.sub ((.cons _ (.cons _ (.cons_cons _ .slnil))))
    have hs_11 : Sat w [cL v_1 3 (encN .i64) (lowsN l n m)] w_3 := by
      have hq : lowU l n m k = lowsN l n m := by rw [show k = n by omega, lowU_all]
      rw [← hq]; exact hs_10
    exact hs_11
set_option maxHeartbeats 1000000 in
theorem unpack_all (v : Value) (b : List Nat) (w : World) (hv : RdL w v (encN .u8) b) (hb : ∀ x ∈ b, x < 256) (hn : b.length ≤ 1000000000) :
    CallsV Tryz.prog 45 [v] w fun r w' => (∃ l v', unpk b = some l ∧ r = .tuple #[v', .int .i64 ((0 : Nat) : Int)] ∧ Sat w [cL v' 3 (encN .i64) l] w') ∨ (unpk b = none ∧ r = .tuple #[.slice none 0 0, .int .i64 ((9 : Nat) : Int)] ∧ Sat w [] w') := by
  have hs0 := Sat.start w
  refine callsV_of Tryz.func45 rfl rfl ?_
  refine .seq ?_
  have hlX := Nat.le_trans (uX_len b) hn
  have hlY := Nat.le_trans (uY_len b) hn
  refine .region <| .s rfl rfl <| .s rfl rfl <| .nil <| .scope 0 (fun L' w' => Weak [] L' ∧ Sat w [] w' ∧ (unpk b = none)) rfl ?_ ?_
  · refine .seq <| .region <| .s rfl rfl <| .nil <| .seq <| .region <| .s rfl rfl <| .nil <| .seq <| .region <| .s rfl rfl <| .nil <| .seq <| .region <| .m rfl rfl <| .e rfl (.build bt117 rfl ⟨(hv.ext hs0.ext).oneCell, rfl, trivial⟩ rfl) <| .f rfl (.alloc hs0 zero117 fun b_1 w_1 hs_1 hch_1 hb_1 => ?_)
    refine .f rfl (.storeObjA (vs := [v, (.bool true)]) agg117 hs_1 (i := 0) rfl rfl rfl rfl (fun v h => by simp only [List.mem_cons, List.not_mem_nil, or_false] at h; rcases h with rfl | rfl; exact (hv.ext hs_1.ext).oneCell; exact rfl) fun w_2 hs_2 hch_2 => ?_)
    have hs_2d : Sat w [cObj b_1 117 [v, (.bool true)]] _ := hs_2
    refine .nil <| .seq <| .region ?_
    have hA_1 : Sat w ([cObj b_1 117 [v, (.bool true)]] ++ ([] ++ [])) _ := (Sat.order [0] (by decide) hs_2d.tail).cut 1
    refine .f rfl (.call ent71 rfl ((bnum_ok _ _ _ _ _ _ b 128 hA_1 hv (hb) (by omega) (by omega)).mono fun r_1 w_3 h_1 => ?_))
    obtain ⟨rfl, bv_1, hbv_1, hp_1⟩ := h_1
    have hs_3 : Sat w [cObj b_1 117 [bv_1, (.bool (numN true b 128).2.1)]] _ := (Sat.order [0] (by decide) hp_1.join).untail
    have hA_2 : Sat w ([cObj b_1 117 [bv_1, (.bool (numN true b 128).2.1)]] ++ ([] ++ [])) _ := (Sat.order [0] (by decide) hs_3.tail).cut 1
    refine .f rfl (.call ent71 rfl ((bnum_ok _ _ _ _ _ _ ((numN true b 128).2.2) 31 hA_2 hbv_1 (fun x hx => hb x (uX_mem b x hx)) (hlX) (by omega)).mono fun r_2 w_4 h_2 => ?_))
    obtain ⟨rfl, bv_2, hbv_2, hp_2⟩ := h_2
    have hs_4 : Sat w [cObj b_1 117 [bv_2, (.bool (numN ((numN true b 128).2.1) ((numN true b 128).2.2) 31).2.1)]] _ := (Sat.order [0] (by decide) hp_2.join).untail
    have hA_3 : Sat w ([cObj b_1 117 [bv_2, (.bool (numN ((numN true b 128).2.1) ((numN true b 128).2.2) 31).2.1)]] ++ ([] ++ [])) _ := (Sat.order [0] (by decide) hs_4.tail).cut 1
    refine .f rfl (.call ent71 rfl ((bnum_ok _ _ _ _ _ _ ((numN ((numN true b 128).2.1) ((numN true b 128).2.2) 31).2.2) 128 hA_3 hbv_2 (fun x hx => hb x (uY_mem b x hx)) (hlY) (by omega)).mono fun r_3 w_5 h_3 => ?_))
    obtain ⟨rfl, bv_3, hbv_3, hp_3⟩ := h_3
    have hs_5 : Sat w [cObj b_1 117 [bv_3, (.bool (numN ((numN ((numN true b 128).2.1) ((numN true b 128).2.2) 31).2.1) ((numN ((numN true b 128).2.1) ((numN true b 128).2.2) 31).2.2) 128).2.1)]] _ := (Sat.order [0] (by decide) hp_3.join).untail
    refine .s rfl rfl <| .s rfl rfl <| .s rfl rfl <| .nil ?_
    have hX := uX_le b
    have hY := uY_le b
    have hZ := uZ_le b
    have hXY := uXY_le b
    have hlZ := uZ_len b
    have hs_6 : Sat w [cObj b_1 117 [bv_3, (.bool (uZ b).2.1)]] w_5 := hs_5
    have hbz : RdL w bv_3 (encN .u8) (uZ b).2.2 := hbv_3
    refine .weaken [(0, _), (2, _), (3, _), (4, _), (5, _), (6, _), (7, _), (8, (.int .i64 ((uX b).1 : Nat))), (9, _), (10, _), (13, _), (14, _), (15, _), (16, _), (17, _)] ⟨rfl, rfl, rfl, rfl, rfl, rfl, rfl, congrArg some (rfl), rfl, rfl, rfl, rfl, rfl, rfl, rfl, trivial⟩ <| .weaken [(0, _), (2, _), (3, _), (4, _), (5, _), (6, _), (7, _), (8, _), (9, (.int .i64 ((uY b).1 : Nat))), (10, _), (13, _), (14, _), (15, _), (16, _), (17, _)] ⟨rfl, rfl, rfl, rfl, rfl, rfl, rfl, rfl, congrArg some (rfl), rfl, rfl, rfl, rfl, rfl, rfl, trivial⟩ <| .weaken [(0, _), (2, _), (3, _), (4, _), (5, _), (6, _), (7, _), (8, _), (9, _), (10, (.int .i64 ((uZ b).1 : Nat))), (13, _), (14, _), (15, _), (16, _), (17, _)] ⟨rfl, rfl, rfl, rfl, rfl, rfl, rfl, rfl, rfl, congrArg some (rfl), rfl, rfl, rfl, rfl, rfl, trivial⟩ <| .seq <| .region <| .m rfl rfl <| .m rfl rfl <| .e rfl (.mulI rfl rfl (by omega)) <| .e rfl (.addI (b := 7) rfl rfl (by omega)) <| .e rfl (.quo (b := 8) rfl rfl (by omega) (by unfold inI64; omega)) <| .s rfl rfl <| .nil <| .weaken [(0, _), (2, _), (3, _), (4, _), (5, _), (6, _), (7, _), (8, _), (9, _), (10, _), (11, (.int .i64 (uS b))), (13, _), (14, _), (15, _), (16, _), (17, _), (18, _), (19, _), (20, _), (21, _), (22, _)] ⟨rfl, rfl, rfl, rfl, rfl, rfl, rfl, rfl, rfl, rfl, congrArg some (rfl), rfl, rfl, rfl, rfl, rfl, rfl, rfl, rfl, rfl, rfl, trivial⟩ <| .seq <| .seq <| .mid (fun L' w' => Weak [(0, v), (2, (.slice none 0 0)), (3, (.int .i64 (0 : Nat))), (4, (.slice none 0 0)), (5, (.slice none 0 0)), (6, (.int .i64 (-1))), (7, (.pointer (some ⟨b_1, 0, none⟩))), (8, (.int .i64 ((uX b).1 : Nat))), (9, (.int .i64 ((uY b).1 : Nat))), (10, (.int .i64 ((uZ b).1 : Nat))), (11, (.int .i64 (uS b))), (32, (.bool (decide (((!(uZ b).2.1) = true) ∨ (((uZ b).2.2).length < (uS b))))))] L' ∧ Sat w [cObj b_1 117 [bv_3, (.bool (uZ b).2.1)]] w') ?_ ?_
    · refine .region <| .e rfl (.fieldAddr fld117_1 rfl rfl) <| .e rfl (.load scal4 rfl (hs_6.cell (i := 0) (j := 1) rfl rfl)) <| .e rfl (.notB rfl) <| .m rfl rfl ?_
      by_cases hg_1 : (!(uZ b).2.1) = true
      · refine .no rfl rfl rfl (hg_1) rfl <| .no rfl rfl rfl (hg_1) rfl <| .no rfl rfl rfl (hg_1) rfl <| .no rfl rfl rfl (hg_1) rfl <| .no rfl rfl rfl (hg_1) rfl <| .e rfl (.pickY rfl (hg_1) rfl) <| .nil ?_
        exact ⟨⟨rfl, rfl, rfl, rfl, rfl, rfl, rfl, rfl, rfl, rfl, rfl, congrArg some (congrArg Value.bool (by simp [hg_1])), trivial⟩, hs_6⟩
      · refine .yes rfl rfl rfl (by simpa using hg_1) <| .e rfl (.fieldAddr fld117_0 rfl rfl) <| .yes rfl rfl rfl (by simpa using hg_1) <| .e rfl (.load scal22 rfl (hs_6.cell (i := 0) (j := 0) rfl rfl)) <| .yes rfl rfl rfl (by simpa using hg_1) <| .e rfl (.lenL Tryz.underlying22 rfl (hbz.ext hs_6.ext)) <| .yes rfl rfl rfl (by simpa using hg_1) <| .m rfl rfl <| .yes rfl rfl rfl (by simpa using hg_1) <| .e rfl (.lssN rfl rfl) <| .e rfl (.pickN rfl (by simpa using hg_1) rfl) <| .nil ?_
        exact ⟨⟨rfl, rfl, rfl, rfl, rfl, rfl, rfl, rfl, rfl, rfl, rfl, congrArg some (congrArg Value.bool (by simp [hg_1])), trivial⟩, hs_6⟩
    · rintro L' w_6 ⟨hw_1, hs_7⟩
      refine .weaken _ hw_1 <| .condD rfl (fun hc_1 => ?_) (fun hc_1 => ?_)
      · refine .goto0 ?_
        have hs_8 : Sat w [] w_6 := hs_7.sub ((.cons _ .slnil))
        exact ⟨trivial, hs_8, unpk_no1 (by simpa using hc_1)⟩
      · refine .skip <| .seq ?_
        have hz1 : ¬ ((uZ b).2.1 = false ∨ (uZ b).2.2.length < uS b) := by simpa using hc_1
        have hsz : uS b ≤ (uZ b).2.2.length := by simp only [not_or] at hz1; omega
        refine .region <| .e rfl (.fieldAddr fld117_0 rfl rfl) <| .e rfl (.load scal22 rfl (hs_7.cell (i := 0) (j := 0) rfl rfl)) <| .m rfl rfl <| .e rfl (.sliceL (E := encN .u8) (a := 0) (c := (uS b)) sl22 rfl (hbz.ext hs_7.ext) rfl ⟨_, rfl⟩ (by omega) (hsz)) <| .m rfl rfl <| .m rfl rfl <| .f rfl (.call ent72 rfl ((lowest_ok _ ((((uZ b).2.2).take (uS b)).drop 0) ((uX b).1) ((uY b).1) _ (((hbz.ext hs_7.ext)).sub (a := 0) (b := (uS b)) (by omega) (hsz)) (fun x hx => hb x (uZ_mem b x (List.mem_of_mem_take hx))) (hX) (hY) (by rw [show ∀ l : List Nat, l.drop 0 = l from fun _ => rfl, List.length_take]; exact Nat.min_eq_left hsz)).mono fun r_4 w_7 h_4 => ?_))
        have hp_4 := h_4
        have hs_9 := hs_7.adds hp_4
        refine .s rfl rfl <| .nil <| .seq <| .region <| .e rfl (.fieldAddr fld117_0 rfl rfl) <| .e rfl (.load scal22 rfl (hs_9.cell (i := 0) (j := 0) rfl rfl)) <| .m rfl rfl <| .e rfl (.sliceL (E := encN .u8) (a := (uS b)) (c := ((uZ b).2.2).length) sl22 rfl (hbz.ext hs_9.ext) ⟨_, rfl⟩ rfl (hsz) (Nat.le_refl _)) <| .e rfl (.fieldAddr fld117_0 rfl rfl) <| .f rfl (.storeObj one22 hs_9 (i := 0) rfl rfl rfl ((((hbz.ext hs_9.ext)).sub (a := (uS b)) (b := ((uZ b).2.2).length) (hsz) (Nat.le_refl _)).oneCell) rfl fun w_8 hs_10 hch_3 => ?_)
        refine .nil ?_
        have hdr : RdL w (subSl (encN .u8).s bv_3 (uS b) (((uZ b).2.2).length)) (encN .u8) ((uZ b).2.2.drop (uS b)) := by have h := hbz.sub (a := uS b) (b := (uZ b).2.2.length) hsz (Nat.le_refl _); rw [List.take_length] at h; exact h
        refine .seq <| .block <| .loop (α := Nat × Bool × Value × List Nat × Nat × List Nat) (fun (cnt, ok, bv, bl, at1, vs) => [(0, v), (4, r_4), (6, (.int .i64 ((((at1 : Nat) : Int) - 1)))), (7, (.pointer (some ⟨b_1, 0, none⟩))), (8, (.int .i64 ((uX b).1 : Nat))), (9, (.int .i64 ((uY b).1 : Nat))), (10, (.int .i64 cnt))]) (fun (cnt, ok, bv, bl, at1, vs) w' => Sat w [cObj b_1 117 [bv, (.bool ok)], cL r_4 3 (encN .i64) (vs)] w' ∧ (exL (uY b).1 (uX b).1 cnt ok bl at1 vs = uE b) ∧ (RdL w bv (encN .u8) bl) ∧ (∀ x ∈ bl, x < 256) ∧ (bl.length ≤ 1000000000) ∧ (vs.length = (uX b).1) ∧ (∀ x ∈ vs, x ≤ 2147483647) ∧ (at1 ≤ 128) ∧ (cnt ≤ 128)) (fun (cnt, ok, bv, bl, at1, vs) => cnt) ((uZ b).1, (uZ b).2.1, (subSl (encN .u8).s bv_3 (uS b) (((uZ b).2.2).length)), (uZ b).2.2.drop (uS b), 0, lowsN ((uZ b).2.2.take (uS b)) (uX b).1 (uY b).1) ⟨rfl, rfl, rfl, rfl, rfl, rfl, rfl, trivial⟩ ⟨hs_10, rfl, hdr, fun x hx => hb x (uZ_mem b x (List.mem_of_mem_drop hx)), by rw [List.length_drop]; omega, lowsN_length .., lowsN_lt _ _ _ hY, Nat.zero_le _, hZ⟩ ?_
        rintro ⟨cnt, ok, bv, bl, at1, vs⟩ w_9 ⟨hs_11, hE, hbl, hblb, hbll, hvl, hvb, hat, hcnt⟩
        show CW _ _ _ _ [(0, v), (4, r_4), (6, (.int .i64 ((((at1 : Nat) : Int) - 1)))), (7, (.pointer (some ⟨b_1, 0, none⟩))), (8, (.int .i64 ((uX b).1 : Nat))), (9, (.int .i64 ((uY b).1 : Nat))), (10, (.int .i64 cnt))] _
        refine .seq <| .seq <| .region <| .m rfl rfl <| .e rfl (.gtrN (b := 0) rfl rfl) <| .nil <| .condD rfl (fun hc_2 => ?_) (fun hc_2 => ?_)
        · refine .skip <| .seq <| .block <| .seq ?_
          obtain ⟨c, rfl⟩ : ∃ c, cnt = c + 1 := ⟨cnt - 1, by omega⟩
          have hlim : 2147483647 / 2 ^ (uY b).1 ≤ 1000000000000 := Nat.le_trans (Nat.div_le_self _ _) (by omega)
          have hbll2 : (numN ok bl 128).2.2.length ≤ 1000000000 := Nat.le_trans (numN_len _ _ _) hbll
          have hG := numN_le ok bl 128
          have hH := numN_le (numN ok bl 128).2.1 (numN ok bl 128).2.2 (2147483647 / 2 ^ (uY b).1)
          have hH2 := high_le hH
          rw [exL] at hE
          refine .region <| .m rfl rfl ?_
          have hA_4 : Sat w ([cObj b_1 117 [bv, (.bool ok)]] ++ ([cL r_4 3 (encN .i64) (vs)] ++ [])) _ := (Sat.order [0, 1] (by decide) hs_11.tail).cut 1
          refine .f rfl (.call ent71 rfl ((bnum_ok _ _ _ _ _ _ bl 128 hA_4 hbl (hblb) (hbll) (by omega)).mono fun r_5 w_10 h_5 => ?_))
          obtain ⟨rfl, bv_4, hbv_4, hp_5⟩ := h_5
          have hs_12 : Sat w [cObj b_1 117 [bv_4, (.bool (numN ok bl 128).2.1)], cL r_4 3 (encN .i64) (vs)] _ := (Sat.order [0, 1] (by decide) hp_5.join).untail
          refine .e rfl (.add rfl rfl (by unfold inI64; omega)) <| .s rfl rfl <| .nil <| .seq <| .region <| .m rfl rfl <| .e rfl (.shrN (a := 2147483647) rfl rfl (by have := Nat.div_le_self 2147483647 (2 ^ (uY b).1); (try simp only [IntKind.bits]); omega)) ?_
          have hA_5 : Sat w ([cObj b_1 117 [bv_4, (.bool (numN ok bl 128).2.1)]] ++ ([cL r_4 3 (encN .i64) (vs)] ++ [])) _ := (Sat.order [0, 1] (by decide) hs_12.tail).cut 1
          refine .f rfl (.call ent71 rfl ((bnum_ok _ _ _ _ _ _ ((numN ok bl 128).2.2) (2147483647 / 2 ^ (uY b).1) hA_5 hbv_4 (fun x hx => hblb x (numN_mem _ _ _ x hx)) (hbll2) (hlim)).mono fun r_6 w_11 h_6 => ?_))
          obtain ⟨rfl, bv_5, hbv_5, hp_6⟩ := h_6
          have hs_13 : Sat w [cObj b_1 117 [bv_5, (.bool (numN ((numN ok bl 128).2.1) ((numN ok bl 128).2.2) (2147483647 / 2 ^ (uY b).1)).2.1)], cL r_4 3 (encN .i64) (vs)] _ := (Sat.order [0, 1] (by decide) hp_6.join).untail
          refine .s rfl rfl <| .nil <| .seq <| .seq <| .mid (fun L' w' => Weak [(0, v), (4, r_4), (6, (.int .i64 (((((at1 : Nat) : Int) - 1) + (((numN ok bl 128).1 : Nat) : Int))))), (7, (.pointer (some ⟨b_1, 0, none⟩))), (8, (.int .i64 ((uX b).1 : Nat))), (9, (.int .i64 ((uY b).1 : Nat))), (10, (.int .i64 ((c + 1) : Nat))), (12, (.int .i64 ((numN ((numN ok bl 128).2.1) ((numN ok bl 128).2.2) (2147483647 / 2 ^ (uY b).1)).1 : Nat))), (66, (.bool (decide ((((!(numN ((numN ok bl 128).2.1) ((numN ok bl 128).2.2) (2147483647 / 2 ^ (uY b).1)).2.1) = true) ∨ ((((((at1 : Nat) : Int) - 1) + (((numN ok bl 128).1 : Nat) : Int)) : Int) < (0 : Int))) ∨ ((((uX b).1 : Nat) : Int) ≤ (((((at1 : Nat) : Int) - 1) + (((numN ok bl 128).1 : Nat) : Int)) : Int))))))] L' ∧ Sat w [cObj b_1 117 [bv_5, (.bool (numN ((numN ok bl 128).2.1) ((numN ok bl 128).2.2) (2147483647 / 2 ^ (uY b).1)).2.1)], cL r_4 3 (encN .i64) (vs)] w') ?_ ?_
          · refine .region <| .e rfl (.fieldAddr fld117_1 rfl rfl) <| .e rfl (.load scal4 rfl (hs_13.cell (i := 0) (j := 1) rfl rfl)) <| .e rfl (.notB rfl) <| .m rfl rfl ?_
            by_cases hg_2 : (!(numN ((numN ok bl 128).2.1) ((numN ok bl 128).2.2) (2147483647 / 2 ^ (uY b).1)).2.1) = true
            · refine .no rfl rfl rfl (hg_2) rfl <| .no rfl rfl rfl (hg_2) rfl <| .e rfl (.pickY rfl (hg_2) rfl) <| .m rfl rfl <| .no rfl rfl rfl (rfl) rfl <| .no rfl rfl rfl (rfl) rfl <| .no rfl rfl rfl (rfl) rfl <| .e rfl (.pickY rfl (rfl) rfl) <| .nil ?_
              exact ⟨⟨rfl, rfl, rfl, rfl, rfl, rfl, rfl, rfl, congrArg some (congrArg Value.bool (by simp [hg_2])), trivial⟩, hs_13⟩
            · refine .yes rfl rfl rfl (by simpa using hg_2) <| .m rfl rfl <| .yes rfl rfl rfl (by simpa using hg_2) <| .e rfl (.lss rfl rfl) <| .e rfl (.pickN rfl (by simpa using hg_2) rfl) <| .m rfl rfl ?_
              by_cases hg_3 : (((((at1 : Nat) : Int) - 1) + (((numN ok bl 128).1 : Nat) : Int)) : Int) < (0 : Int)
              · refine .no rfl rfl rfl (decide_eq_true hg_3) rfl <| .no rfl rfl rfl (decide_eq_true hg_3) rfl <| .no rfl rfl rfl (decide_eq_true hg_3) rfl <| .e rfl (.pickY rfl (decide_eq_true hg_3) rfl) <| .nil ?_
                exact ⟨⟨rfl, rfl, rfl, rfl, rfl, rfl, rfl, rfl, congrArg some (congrArg Value.bool (by simp [hg_2, hg_3])), trivial⟩, hs_13⟩
              · refine .yes rfl rfl rfl (decide_eq_false hg_3) <| .m rfl rfl <| .yes rfl rfl rfl (decide_eq_false hg_3) <| .m rfl rfl <| .yes rfl rfl rfl (decide_eq_false hg_3) <| .e rfl (.geq rfl rfl) <| .e rfl (.pickN rfl (decide_eq_false hg_3) rfl) <| .nil ?_
                exact ⟨⟨rfl, rfl, rfl, rfl, rfl, rfl, rfl, rfl, congrArg some (congrArg Value.bool (by simp [hg_2, hg_3])), trivial⟩, hs_13⟩
          · rintro L' w_12 ⟨hw_2, hs_14⟩
            refine .weaken _ hw_2 <| .condD rfl (fun hc_3 => ?_) (fun hc_3 => ?_)
            · refine .goto0 ?_
              have hs_15 : Sat w [] w_12 := hs_14.sub ((.cons _ (.cons _ .slnil)))
              exact ⟨trivial, hs_15, unpk_no2 (by rw [← hE, if_pos (hc_3.elim (fun h => h.elim (fun h => .inl (by simpa using h)) fun h => .inr (.inl (by omega))) fun h => .inr (.inr (by omega)))])⟩
            · refine .skip ?_
              have hcc : ¬ ((numN (numN ok bl 128).2.1 (numN ok bl 128).2.2 (2147483647 / 2 ^ (uY b).1)).2.1 = false ∨ at1 + (numN ok bl 128).1 = 0 ∨ (uX b).1 < at1 + (numN ok bl 128).1) := fun h => hc_3 (h.elim (fun h => .inl (.inl (by simp [h]))) fun h => h.elim (fun h => .inl (.inr (by omega))) fun h => .inr (by omega))
              have hE2 := hE
              rw [if_neg hcc] at hE2
              simp only [not_or] at hcc
              refine .weaken [(0, _), (4, _), (6, (.int .i64 ((at1 + (numN ok bl 128).1 - 1) : Nat))), (7, _), (8, _), (9, _), (10, _), (12, _), (66, _)] ⟨rfl, rfl, congrArg some (congrArg (Value.int .i64) (by omega)), rfl, rfl, rfl, rfl, rfl, rfl, trivial⟩ ?_
              obtain ⟨y, hy⟩ : ∃ y, vs[at1 + (numN ok bl 128).1 - 1]? = some y := ⟨_, List.getElem?_eq_getElem (by omega)⟩
              have hyb := hvb y (mem_of_get hy)
              rw [getD_some hy] at hE2
              have hshp_1 := (hs_14.rdL (E := encN .i64) 1 rfl).shp (by decide)
              refine .draw2 (fun w' => Sat w [cObj b_1 117 [bv_5, (.bool (numN ((numN ok bl 128).2.1) ((numN ok bl 128).2.2) (2147483647 / 2 ^ (uY b).1)).2.1)], cL r_4 3 (encN .i64) (vs)] w') (fun w' => Sat w [cObj b_1 117 [bv_5, (.bool (numN ((numN ok bl 128).2.1) ((numN ok bl 128).2.2) (2147483647 / 2 ^ (uY b).1)).2.1)]] w') 9 (.free 0 (.free 1 (.free 2 (.free 3 (.free 4 (.free 5 (.free 6 (.free 7 (.free 8 (.bar 9 .fin)))))))))) (fun w' h => h.sub ((.cons_cons _ (.cons _ .slnil)))) mixed (by kernel_rfl) ?_
              have hs_16 := hs_14.drew
              refine .m rfl rfl hs_16 <| .m rfl rfl hs_16 <| .e rfl (fun w' hS' => .idxL (E := encN .i64) sl27 rfl rfl (hS'.rdL 1 rfl) (by omega)) hs_16 <| .e rfl (fun w' hS' => .ldL (E := encN .i64) scal3 rfl (hS'.rdL 1 rfl) hy (by decide) rfl) hs_16 <| .m rfl rfl hs_16 <| .m rfl rfl hs_16 <| .e rfl (fun w' hS' => .shlI rfl rfl (by omega) (by omega)) hs_16 <| .e rfl (fun w' hS' => .orI rfl rfl (by omega) (by omega)) hs_16 <| .e rfl (fun w' hS' => .idxL (E := encN .i64) sl27 rfl rfl (hS'.rdL 1 rfl) (by omega)) hs_16 <| .bar rfl rfl rfl (OpE.setL (a := (y ||| ((numN ((numN ok bl 128).2.1) ((numN ok bl 128).2.2) (2147483647 / 2 ^ (uY b).1)).1 * 2 ^ (uY b).1))) 1 one3 hs_16 rfl rfl rfl rfl (by omega) fun w_13 hs_17 hch_4 => ?_)
              have hS_1 : Sat w [_] _ := hs_17.sub ((.cons_cons _ (.cons _ .slnil)))
              refine ⟨hS_1, ?_⟩
              refine .fin <| .region <| .m rfl rfl <| .e rfl (.subI (b := 1) rfl rfl (by omega) (by omega)) <| .s rfl rfl <| .nil ?_
              exact ⟨(c, (numN (numN ok bl 128).2.1 (numN ok bl 128).2.2 (2147483647 / 2 ^ (uY b).1)).2.1, bv_5, (numN (numN ok bl 128).2.1 (numN ok bl 128).2.2 (2147483647 / 2 ^ (uY b).1)).2.2, at1 + (numN ok bl 128).1, vs.set (at1 + (numN ok bl 128).1 - 1) (y ||| ((numN ((numN ok bl 128).2.1) ((numN ok bl 128).2.2) (2147483647 / 2 ^ (uY b).1)).1 * 2 ^ (uY b).1))), ⟨rfl, rfl, congrArg some (congrArg (Value.int .i64) (by omega)), rfl, rfl, rfl, rfl, trivial⟩, ⟨hs_17, hE2, hbv_5, fun x hx => hblb x (numN_mem _ _ _ x (numN_mem _ _ _ x hx)), Nat.le_trans (numN_len _ _ _) hbll2, by rw [List.length_set]; exact hvl, fun z hz => by
        rcases List.mem_or_eq_of_mem_set hz with hz | rfl
        · exact hvb z hz
        · exact or_le31 hyb hH2, by omega, by omega⟩, (show ((c)) < (c + 1) from by omega)⟩
        · refine .exit0 <| .seq <| .region <| .m rfl rfl <| .f rfl (.call ent66 rfl ((pack_ok _ (vs) _ (hs_11.rdL 1 rfl) (by omega) (hvb)).mono fun r_7 w_14 h_7 => ?_))
          obtain ⟨pv_1, rfl, hp_7⟩ := h_7
          have hs_18 := hs_11.adds hp_7
          refine .m rfl rfl <| .e rfl (.extract rfl rfl) <| .e rfl (.extract rfl rfl) <| .s rfl rfl <| .nil <| .seq <| .seq <| .region <| .m rfl rfl <| .m rfl rfl <| .f rfl (.call ent20 rfl ((beq_ok _ _ (packBk (vs)) (b) _ (hs_18.rdL 2 rfl) (hv.ext hs_18.ext) (encBk_lt _ _) (hb)).mono fun r_8 w_15 h_8 => ?_))
          obtain ⟨rfl, hp_8⟩ := h_8
          have hs_19 := hs_18.adds hp_8
          refine .e rfl (.notP rfl) <| .nil <| .condD rfl (fun hc_4 => ?_) (fun hc_4 => ?_)
          · refine .goto0 ?_
            have hs_20 : Sat w [] w_15 := hs_19.sub ((.cons _ (.cons _ (.cons _ .slnil))))
            exact ⟨trivial, hs_20, by rw [unpk_fin hz1 (show uE b = some vs by rw [← hE, show cnt = 0 by omega, exL]), if_neg (by simpa using hc_4)]⟩
          · refine .skip <| .seq <| .seq <| .region <| .m rfl rfl <| .s rfl rfl <| .s rfl rfl <| .nil <| .ret ?_
            show PostK _ _ _ _ _ _
            refine post2 rfl rfl rfl ?_
            have hfin := unpk_fin hz1 (show uE b = some vs by rw [← hE, show cnt = 0 by omega, exL])
            rw [if_pos (by simpa using hc_4)] at hfin
            have hs_21 : Sat w [_] w_15 := hs_19.sub ((.cons _ (.cons_cons _ (.cons _ .slnil))))
            exact .inl ⟨_, _, hfin, rfl, hs_21⟩
  · rintro L' w_16 ⟨hw_3, hs_22, hno⟩
    refine .weaken _ hw_3 <| .seq <| .skip <| .seq <| .region <| .s rfl rfl <| .s rfl rfl <| .nil <| .ret ?_
    show PostK _ _ _ _ _ _
    refine post2 rfl rfl rfl ?_
    exact .inr ⟨hno, rfl, hs_22⟩
end Go.Proofs.YtecfgjdpghddgaaGreat
