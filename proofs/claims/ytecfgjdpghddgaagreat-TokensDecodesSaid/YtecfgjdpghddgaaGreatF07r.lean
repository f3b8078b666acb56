/- The walks of the functions of F07r, printed by our own program (kwgen.py) out of our descriptions (base.py). -/
import Derived.Test.YtecfgjdpghddgaaGreatF07a
import Derived.Test.YtecfgjdpghddgaaGreatM07
import Derived.Test.YtecfgjdpghddgaaGreatF16s
import Derived.Test.YtecfgjdpghddgaaGreatKi2
import Derived.Test.YtecfgjdpghddgaaGreatTab
set_option linter.unusedVariables false
set_option linter.unusedSimpArgs false
set_option linter.unusedSectionVars false
namespace Go.Proofs.YtecfgjdpghddgaaGreat
open Go.RowKit Go.Kw
set_option maxRecDepth 100000
theorem rtk_ok (v : Value) (l : List Nat) (w : World) (hv : RdL w v (encN .u8) l) (hb : ∀ x ∈ l, x < 256) :
    CallsV Tryz.prog 22 [v] w fun r w' => r = .tuple #[.int .u64 ((uvR l).1 : Nat), .int .i64 ((uvR l).2.1 : Nat), .int .i64 ((uvR l).2.2 : Nat)] ∧ Sat w [] w' := by
  have hs0 := Sat.start w
  refine callsV_of Tryz.func22 rfl rfl ?_
  refine .seq <| .region <| .s rfl rfl <| .s rfl rfl <| .s rfl rfl <| .nil <| .seq <| .region <| .s rfl rfl <| .nil <| .seq <| .seq <| .region <| .m rfl rfl <| .e rfl (.lenL Tryz.underlying22 rfl (hv.ext hs0.ext)) <| .m rfl rfl <| .nil <| .block <| .loop (α := Nat × Nat) (fun (k, u) => [(5, (.int .u64 u)), (8, v), (9, (.int .i64 l.length)), (10, (.int .i64 k))]) (fun (k, u) w' => Sat w [] w' ∧ (k ≤ l.length) ∧ (uvr k u (l.drop k) = uvr 0 0 l) ∧ (u < 2 ^ (7 * k)) ∧ (k ≤ 9)) (fun (k, u) => l.length - k) (0, 0) ⟨rfl, rfl, rfl, rfl, trivial⟩ ⟨hs0, Nat.zero_le _, rfl, by decide, by omega⟩ ?_
  rintro ⟨k, u⟩ w_1 ⟨hs_1, hk, hinv, hvk, hk9⟩
  show CW _ _ _ _ [(5, (.int .u64 u)), (8, v), (9, (.int .i64 l.length)), (10, (.int .i64 k))] _
  refine .seq <| .region <| .e rfl (.lssN rfl rfl) <| .nil <| .seq <| .condD rfl (fun hc_1 => ?_) (fun hc_1 => ?_)
  · refine .skip <| .seq <| .block <| .seq ?_
    obtain ⟨x, hx⟩ : ∃ x, (l)[k]? = some x := ⟨_, List.getElem?_eq_getElem hc_1⟩
    refine .region <| .m rfl rfl <| .e rfl (.idxL (E := encN .u8) sl22 rfl rfl (hv.ext hs_1.ext) (by omega)) <| .e rfl (.ldL (E := encN .u8) scal5 rfl (hv.ext hs_1.ext) hx (by decide) rfl) <| .s rfl rfl <| .s rfl rfl <| .nil <| .seq <| .seq ?_
    have hdk := drop_of_get hx
    have hx256 := hb x (mem_of_get hx)
    have hstep := hinv
    rw [hdk, uvr] at hstep
    refine .mid (fun L' w' => Weak [(5, (.int .u64 u)), (6, (.int .i64 k)), (7, (.int .u8 x)), (8, v), (9, (.int .i64 l.length)), (10, (.int .i64 k)), (11, (.bool (decide (k < l.length)))), (20, (.bool (decide ((k = 9) ∧ (1 < x)))))] L' ∧ Sat w [] w') ?_ ?_
    · refine .region <| .m rfl rfl <| .e rfl (.eqlN (b := 9) rfl rfl) <| .m rfl rfl ?_
      by_cases hg_1 : k = 9
      · refine .yes rfl rfl rfl (decide_eq_true hg_1) <| .m rfl rfl <| .yes rfl rfl rfl (decide_eq_true hg_1) <| .e rfl (.gtrN (b := 1) rfl rfl) <| .e rfl (.pickY rfl (decide_eq_true hg_1) rfl) <| .nil ?_
        exact ⟨⟨rfl, rfl, rfl, rfl, rfl, rfl, rfl, congrArg some (congrArg Value.bool (by simp [hg_1])), trivial⟩, hs_1⟩
      · refine .no rfl rfl rfl (decide_eq_false hg_1) rfl <| .no rfl rfl rfl (decide_eq_false hg_1) rfl <| .e rfl (.pickN rfl (decide_eq_false hg_1) rfl) <| .nil ?_
        exact ⟨⟨rfl, rfl, rfl, rfl, rfl, rfl, rfl, congrArg some (congrArg Value.bool (by simp [hg_1])), trivial⟩, hs_1⟩
    · rintro L' w_2 ⟨hw_1, hs_2⟩
      refine .weaken _ hw_1 <| .condD rfl (fun hc_2 => ?_) (fun hc_2 => ?_)
      · refine .seq <| .region <| .s rfl rfl <| .s rfl rfl <| .s rfl rfl <| .nil <| .ret ?_
        show PostK _ _ _ _ _ _
        refine post3 rfl rfl rfl rfl ?_
        rw [if_pos (by have := hc_2; omega)] at hstep
        exact ⟨by rw [uvR, ← hstep]; rfl, hs_2⟩
      · refine .skip <| .seq ?_
        rcases Decidable.em (k = 9 ∧ x = 0) with h90 | h90
        · obtain ⟨rfl, rfl⟩ := h90
          rw [if_pos (by decide)] at hstep
          refine .region <| .m rfl rfl <| .m rfl rfl <| .e rfl (.rem (b := 128) rfl rfl (by omega)) <| .e rfl (.convK (by rw [Tryz.underlying5]; rfl) Tryz.underlying56 rfl (wrap_u rfl (by (try simp only [IntKind.bits]); omega))) <| .m rfl rfl <| .e rfl (.mulI (a := 7) rfl rfl (by omega)) <| .e rfl (.convK (by rw [Tryz.underlying3]; rfl) Tryz.underlying88 rfl (wrap_u rfl (by (try simp only [IntKind.bits]); omega))) <| .e rfl (.shlN rfl rfl rfl (by (try simp only [IntKind.bits]); omega)) <| .e rfl (.orN rfl rfl rfl (by (try simp only [IntKind.bits]); omega) (by (try simp only [IntKind.bits]); omega)) <| .s rfl rfl <| .nil <| .seq <| .region <| .m rfl rfl <| .e rfl (.lssN (b := 128) rfl rfl) <| .nil <| .condT rfl (decide_eq_true (by decide)) <| .seq <| .seq <| .region <| .m rfl rfl <| .e rfl (.eqlN (b := 0) rfl rfl) <| .m rfl rfl <| .yes rfl rfl rfl (decide_eq_true rfl) <| .m rfl rfl <| .yes rfl rfl rfl (decide_eq_true rfl) <| .e rfl (.gtrN (b := 0) rfl rfl) <| .e rfl (.pickY rfl (decide_eq_true rfl) rfl) <| .nil <| .condT rfl (decide_eq_true (by decide)) <| .seq <| .region <| .s rfl rfl <| .s rfl rfl <| .s rfl rfl <| .nil <| .ret ?_
          show PostK _ _ _ _ _ _
          refine post3 rfl rfl rfl rfl ?_
          exact ⟨by rw [uvR, ← hstep]; rfl, hs_2⟩
        · have h9' : ¬ (k = 9 ∧ x ≠ 1) := fun h => by have := hc_2; omega
          rw [if_neg h9'] at hstep
          have hor := uvr_or (c := x) hvk hk9 h9'
          have hbd := uvr_bound (c := x) hvk
          have hsm := uvr_small (c := x) hk9 h9'
          have hpk : 2 ^ (7 * k) ≤ 2 ^ 63 := Nat.pow_le_pow_right (by decide) (by omega)
          refine .region <| .m rfl rfl <| .m rfl rfl <| .e rfl (.rem (b := 128) rfl rfl (by omega)) <| .e rfl (.convK (by rw [Tryz.underlying5]; rfl) Tryz.underlying56 rfl (wrap_u rfl (by (try simp only [IntKind.bits]); omega))) <| .m rfl rfl <| .e rfl (.mulI (a := 7) rfl rfl (by omega)) <| .e rfl (.convK (by rw [Tryz.underlying3]; rfl) Tryz.underlying88 rfl (wrap_u rfl (by (try simp only [IntKind.bits]); omega))) <| .e rfl (.shlN rfl rfl rfl (by (try simp only [IntKind.bits]); omega)) <| .e rfl (.orN rfl rfl rfl (by (try simp only [IntKind.bits]); omega) (by (try simp only [IntKind.bits]); omega)) <| .s rfl rfl <| .nil <| .seq <| .region <| .m rfl rfl <| .e rfl (.lssN (b := 128) rfl rfl) <| .nil <| .condD rfl (fun hc_3 => ?_) (fun hc_3 => ?_)
          · refine .seq <| .seq <| .region <| .m rfl rfl <| .e rfl (.eqlN (b := 0) rfl rfl) <| .m rfl rfl ?_
            by_cases hg_2 : x = 0
            · refine .yes rfl rfl rfl (decide_eq_true hg_2) <| .m rfl rfl <| .yes rfl rfl rfl (decide_eq_true hg_2) <| .e rfl (.gtrN (b := 0) rfl rfl) <| .e rfl (.pickY rfl (decide_eq_true hg_2) rfl) <| .nil <| .condD rfl (fun hc_4 => ?_) (fun hc_4 => ?_)
              · refine .seq <| .region <| .s rfl rfl <| .s rfl rfl <| .s rfl rfl <| .nil <| .ret ?_
                show PostK _ _ _ _ _ _
                refine post3 rfl rfl rfl rfl ?_
                rw [if_pos hc_3, if_pos (by omega)] at hstep
                exact ⟨by rw [uvR, ← hstep]; rfl, hs_2⟩
              · refine .skip <| .seq <| .region <| .m rfl rfl <| .m rfl rfl <| .e rfl (.addI (b := 1) rfl rfl (by omega)) <| .s rfl rfl <| .s rfl rfl <| .s rfl rfl <| .nil <| .ret ?_
                show PostK _ _ _ _ _ _
                refine post3 rfl rfl rfl rfl ?_
                rw [if_pos hc_3, if_neg (by omega)] at hstep
                exact ⟨by rw [uvR, ← hstep, ← hor]; rfl, hs_2⟩
            · refine .no rfl rfl rfl (decide_eq_false hg_2) rfl <| .no rfl rfl rfl (decide_eq_false hg_2) rfl <| .e rfl (.pickN rfl (decide_eq_false hg_2) rfl) <| .nil <| .condF rfl (rfl) <| .skip <| .seq <| .region <| .m rfl rfl <| .m rfl rfl <| .e rfl (.addI (b := 1) rfl rfl (by omega)) <| .s rfl rfl <| .s rfl rfl <| .s rfl rfl <| .nil <| .ret ?_
              show PostK _ _ _ _ _ _
              refine post3 rfl rfl rfl rfl ?_
              rw [if_pos hc_3, if_neg (by omega)] at hstep
              exact ⟨by rw [uvR, ← hstep, ← hor]; rfl, hs_2⟩
          · refine .skip <| .region <| .e rfl (.addI (b := 1) rfl rfl (by omega)) <| .m rfl rfl <| .nil ?_
            exact ⟨(k + 1, (u ||| ((x % 128) * 2 ^ (7 * k) % 2 ^ 64))), ⟨rfl, rfl, rfl, rfl, trivial⟩, ⟨hs_2, by omega, by rw [show u ||| (x % 128 * 2 ^ (7 * k) % 2 ^ 64) = u + x % 2 ^ 7 * 2 ^ (7 * k) from hor, ← hstep, if_neg hc_3], by rw [show u ||| (x % 128 * 2 ^ (7 * k) % 2 ^ 64) = u + x % 2 ^ 7 * 2 ^ (7 * k) from hor]; exact hbd, by rcases Nat.lt_or_ge k 9 with h | h; (omega); exact absurd ⟨(by omega : k = 9), (by omega : x ≠ 1)⟩ h9'⟩, (show (l.length - (k + 1)) < (l.length - k) from by omega)⟩
  · refine .exit0 <| .seq <| .region <| .s rfl rfl <| .s rfl rfl <| .s rfl rfl <| .nil <| .ret ?_
    show PostK _ _ _ _ _ _
    refine post3 rfl rfl rfl rfl ?_
    rw [show k = l.length by omega, List.drop_length, uvr] at hinv
    exact ⟨by rw [uvR, ← hinv]; rfl, hs_1⟩
theorem runp2_ok (v : Value) (b : List Nat) (n : Nat) (w : World) (hv : RdL w v (encN .u8) b) (hb : ∀ x ∈ b, x < 256) (hn : n ≤ 8 * b.length) (hbl : b.length ≤ 1000000) :
    CallsV Tryz.prog 49 [v, (.int .i64 n)] w fun r w' => Sat w [cL r 4 encB (bitsN b n)] w' := by
  have hs0 := Sat.start w
  refine callsV_of Tryz.func49 rfl rfl ?_
  refine .seq <| .region <| .s rfl rfl <| .nil <| .seq <| .region <| .s rfl rfl <| .nil <| .seq <| .seq <| .region <| .s rfl rfl <| .nil <| .block ?_
  have hs_1 := hs0.newNilL 4 (encB)
  have hs_2 : Sat w [cL (Value.slice none 0 0) 4 (encB) (bitsN b 0)] w := by
    have hq : [] = bitsN b 0 := rfl
    rw [← hq]; exact hs_1
  refine .loop (α := Nat × Value) (fun (k, ov) => [(0, v), (1, (.int .i64 n)), (5, ov), (6, (.int .i64 k))]) (fun (k, ov) w' => Sat w [cL ov 4 (encB) (bitsN b k)] w' ∧ (k ≤ n)) (fun (k, ov) => n - k) (0, (.slice none 0 0)) ⟨rfl, rfl, rfl, rfl, trivial⟩ ⟨hs_2, Nat.zero_le _⟩ ?_
  rintro ⟨k, ov⟩ w_1 ⟨hs_3, hk⟩
  show CW _ _ _ _ [(0, v), (1, (.int .i64 n)), (5, ov), (6, (.int .i64 k))] _
  refine .seq <| .seq <| .region <| .m rfl rfl <| .m rfl rfl <| .e rfl (.lssN rfl rfl) <| .nil <| .condD rfl (fun hc_1 => ?_) (fun hc_1 => ?_)
  · refine .skip <| .seq <| .block ?_
    obtain ⟨x, hx⟩ : ∃ x, b[k / 8]? = some x := ⟨_, List.getElem?_eq_getElem (by omega)⟩
    have hx256 := hb x (mem_of_get hx)
    have hdl := Nat.div_le_self 128 (2 ^ (k % 8))
    refine .region <| .m rfl rfl <| .m rfl rfl <| .m rfl rfl <| .e rfl (.quo (b := 8) rfl rfl (by omega) (by unfold inI64; omega)) <| .e rfl (.idxL (E := encN .u8) sl22 rfl rfl (hv.ext hs_3.ext) (by omega)) <| .e rfl (.ldL (E := encN .u8) scal5 rfl (hv.ext hs_3.ext) hx (by decide) rfl) <| .m rfl rfl <| .e rfl (.rem (b := 8) rfl rfl (by omega)) <| .e rfl (.convK (by rw [Tryz.underlying3]; rfl) Tryz.underlying88 rfl (wrap_u rfl (by (try simp only [IntKind.bits]); omega))) <| .e rfl (.shrN (a := 128) rfl rfl (by (try simp only [IntKind.bits]); omega)) <| .e rfl (.andN rfl rfl rfl (by (try simp only [IntKind.bits]); omega) (by (try simp only [IntKind.bits]); omega)) <| .e rfl (.neqN (b := 0) rfl rfl) <| .f rfl (.lit1 (encB) (decide ((x &&& (128 / 2 ^ (k % 8))) ≠ 0)) sl90 rfl hs_3 rfl fun v_1 w_2 hs_4 hch_1 => ?_)
    refine .f rfl (.appendL 0 sl90 hs_4 rfl rfl rfl Tryz.underlying90 (hs_4.rdL 1 rfl) (by rw [bitsN_length]; simp; omega) (by rw [bitsN_length]; simp; omega) fun v_2 w_3 hs_5 hch_2 => ?_)
    have hs_5d : Sat w [cL v_2 4 (encB) (bitsN b k ++ [decide ((x &&& (128 / 2 ^ (k % 8))) ≠ 0)])] _ := hs_5.drop 1
    refine .s rfl rfl <| .nil <| .region <| .m rfl rfl <| .e rfl (.addI (b := 1) rfl rfl (by omega)) <| .s rfl rfl <| .nil ?_
    have hs_6 : Sat w [cL v_2 4 (encB) (bitsN b (k + 1))] w_3 := by
      have hq : bitsN b k ++ [decide ((x &&& (128 / 2 ^ (k % 8))) ≠ 0)] = bitsN b (k + 1) := by rw [bitsN_succ, bit_dec hx hx256]
      rw [← hq]; exact hs_5d
    exact ⟨(k + 1, v_2), ⟨rfl, rfl, rfl, rfl, trivial⟩, ⟨hs_6, by omega⟩, (show (n - (k + 1)) < (n - k) from by omega)⟩
  · refine .exit0 <| .seq <| .region <| .m rfl rfl <| .s rfl rfl <| .nil <| .ret ?_
    show PostK _ _ _ _ _ _
    refine post1 rfl rfl ?_
    have hs_7 : Sat w [cL ov 4 (encB) (bitsN b n)] w_1 := by
      have hq : bitsN b k = bitsN b n := by rw [show k = n by omega]
      rw [← hq]; exact hs_3
    exact hs_7
end Go.Proofs.YtecfgjdpghddgaaGreat
