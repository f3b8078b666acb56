/- The walks of the functions of F14d, printed by our own program (kwgen.py) out of our descriptions (base.py). -/
import Derived.Test.YtecfgjdpghddgaaGreatM15u
import Derived.Test.YtecfgjdpghddgaaGreatKr
import Derived.Test.YtecfgjdpghddgaaGreatF16c
import Derived.Test.YtecfgjdpghddgaaGreatTab
set_option linter.unusedVariables false
set_option linter.unusedSimpArgs false
set_option linter.unusedSectionVars false
namespace Go.Proofs.YtecfgjdpghddgaaGreat
open Go.RowKit Go.Kw
set_option maxRecDepth 100000
theorem rbits_if (w0 w : World) (cs : List Chunk) (g : Nat) (v : Value) (by_ : List Nat) (N pos m : Nat) (hs : Sat w0 ([cObj g 162 [v, .int .i64 (N : Int), .int .i64 (pos : Int)], cL v 5 (encN .u8) by_] ++ cs) w) (hb : ∀ x ∈ by_, x < 256) (hN : N ≤ 8 * by_.length) (hn : by_.length ≤ 1000000000) (hm : m ≤ 63) (hp : pos ≤ N) :
    CallsV Tryz.prog 112 [.pointer (some ⟨g, 0, none⟩), .int .i64 (m : Int)] w fun r w' => r = .tuple #[.int .u64 ((if pos + m ≤ N then bvN by_ pos m else 0 : Nat) : Int), .int .i64 ((if pos + m ≤ N then 0 else 10 : Nat) : Int)] ∧ Sat w0 ([cObj g 162 [v, .int .i64 (N : Int), .int .i64 ((if pos + m ≤ N then pos + m else pos : Nat) : Int)], cL v 5 (encN .u8) by_] ++ cs) w' := by
  by_cases h : pos + m ≤ N
  · simp only [if_pos h]; exact rbits_ok w0 w cs g v by_ N pos m hs hb hN hn hm h
  · simp only [if_neg h]; exact rbits_no w0 w cs g v by_ N pos m hs hb hN hn hm hp (by omega)
theorem mapsnd {S : List (SV × List Nat)} {k : Nat} {p : SV × List Nat} (h : S[k]? = some p) : (S.map Prod.snd).getD k [] = p.2 := by
  rw [List.getD_eq_getElem?_getD, List.getElem?_map, h]; rfl
set_option maxHeartbeats 1000000 in
theorem begins_ok (g : Nat) (F : List Nat) (S : List (SV × List Nat)) (lo v n : Nat) (w : World) (hF : ∀ (j x : Nat), F[j]? = some x → w.cell? ⟨g, 0 + j * 1, none⟩ = some (.int .u64 (x : Int))) (hS : ∀ (j : Nat) (p : SV × List Nat), S[j]? = some p → w.cell? ⟨g, 16 + j * 1, none⟩ = some p.1.val) (hN : w.cell? ⟨g, 32, none⟩ = some (.int .i64 (lo : Int))) (hrow : ∀ (j : Nat) (p : SV × List Nat), S[j]? = some p → RdL w p.1.val (encN .i64) p.2) (hFl : F.length = 16) (hSl : S.length = 16) (hlo : lo ≤ 15) (hFb : ∀ x ∈ F, x < 2 ^ 15) (hSb : ∀ p ∈ S, p.2.length ≤ 1024) (hn : n ≤ 1000) :
    CallsV Tryz.prog 114 [(.pointer (some ⟨g, 0, none⟩)), (.int .u64 v), (.int .i64 n)] w fun r w' => r = .bool (begF F (S.map Prod.snd) lo v n) ∧ Sat w [] w' := by
  have hs0 := Sat.start w
  refine callsV_of Tryz.func114 rfl rfl ?_
  refine .seq <| .region <| .s rfl rfl <| .nil <| .seq <| .seq <| .region <| .m rfl rfl <| .s rfl rfl <| .nil <| .block <| .loop (α := Nat) (fun k => [(0, (.pointer (some ⟨g, 0, none⟩))), (1, (.int .u64 v)), (2, (.int .i64 n)), (7, (.int .i64 k))]) (fun k w' => Sat w [] w' ∧ (n ≤ k) ∧ (k ≤ 1000) ∧ (∀ q, n ≤ q → q < k → begC F (S.map Prod.snd) v n q = false)) (fun k => 1001 - k) n ⟨rfl, rfl, rfl, rfl, trivial⟩ ⟨hs0, Nat.le_refl _, hn, fun q h1 h2 => absurd h1 (by omega)⟩ ?_
  rintro k w_1 ⟨hs_1, hnk, hkb, hno⟩
  show CW _ _ _ _ [(0, (.pointer (some ⟨g, 0, none⟩))), (1, (.int .u64 v)), (2, (.int .i64 n)), (7, (.int .i64 k))] _
  refine .seq <| .seq <| .region <| .m rfl rfl <| .m rfl rfl <| .e rfl (.nilCheck rfl) <| .e rfl (.fieldAddr fld166_2 rfl rfl) <| .e rfl (.load scal3 rfl (hs_1.ext _ _ hN)) <| .e rfl (.leqN rfl rfl) <| .nil <| .condD rfl (fun hc_1 => ?_) (fun hc_1 => ?_)
  · refine .skip <| .seq <| .block <| .seq ?_
    obtain ⟨f, hf⟩ : ∃ f, F[k]? = some f := ⟨_, List.getElem?_eq_getElem (by omega)⟩
    obtain ⟨p, hp⟩ : ∃ p, S[k]? = some p := ⟨_, List.getElem?_eq_getElem (by omega)⟩
    have hfb := hFb f (mem_of_get hf)
    have hpb := hSb p (mem_of_get hp)
    have hFd : F.getD k 0 = f := getD_some hf
    have hSd := mapsnd hp
    refine .region <| .m rfl rfl <| .m rfl rfl <| .e rfl (.nilCheck rfl) <| .e rfl (.fieldAddr fld166_1 rfl rfl) <| .e rfl (.idxArr arr164 rfl rfl (by omega)) <| .e rfl (.load scal27 rfl (hs_1.ext _ _ (hS _ _ hp))) <| .e rfl (.lenL Tryz.underlying27 rfl ((hrow _ _ hp).ext hs_1.ext)) <| .s rfl rfl <| .nil <| .seq <| .mid (fun L' w' => Weak [(0, (.pointer (some ⟨g, 0, none⟩))), (1, (.int .u64 v)), (2, (.int .i64 n)), (7, (.int .i64 k)), (8, (.int .i64 p.2.length)), (15, (.bool (decide (k ≤ lo)))), (58, (.bool (decide (((0 < p.2.length) ∧ (v ≤ ((((f + p.2.length) % 2 ^ 64) - 1) / 2 ^ (k - n)))) ∧ ((f / 2 ^ (k - n)) ≤ v)))))] L' ∧ Sat w [] w') ?_ ?_
    · refine .region <| .m rfl rfl <| .e rfl (.gtrN (b := 0) rfl rfl) <| .m rfl rfl ?_
      by_cases hg_1 : 0 < p.2.length
      · refine .yes rfl rfl rfl (decide_eq_true hg_1) <| .m rfl rfl <| .yes rfl rfl rfl (decide_eq_true hg_1) <| .m rfl rfl <| .yes rfl rfl rfl (decide_eq_true hg_1) <| .m rfl rfl <| .yes rfl rfl rfl (decide_eq_true hg_1) <| .e rfl (.nilCheck rfl) <| .yes rfl rfl rfl (decide_eq_true hg_1) <| .e rfl (.fieldAddr fld166_0 rfl rfl) <| .yes rfl rfl rfl (decide_eq_true hg_1) <| .e rfl (.idxArr arr163 rfl rfl (by omega)) <| .yes rfl rfl rfl (decide_eq_true hg_1) <| .e rfl (.load scal56 rfl (hs_1.ext _ _ (hF _ _ hf))) <| .yes rfl rfl rfl (decide_eq_true hg_1) <| .m rfl rfl <| .yes rfl rfl rfl (decide_eq_true hg_1) <| .e rfl (.convK (by rw [Tryz.underlying3]; rfl) Tryz.underlying56 rfl (wrap_u rfl (by (try simp only [IntKind.bits]); omega))) <| .yes rfl rfl rfl (decide_eq_true hg_1) <| .e rfl (.addN rfl rfl rfl) <| .yes rfl rfl rfl (decide_eq_true hg_1) <| .e rfl (.subN (b := 1) rfl rfl rfl (by (try simp only [IntKind.bits]); omega) (by (try simp only [IntKind.bits]); omega)) <| .yes rfl rfl rfl (decide_eq_true hg_1) <| .m rfl rfl <| .yes rfl rfl rfl (decide_eq_true hg_1) <| .m rfl rfl <| .yes rfl rfl rfl (decide_eq_true hg_1) <| .e rfl (.subI rfl rfl (by omega) (by omega)) <| .yes rfl rfl rfl (decide_eq_true hg_1) <| .e rfl (.shrN rfl rfl (by (try simp only [IntKind.bits]); omega)) <| .yes rfl rfl rfl (decide_eq_true hg_1) <| .e rfl (.leqN rfl rfl) <| .e rfl (.pickY rfl (decide_eq_true hg_1) rfl) <| .m rfl rfl ?_
        by_cases hg_2 : v ≤ ((((f + p.2.length) % 2 ^ 64) - 1) / 2 ^ (k - n))
        · refine .yes rfl rfl rfl (decide_eq_true hg_2) <| .m rfl rfl <| .yes rfl rfl rfl (decide_eq_true hg_2) <| .m rfl rfl <| .yes rfl rfl rfl (decide_eq_true hg_2) <| .m rfl rfl <| .yes rfl rfl rfl (decide_eq_true hg_2) <| .e rfl (.nilCheck rfl) <| .yes rfl rfl rfl (decide_eq_true hg_2) <| .e rfl (.fieldAddr fld166_0 rfl rfl) <| .yes rfl rfl rfl (decide_eq_true hg_2) <| .e rfl (.idxArr arr163 rfl rfl (by omega)) <| .yes rfl rfl rfl (decide_eq_true hg_2) <| .e rfl (.load scal56 rfl (hs_1.ext _ _ (hF _ _ hf))) <| .yes rfl rfl rfl (decide_eq_true hg_2) <| .m rfl rfl <| .yes rfl rfl rfl (decide_eq_true hg_2) <| .m rfl rfl <| .yes rfl rfl rfl (decide_eq_true hg_2) <| .e rfl (.subI rfl rfl (by omega) (by omega)) <| .yes rfl rfl rfl (decide_eq_true hg_2) <| .e rfl (.shrN rfl rfl (by (try simp only [IntKind.bits]); omega)) <| .yes rfl rfl rfl (decide_eq_true hg_2) <| .e rfl (.geqN rfl rfl) <| .e rfl (.pickY rfl (decide_eq_true hg_2) rfl) <| .nil ?_
          exact ⟨⟨rfl, rfl, rfl, rfl, rfl, rfl, congrArg some (congrArg Value.bool (by simp [hg_1, hg_2])), trivial⟩, hs_1⟩
        · refine .no rfl rfl rfl (decide_eq_false hg_2) rfl <| .no rfl rfl rfl (decide_eq_false hg_2) rfl <| .no rfl rfl rfl (decide_eq_false hg_2) rfl <| .no rfl rfl rfl (decide_eq_false hg_2) rfl <| .no rfl rfl rfl (decide_eq_false hg_2) rfl <| .no rfl rfl rfl (decide_eq_false hg_2) rfl <| .no rfl rfl rfl (decide_eq_false hg_2) rfl <| .no rfl rfl rfl (decide_eq_false hg_2) rfl <| .no rfl rfl rfl (decide_eq_false hg_2) rfl <| .no rfl rfl rfl (decide_eq_false hg_2) rfl <| .no rfl rfl rfl (decide_eq_false hg_2) rfl <| .no rfl rfl rfl (decide_eq_false hg_2) rfl <| .e rfl (.pickN rfl (decide_eq_false hg_2) rfl) <| .nil ?_
          exact ⟨⟨rfl, rfl, rfl, rfl, rfl, rfl, congrArg some (congrArg Value.bool (by simp [hg_1, hg_2])), trivial⟩, hs_1⟩
      · refine .no rfl rfl rfl (decide_eq_false hg_1) rfl <| .no rfl rfl rfl (decide_eq_false hg_1) rfl <| .no rfl rfl rfl (decide_eq_false hg_1) rfl <| .no rfl rfl rfl (decide_eq_false hg_1) rfl <| .no rfl rfl rfl (decide_eq_false hg_1) rfl <| .no rfl rfl rfl (decide_eq_false hg_1) rfl <| .no rfl rfl rfl (decide_eq_false hg_1) rfl <| .no rfl rfl rfl (decide_eq_false hg_1) rfl <| .no rfl rfl rfl (decide_eq_false hg_1) rfl <| .no rfl rfl rfl (decide_eq_false hg_1) rfl <| .no rfl rfl rfl (decide_eq_false hg_1) rfl <| .no rfl rfl rfl (decide_eq_false hg_1) rfl <| .no rfl rfl rfl (decide_eq_false hg_1) rfl <| .no rfl rfl rfl (decide_eq_false hg_1) rfl <| .no rfl rfl rfl (decide_eq_false hg_1) rfl <| .no rfl rfl rfl (decide_eq_false hg_1) rfl <| .e rfl (.pickN rfl (decide_eq_false hg_1) rfl) <| .m rfl rfl <| .no rfl rfl rfl (rfl) rfl <| .no rfl rfl rfl (rfl) rfl <| .no rfl rfl rfl (rfl) rfl <| .no rfl rfl rfl (rfl) rfl <| .no rfl rfl rfl (rfl) rfl <| .no rfl rfl rfl (rfl) rfl <| .no rfl rfl rfl (rfl) rfl <| .no rfl rfl rfl (rfl) rfl <| .no rfl rfl rfl (rfl) rfl <| .no rfl rfl rfl (rfl) rfl <| .no rfl rfl rfl (rfl) rfl <| .no rfl rfl rfl (rfl) rfl <| .e rfl (.pickN rfl (rfl) rfl) <| .nil ?_
        exact ⟨⟨rfl, rfl, rfl, rfl, rfl, rfl, congrArg some (congrArg Value.bool (by simp [hg_1])), trivial⟩, hs_1⟩
    · rintro L' w_2 ⟨hw_1, hs_2⟩
      refine .weaken _ hw_1 <| .condD rfl (fun hc_2 => ?_) (fun hc_2 => ?_)
      · refine .seq <| .region <| .s rfl rfl <| .nil <| .ret ?_
        show PostK _ _ _ _ _ _
        refine post1 rfl rfl ?_
        exact ⟨by rw [begF_true (k := k) hnk (by omega) (by unfold begC; rw [hFd, hSd]; simp only [Bool.and_eq_true, decide_eq_true_eq]; refine ⟨⟨hc_2.1.1, ?_⟩, hc_2.2⟩; have h := hc_2.1.2; rw [Nat.mod_eq_of_lt (by omega)] at h; exact h)], hs_2⟩
      · refine .skip <| .region <| .m rfl rfl <| .e rfl (.addI (b := 1) rfl rfl (by omega)) <| .s rfl rfl <| .nil ?_
        exact ⟨k + 1, ⟨rfl, rfl, rfl, rfl, trivial⟩, ⟨hs_2, by omega, by omega, fun q h1 h2 => by
      rcases Nat.lt_or_ge q k with h | h
      · exact hno q h1 h
      · have e : q = k := by omega
        subst e
        refine Bool.eq_false_iff.2 fun hb => hc_2 ?_
        unfold begC at hb
        rw [hFd, hSd] at hb
        simp only [Bool.and_eq_true, decide_eq_true_eq] at hb
        refine ⟨⟨hb.1.1, ?_⟩, hb.2⟩
        rw [Nat.mod_eq_of_lt (by omega)]; exact hb.1.2⟩, (show (1001 - (k + 1)) < (1001 - k) from by omega)⟩
  · refine .exit0 <| .seq <| .region <| .s rfl rfl <| .nil <| .ret ?_
    show PostK _ _ _ _ _ _
    refine post1 rfl rfl ?_
    exact ⟨by rw [begF_false (fun q h1 h2 => hno q h1 (by omega))], hs_1⟩
set_option maxHeartbeats 1000000 in
theorem symbol_ok (w0 w : World) (cs : List Chunk) (g tg : Nat) (v : Value) (by_ : List Nat) (N pos0 lo : Nat) (F : List Nat) (S : List (SV × List Nat)) (hs : Sat w0 ([cObj g 162 [v, (.int .i64 N), (.int .i64 pos0)], cL v 5 (encN .u8) (by_), tabC tg 166 (F) (S) (lo), cRows 3 (encN .i64) S] ++ cs) w) (hb : ∀ x ∈ by_, x < 256) (hNl : N ≤ 8 * by_.length) (hn : by_.length ≤ 1000000) (hp0 : pos0 ≤ N) (hFl : F.length = 16) (hSl : S.length = 16) (hlo : lo ≤ 15) (hFb : ∀ x ∈ F, x < 2 ^ 15) (hSb : ∀ p ∈ S, p.2.length ≤ 1024)  :
    CallsV Tryz.prog 76 [(.pointer (some ⟨tg, 0, none⟩)), (.pointer (some ⟨g, 0, none⟩))] w fun r w' => r = .tuple #[.int .i64 ((symF F (S.map Prod.snd) lo by_ N 16 1 0 pos0).1 : Nat), .int .i64 ((symF F (S.map Prod.snd) lo by_ N 16 1 0 pos0).2.1 : Nat)] ∧ Sat w0 ([cObj g 162 [v, (.int .i64 N), (.int .i64 (((symF F (S.map Prod.snd) lo by_ N 16 1 0 pos0).2.2) : Nat))], cL v 5 (encN .u8) (by_), tabC tg 166 (F) (S) (lo), cRows 3 (encN .i64) S] ++ cs) w' := by
  refine callsV_of Tryz.func76 rfl rfl ?_
  refine .seq <| .region <| .s rfl rfl <| .s rfl rfl <| .nil <| .seq <| .region <| .s rfl rfl <| .nil <| .seq <| .region <| .s rfl rfl <| .nil <| .block <| .loop (α := Nat × Nat × Nat) (fun (n, u, pos) => [(0, (.pointer (some ⟨tg, 0, none⟩))), (1, (.pointer (some ⟨g, 0, none⟩))), (6, (.int .u64 u)), (7, (.int .i64 n))]) (fun (n, u, pos) w' => Sat w0 ([cObj g 162 [v, (.int .i64 N), (.int .i64 pos)], cL v 5 (encN .u8) (by_), tabC tg 166 (F) (S) (lo), cRows 3 (encN .i64) S] ++ cs) w' ∧ (1 ≤ n) ∧ (n ≤ 16) ∧ (symF F (S.map Prod.snd) lo by_ N (17 - n) n u pos = symF F (S.map Prod.snd) lo by_ N 16 1 0 pos0) ∧ (pos ≤ N) ∧ (u < 2 ^ n)) (fun (n, u, pos) => 17 - n) (1, 0, pos0) ⟨rfl, rfl, rfl, rfl, trivial⟩ ⟨hs, Nat.le_refl _, by omega, rfl, hp0, by decide⟩ ?_
  rintro ⟨n, u, pos⟩ w_1 ⟨hs_1, hn1, hn16, hE, hpos, hu⟩
  show CW _ _ _ _ [(0, (.pointer (some ⟨tg, 0, none⟩))), (1, (.pointer (some ⟨g, 0, none⟩))), (6, (.int .u64 u)), (7, (.int .i64 n))] _
  refine .seq <| .block <| .seq ?_
  have hp16 : 2 ^ n ≤ 2 ^ 16 := Nat.pow_le_pow_right (by decide) hn16
  refine .region <| .m rfl rfl ?_
  have hA_1 : Sat w0 ([cObj g 162 [v, (.int .i64 N), (.int .i64 pos)], cL v 5 (encN .u8) (by_)] ++ ([tabC tg 166 (F) (S) (lo), cRows 3 (encN .i64) S] ++ cs)) _ := (Sat.order [0, 1, 2, 3] (by decide) hs_1).cut 2
  refine .f rfl (.call ent112 rfl ((rbits_if _ _ _ _ _ (by_) (N) (pos) (1) hA_1 (hb) (hNl) (by omega) (by omega) (hpos)).mono fun r_1 w_2 h_1 => ?_))
  obtain ⟨rfl, hp_1⟩ := h_1
  have hs_2 : Sat w0 ([cObj g 162 [v, (.int .i64 N), (.int .i64 ((if pos + 1 ≤ N then pos + 1 else pos) : Nat))], cL v 5 (encN .u8) (by_), tabC tg 166 (F) (S) (lo), cRows 3 (encN .i64) S] ++ cs) _ := Sat.order [0, 1, 2, 3] (by decide) hp_1.join
  refine .m rfl rfl <| .e rfl (.extract rfl rfl) <| .e rfl (.extract rfl rfl) <| .s rfl rfl <| .s rfl rfl <| .nil <| .seq <| .seq <| .region <| .m rfl rfl <| .e rfl (.neqN (b := 0) rfl rfl) <| .nil <| .condD rfl (fun hc_1 => ?_) (fun hc_1 => ?_)
  · refine .seq <| .region <| .s rfl rfl <| .s rfl rfl <| .nil <| .ret ?_
    show PostK _ _ _ _ _ _
    refine post2 rfl rfl rfl ?_
    have hgt : N < pos + 1 := Nat.lt_of_not_le fun h => hc_1 (by rw [if_pos h])
    have hno : ¬ pos + 1 ≤ N := by omega
    rw [show 17 - n = (16 - n) + 1 by omega, symF, if_pos hgt] at hE
    have hq := hs_2
    rw [if_neg hno] at hq
    exact ⟨by rw [← hE]; rfl, by rw [← hE]; exact hq⟩
  · refine .skip <| .seq ?_
    have hle : pos + 1 ≤ N := Classical.byContradiction fun h => hc_1 (by rw [if_neg h]; decide)
    have hrb := rb_lt by_ pos
    refine .weaken [(0, _), (1, _), (6, _), (7, _), (8, (.int .u64 (rb by_ pos))), (9, _), (12, _), (13, _), (14, _), (15, _), (16, _), (17, _), (18, _)] ⟨rfl, rfl, rfl, rfl, congrArg some (by rw [if_pos hle]; simp [bvN]), rfl, rfl, rfl, rfl, rfl, rfl, rfl, rfl, trivial⟩ ?_
    have hs_3 : Sat w0 ([cObj g 162 [v, (.int .i64 N), (.int .i64 ((pos + 1) : Nat))], cL v 5 (encN .u8) (by_), tabC tg 166 (F) (S) (lo), cRows 3 (encN .i64) S] ++ cs) w_2 := by have hq := hs_2; rw [if_pos hle] at hq; exact hq
    have hor := or_one (v := u) hrb (by omega)
    refine .region <| .m rfl rfl <| .e rfl (.shlN (b := 1) rfl rfl rfl (by (try simp only [IntKind.bits]); omega)) <| .m rfl rfl <| .e rfl (.orN rfl rfl rfl (by (try simp only [IntKind.bits]); omega) (by (try simp only [IntKind.bits]); omega)) <| .s rfl rfl <| .nil <| .weaken [(0, _), (1, _), (6, (.int .u64 ((2 * u + rb by_ pos) : Nat))), (7, _), (8, _), (13, _), (17, _), (18, _), (19, _), (20, _), (21, _), (22, _)] ⟨rfl, rfl, congrArg some (congrArg (fun q : Nat => Value.int .u64 (q : Int)) hor), rfl, rfl, rfl, rfl, rfl, rfl, rfl, rfl, rfl, trivial⟩ <| .seq <| .seq <| .region <| .m rfl rfl <| .m rfl rfl <| .m rfl rfl <| .f rfl (.call ent114 rfl ((begins_ok tg (F) (S) (lo) ((2 * u + rb by_ pos)) (n) _ (fun j x h => hs_3.tabF 2 rfl h) (fun j p h => hs_3.tabS 2 rfl hFl h) (hs_3.tabN 2 rfl hFl hSl) (fun j p h => hs_3.rdRows 3 rfl h) hFl hSl hlo hFb hSb (by omega)).mono fun r_2 w_3 h_2 => ?_))
    obtain ⟨rfl, hp_2⟩ := h_2
    have hs_4 : Sat w0 ([_, _, _, _] ++ cs) _ := (hs_3.adds hp_2).mid
    refine .e rfl (.notB rfl) <| .nil <| .cond rfl (fun hc_2 => ?_) (fun hc_2 => ?_)
    · refine .seq <| .region <| .s rfl rfl <| .s rfl rfl <| .nil <| .ret ?_
      show PostK _ _ _ _ _ _
      refine post2 rfl rfl rfl ?_
      rw [show 17 - n = (16 - n) + 1 by omega, symF, if_neg (by omega), if_pos (by simpa using hc_2)] at hE
      exact ⟨by rw [← hE]; rfl, by rw [← hE]; exact hs_4⟩
    · refine .skip <| .seq ?_
      have hbeg : begF F (S.map Prod.snd) lo (2 * u + rb by_ pos) n = true := by simpa using hc_2
      have hnlo := begF_le hbeg
      obtain ⟨f, hf⟩ : ∃ f, F[n]? = some f := ⟨_, List.getElem?_eq_getElem (by omega)⟩
      obtain ⟨p, hp⟩ : ∃ p, S[n]? = some p := ⟨_, List.getElem?_eq_getElem (by omega)⟩
      have hfb := hFb f (mem_of_get hf)
      have hpb := hSb p (mem_of_get hp)
      have hFd : F.getD n 0 = f := getD_some hf
      have hSd := mapsnd hp
      rw [show 17 - n = (16 - n) + 1 by omega, symF, if_neg (by omega), if_neg (by rw [hbeg]; simp), hFd, hSd] at hE
      refine .mid (fun L' w' => Weak [(0, (.pointer (some ⟨tg, 0, none⟩))), (1, (.pointer (some ⟨g, 0, none⟩))), (6, (.int .u64 ((2 * u + rb by_ pos) : Nat))), (7, (.int .i64 n)), (8, (.int .u64 (rb by_ pos))), (18, (.bool (decide ((if pos + 1 ≤ N then 0 else 10) ≠ 0)))), (27, (.bool (!(begF F (S.map Prod.snd) lo (2 * u + rb by_ pos) n)))), (54, (.bool (decide ((f ≤ (2 * u + rb by_ pos)) ∧ (((2 * u + rb by_ pos) - f) < p.2.length)))))] L' ∧ Sat w0 ([cObj g 162 [v, (.int .i64 N), (.int .i64 ((pos + 1) : Nat))], cL v 5 (encN .u8) (by_), tabC tg 166 (F) (S) (lo), cRows 3 (encN .i64) S] ++ cs) w') ?_ ?_
      · refine .drawS hs_4 (.free 0 (.free 1 (.free 2 (.free 3 (.free 4 (.free 5 (.free 6 (.free 7 (.free 8 (.free 9 (.free 10 (.free 11 (.free 12 (.free 13 (.free 14 (.free 15 (.free 16 (.free 17 (.free 18 (.free 19 (.free 20 (.free 21 (.free 22 (.free 23 (.free 24 (.free 25 (.free 26 .fin))))))))))))))))))))))))))) mixed (by kernel_rfl) ?_
        have hs_5 := hs_4.drew
        refine .m rfl rfl hs_5 <| .m rfl rfl hs_5 <| .m rfl rfl hs_5 <| .e rfl (fun w' hS' => .nilCheck rfl) hs_5 <| .e rfl (fun w' hS' => .fieldAddr fld166_0 rfl rfl) hs_5 <| .e rfl (fun w' hS' => .idxArr arr163 rfl rfl (by omega)) hs_5 <| .e rfl (fun w' hS' => .load scal56 rfl (hS'.tabF 2 rfl hf)) hs_5 <| .e rfl (fun w' hS' => .geqN rfl rfl) hs_5 <| .m rfl rfl hs_5 ?_
        by_cases hg_1 : f ≤ (2 * u + rb by_ pos)
        · refine .evYes rfl rfl rfl rfl (decide_eq_true hg_1) rfl (fun w' hS' => .move rfl) hs_5 <| .evYes rfl rfl rfl rfl (decide_eq_true hg_1) rfl (fun w' hS' => .move rfl) hs_5 <| .evYes rfl rfl rfl rfl (decide_eq_true hg_1) rfl (fun w' hS' => .move rfl) hs_5 <| .evYes rfl rfl rfl rfl (decide_eq_true hg_1) rfl (fun w' hS' => .nilCheck rfl) hs_5 <| .evYes rfl rfl rfl rfl (decide_eq_true hg_1) rfl (fun w' hS' => .fieldAddr fld166_0 rfl rfl) hs_5 <| .evYes rfl rfl rfl rfl (decide_eq_true hg_1) rfl (fun w' hS' => .idxArr arr163 rfl rfl (by omega)) hs_5 <| .evYes rfl rfl rfl rfl (decide_eq_true hg_1) rfl (fun w' hS' => .load scal56 rfl (hS'.tabF 2 rfl hf)) hs_5 <| .evYes rfl rfl rfl rfl (decide_eq_true hg_1) rfl (fun w' hS' => .subN rfl rfl rfl (by (try simp only [IntKind.bits]); omega) (by (try simp only [IntKind.bits]); omega)) hs_5 <| .evYes rfl rfl rfl rfl (decide_eq_true hg_1) rfl (fun w' hS' => .move rfl) hs_5 <| .evYes rfl rfl rfl rfl (decide_eq_true hg_1) rfl (fun w' hS' => .move rfl) hs_5 <| .evYes rfl rfl rfl rfl (decide_eq_true hg_1) rfl (fun w' hS' => .nilCheck rfl) hs_5 <| .evYes rfl rfl rfl rfl (decide_eq_true hg_1) rfl (fun w' hS' => .fieldAddr fld166_1 rfl rfl) hs_5 <| .evYes rfl rfl rfl rfl (decide_eq_true hg_1) rfl (fun w' hS' => .idxArr arr164 rfl rfl (by omega)) hs_5 <| .evYes rfl rfl rfl rfl (decide_eq_true hg_1) rfl (fun w' hS' => .load scal27 rfl (hS'.tabS 2 rfl (by (try simp only [List.length_set]); assumption) hp)) hs_5 <| .evYes rfl rfl rfl rfl (decide_eq_true hg_1) rfl (fun w' hS' => .lenL Tryz.underlying27 rfl (hS'.rdRows 3 rfl hp)) hs_5 <| .evYes rfl rfl rfl rfl (decide_eq_true hg_1) rfl (fun w' hS' => .convK (by rw [Tryz.underlying3]; rfl) Tryz.underlying56 rfl (wrap_u rfl (by (try simp only [IntKind.bits]); omega))) hs_5 <| .evYes rfl rfl rfl rfl (decide_eq_true hg_1) rfl (fun w' hS' => .lssN rfl rfl) hs_5 <| .e rfl (fun w' hS' => .pickY rfl (decide_eq_true hg_1) rfl) hs_5 <| .fin ?_
          exact ⟨⟨rfl, rfl, rfl, rfl, rfl, rfl, rfl, congrArg some (congrArg Value.bool (by simp [hg_1])), trivial⟩, hs_5⟩
        · refine .no rfl rfl rfl rfl (decide_eq_false hg_1) rfl hs_5 <| .no rfl rfl rfl rfl (decide_eq_false hg_1) rfl hs_5 <| .no rfl rfl rfl rfl (decide_eq_false hg_1) rfl hs_5 <| .no rfl rfl rfl rfl (decide_eq_false hg_1) rfl hs_5 <| .no rfl rfl rfl rfl (decide_eq_false hg_1) rfl hs_5 <| .no rfl rfl rfl rfl (decide_eq_false hg_1) rfl hs_5 <| .no rfl rfl rfl rfl (decide_eq_false hg_1) rfl hs_5 <| .no rfl rfl rfl rfl (decide_eq_false hg_1) rfl hs_5 <| .no rfl rfl rfl rfl (decide_eq_false hg_1) rfl hs_5 <| .no rfl rfl rfl rfl (decide_eq_false hg_1) rfl hs_5 <| .no rfl rfl rfl rfl (decide_eq_false hg_1) rfl hs_5 <| .no rfl rfl rfl rfl (decide_eq_false hg_1) rfl hs_5 <| .no rfl rfl rfl rfl (decide_eq_false hg_1) rfl hs_5 <| .no rfl rfl rfl rfl (decide_eq_false hg_1) rfl hs_5 <| .no rfl rfl rfl rfl (decide_eq_false hg_1) rfl hs_5 <| .no rfl rfl rfl rfl (decide_eq_false hg_1) rfl hs_5 <| .no rfl rfl rfl rfl (decide_eq_false hg_1) rfl hs_5 <| .e rfl (fun w' hS' => .pickN rfl (decide_eq_false hg_1) rfl) hs_5 <| .fin ?_
          exact ⟨⟨rfl, rfl, rfl, rfl, rfl, rfl, rfl, congrArg some (congrArg Value.bool (by simp [hg_1])), trivial⟩, hs_5⟩
      · rintro L' w_4 ⟨hw_1, hs_6⟩
        refine .weaken _ hw_1 <| .condD rfl (fun hc_3 => ?_) (fun hc_3 => ?_)
        · refine .seq ?_
          obtain ⟨x, hx⟩ : ∃ x, p.2[2 * u + rb by_ pos - f]? = some x := ⟨_, List.getElem?_eq_getElem hc_3.2⟩
          rw [if_pos hc_3, getD_some hx] at hE
          refine .drawS hs_4 (.free 0 (.free 1 (.free 2 (.free 3 (.free 4 (.free 5 (.free 6 (.free 7 (.free 8 (.free 9 (.free 10 (.free 11 (.free 12 (.free 13 (.free 14 (.free 15 (.free 16 (.free 17 .fin)))))))))))))))))) mixed (by kernel_rfl) ?_
          have hs_7 := hs_6.drew
          refine .m rfl rfl hs_7 <| .m rfl rfl hs_7 <| .e rfl (fun w' hS' => .nilCheck rfl) hs_7 <| .e rfl (fun w' hS' => .fieldAddr fld166_1 rfl rfl) hs_7 <| .e rfl (fun w' hS' => .idxArr arr164 rfl rfl (by omega)) hs_7 <| .e rfl (fun w' hS' => .load scal27 rfl (hS'.tabS 2 rfl (by (try simp only [List.length_set]); assumption) hp)) hs_7 <| .m rfl rfl hs_7 <| .m rfl rfl hs_7 <| .m rfl rfl hs_7 <| .e rfl (fun w' hS' => .nilCheck rfl) hs_7 <| .e rfl (fun w' hS' => .fieldAddr fld166_0 rfl rfl) hs_7 <| .e rfl (fun w' hS' => .idxArr arr163 rfl rfl (by omega)) hs_7 <| .e rfl (fun w' hS' => .load scal56 rfl (hS'.tabF 2 rfl hf)) hs_7 <| .e rfl (fun w' hS' => .subN rfl rfl rfl (by (try simp only [IntKind.bits]); omega) (by (try simp only [IntKind.bits]); omega)) hs_7 <| .e rfl (fun w' hS' => .idxL (E := encN .i64) sl27 rfl rfl (hS'.rdRows 3 rfl hp) (hc_3.2)) hs_7 <| .e rfl (fun w' hS' => .ldL (E := encN .i64) scal3 rfl (hS'.rdRows 3 rfl hp) hx (by decide) rfl) hs_7 <| .e rfl (fun w' hS' => .assign rfl) hs_7 <| .e rfl (fun w' hS' => .assign rfl) hs_7 <| .fin <| .ret ?_
          show PostK _ _ _ _ _ _
          refine post2 rfl rfl rfl ?_
          exact ⟨by rw [← hE]; rfl, by rw [← hE]; exact hs_7⟩
        · refine .skip <| .region <| .m rfl rfl <| .e rfl (.addI (b := 1) rfl rfl (by omega)) <| .s rfl rfl <| .nil ?_
          exact ⟨(n + 1, (2 * u + rb by_ pos), (pos + 1)), ⟨rfl, rfl, rfl, rfl, trivial⟩, ⟨hs_6, by omega, by omega, by rw [if_neg hc_3] at hE; rw [show 17 - (n + 1) = 16 - n by omega]; exact hE, hle, by rw [Nat.pow_succ]; omega⟩, (show (17 - (n + 1)) < (17 - n) from by omega)⟩
end Go.Proofs.YtecfgjdpghddgaaGreat
namespace Go.Proofs.YtecfgjdpghddgaaGreat
open Go.RowKit Go.Kw
set_option maxRecDepth 100000
set_option maxHeartbeats 1000000 in
theorem tableOf_ok (v : Value) (l : List Nat) (w : World) (hv : RdL w v (encN .i64) l) (hn : l.length ≤ 1024) (hval : validB l = true) :
    CallsV Tryz.prog 75 [v] w fun r w' => ∃ g S, r = .pointer (some ⟨g, 0, none⟩) ∧ S.map Prod.snd = (T14 l).2.1 ∧ Sat w [tabC g 166 (T14 l).1 S (T14 l).2.2, cRows 3 (encN .i64) S] w' := by
  have hs0 := Sat.start w
  refine callsV_of Tryz.func75 rfl rfl ?_
  refine .seq ?_
  have hgl := GoodLens.of_valid hval
  have hiol := inOrd_length l
  refine .region <| .s rfl rfl <| .nil <| .seq <| .region <| .e rfl (.build bt166 rfl trivial rfl) <| .f rfl (.box hs0 rfl fun b_1 w_1 hs_1 hch_1 hb_1 => ?_)
  refine .s rfl rfl <| .nil <| .seq <| .region <| .m rfl rfl <| .f rfl (.call ent107 rfl ((codesOf_ok _ (l) _ (hv.ext hs_1.ext) (hn) (validB_le hval)).mono fun r_1 w_2 h_1 => ?_))
  have hp_1 := h_1
  have hs_2 := hs_1.adds hp_1
  refine .s rfl rfl <| .nil <| .seq <| .seq <| .region <| .m rfl rfl <| .f rfl (.call ent113 rfl ((inOrder_ok _ (l) _ (hv.ext hs_2.ext) (hn) (fun x hx => by have := validB_le hval x hx; omega)).mono fun r_2 w_3 h_2 => ?_))
  have hp_2 := h_2
  have hs_3 : Sat w [_, _, cL r_2 3 (encN .i64) (inOrd (l))] _ := hs_2.adds hp_2
  refine .e rfl (.lenL Tryz.underlying27 rfl (hs_3.rdL 2 rfl)) <| .m rfl rfl <| .nil <| .block ?_
  have hs_4 : Sat w [tabC b_1 166 (List.replicate 16 0) (List.replicate 16 (⟨none, 0, 0⟩, [])) (0), _, _] w_3 := hs_3
  have hs_5 : Sat w [tabC b_1 166 (List.replicate 16 0) (List.replicate 16 (⟨none, 0, 0⟩, [])) (0), cL r_1 56 (encN .u64) (codesN l), cL r_2 3 (encN .i64) (inOrd (l)), cRows 3 (encN .i64) (List.replicate 16 (⟨none, 0, 0⟩, []))] w_3 := hs_4.nilRows 3 (encN .i64) 16
  have hs_7 : Sat w [tabC b_1 166 (List.replicate 16 0) (List.replicate 16 (⟨none, 0, 0⟩, [])) (0), cRows 3 (encN .i64) (List.replicate 16 (⟨none, 0, 0⟩, [])), cL r_1 56 (encN .u64) (codesN l), cL r_2 3 (encN .i64) (inOrd (l))] w_3 := ((Sat.order [0, 3, 1, 2] (by decide) hs_5.tail).untail).sub ((.cons_cons _ (.cons_cons _ (.cons_cons _ (.cons_cons _ .slnil)))))
  refine .loop (α := Nat × List Nat × List (SV × List Nat) × Nat) (fun (k, F, S, lo) => [(0, v), (3, (.pointer (some ⟨b_1, 0, none⟩))), (4, r_1), (13, r_2), (14, (.int .i64 ((inOrd (l)).length : Nat))), (15, (.int .i64 k))]) (fun (k, F, S, lo) w' => Sat w [tabC b_1 166 (F) (S) (lo), cRows 3 (encN .i64) (S), cL r_1 56 (encN .u64) (codesN l), cL r_2 3 (encN .i64) (inOrd (l))] w' ∧ (k ≤ (inOrd l).length) ∧ (F = (tabN l ((inOrd l).take k)).1) ∧ (S.map Prod.snd = (tabN l ((inOrd l).take k)).2.1) ∧ (lo = (tabN l ((inOrd l).take k)).2.2) ∧ (F.length = 16) ∧ (S.length = 16)) (fun (k, F, S, lo) => (inOrd l).length - k) (0, List.replicate 16 0, List.replicate 16 (⟨none, 0, 0⟩, []), 0) ⟨rfl, rfl, rfl, rfl, rfl, rfl, trivial⟩ ⟨hs_7, Nat.zero_le _, rfl, rfl, rfl, rfl, rfl⟩ ?_
  rintro ⟨k, F, S, lo⟩ w_4 ⟨hs_8, hk, hTF, hTS, hTl, hFl, hSl⟩
  show CW _ _ _ _ [(0, v), (3, (.pointer (some ⟨b_1, 0, none⟩))), (4, r_1), (13, r_2), (14, (.int .i64 ((inOrd (l)).length : Nat))), (15, (.int .i64 k))] _
  refine .seq <| .region <| .e rfl (.lssN rfl rfl) <| .nil <| .seq <| .condD rfl (fun hc_1 => ?_) (fun hc_1 => ?_)
  · refine .skip <| .seq <| .block <| .seq ?_
    obtain ⟨x, hx⟩ : ∃ x, (inOrd (l))[k]? = some x := ⟨_, List.getElem?_eq_getElem hc_1⟩
    refine .region <| .e rfl (.idxL (E := encN .i64) sl27 rfl rfl (hs_8.rdL 3 rfl) (by omega)) <| .e rfl (.ldL (E := encN .i64) scal3 rfl (hs_8.rdL 3 rfl) hx (by decide) rfl) <| .s rfl rfl <| .nil <| .seq ?_
    have hxm := inOrd_mem l x (mem_of_get hx)
    have hlx := lenKey_some hxm.1
    have hl15 := hgl.le x
    refine .region <| .m rfl rfl <| .m rfl rfl <| .e rfl (.idxL (E := encN .i64) sl27 rfl rfl (hv.ext hs_8.ext) (by omega)) <| .e rfl (.ldL (E := encN .i64) scal3 rfl (hv.ext hs_8.ext) hlx (by decide) rfl) <| .s rfl rfl <| .nil <| .seq <| .seq ?_
    obtain ⟨p, hp⟩ : ∃ p, S[lenKey l x]? = some p := ⟨_, List.getElem?_eq_getElem (by omega)⟩
    have hpd := mapsnd hp
    have hsp := tabN_spec l hgl.le ((inOrd l).take k)
    have hp2 : p.2.length ≤ 1024 := by
      have h1 := (hsp.2.2.1 (lenKey l x) (by omega)).1
      rw [← hTS, hpd] at h1
      rw [h1]
      have h2 := List.length_filter_le (fun z => lenKey l z == lenKey l x) ((inOrd l).take k)
      have h3 := inOrd_length l
      rw [List.length_take] at h2; omega
    have hcl := codesN_length l
    refine .region <| .m rfl rfl <| .m rfl rfl <| .e rfl (.nilCheck rfl) <| .e rfl (.fieldAddr fld166_1 rfl rfl) <| .e rfl (.idxArr arr164 rfl rfl (by omega)) <| .e rfl (.load scal27 rfl (hs_8.tabS 0 rfl (by (try simp only [List.length_set]); assumption) hp)) <| .e rfl (.lenL Tryz.underlying27 rfl (hs_8.rdRows 1 rfl hp)) <| .e rfl (.eqlN (b := 0) rfl rfl) <| .nil <| .condD rfl (fun hc_2 => ?_) (fun hc_2 => ?_)
    · refine .draw (fun w' => Sat w [cRows 3 (encN .i64) (S), cL r_1 56 (encN .u64) (codesN l), cL r_2 3 (encN .i64) (inOrd (l))] w') (.free 0 (.free 1 (.free 2 (.free 3 (.free 4 (.free 5 (.free 6 (.free 7 (.free 8 (.one 9 .fin)))))))))) mixed (by kernel_rfl) ?_
      have hs_9 := hs_8.drew
      have hS_1 : Sat w [cRows 3 (encN .i64) (S), _, _] _ := hs_9.sub ((.cons _ (.cons_cons _ (.cons_cons _ (.cons_cons _ .slnil)))))
      refine .m rfl rfl hS_1 <| .m rfl rfl hS_1 <| .m rfl rfl hS_1 <| .m rfl rfl hS_1 <| .e rfl (fun w' hS' => .idxL (E := encN .u64) sl92 rfl rfl (hS'.rdL 1 rfl) (by omega)) hS_1 <| .e rfl (fun w' hS' => .ldL (E := encN .u64) scal56 rfl (hS'.rdL 1 rfl) (code_of hgl hxm.2).1 (by decide) rfl) hS_1 <| .e rfl (fun w' hS' => .nilCheck rfl) hS_1 <| .e rfl (fun w' hS' => .fieldAddr fld166_0 rfl rfl) hS_1 <| .e rfl (fun w' hS' => .idxArr arr163 rfl rfl (by omega)) hS_1 <| .f rfl (.setTabF (a := (cdOf l x)) 0 one56 hs_9 rfl rfl rfl (by omega) fun w_5 hs_10 hch_2 => ?_)
      have hS_2 : Sat w [_, _, _] _ := hs_10.sub ((.cons _ (.cons_cons _ (.cons_cons _ (.cons_cons _ .slnil)))))
      refine ⟨hS_2, ?_⟩
      refine .fin <| .seq ?_
      have hs_11 : Sat w [tabC b_1 166 (F.set (lenKey l x) (cdOf l x)) (S) (lo), cRows 3 (encN .i64) (S.eraseIdx (lenKey l x)), cL r_1 56 (encN .u64) (codesN l), cL r_2 3 (encN .i64) (inOrd (l)), cL p.1.val 3 (encN .i64) (p.2)] w_5 := Sat.rowOut (A := [tabC b_1 166 (F.set (lenKey l x) (cdOf l x)) (S) (lo), cRows 3 (encN .i64) (S), cL r_1 56 (encN .u64) (codesN l), cL r_2 3 (encN .i64) (inOrd (l))]) hs_10 1 rfl hp
      have hshp_1 := (hs_11.rdL (E := encN .i64) 4 rfl).shp (by decide)
      refine .draw2 (fun w' => Sat w [tabC b_1 166 (F.set (lenKey l x) (cdOf l x)) (S) (lo), cRows 3 (encN .i64) (S.eraseIdx (lenKey l x)), cL r_1 56 (encN .u64) (codesN l), cL r_2 3 (encN .i64) (inOrd (l))] w') (fun w' => Sat w [cRows 3 (encN .i64) (S.eraseIdx (lenKey l x)), cL r_1 56 (encN .u64) (codesN l), cL r_2 3 (encN .i64) (inOrd (l))] w') 14 (.free 0 (.free 1 (.free 2 (.free 3 (.free 4 (.free 5 (.free 6 (.free 7 (.free 8 (.loose 11 (.loose 12 (.one 9 (.one 10 (.free 13 (.bar 14 .fin))))))))))))))) (fun w' h => h.sub ((.cons _ (.cons_cons _ (.cons_cons _ (.cons_cons _ .slnil)))))) mixed (by kernel_rfl) ?_
      have hs_12 := hs_11.drew
      have hS_3 : Sat w [_, _, _, _] _ := hs_12.sub ((.cons_cons _ (.cons_cons _ (.cons_cons _ (.cons_cons _ (.cons _ .slnil))))))
      refine .m rfl rfl hS_3 <| .m rfl rfl hS_3 <| .m rfl rfl hS_3 <| .m rfl rfl hS_3 <| .e rfl (fun w' hS' => .nilCheck rfl) hS_3 <| .e rfl (fun w' hS' => .fieldAddr fld166_1 rfl rfl) hS_3 <| .e rfl (fun w' hS' => .idxArr arr164 rfl rfl (by omega)) hS_3 <| .e rfl (fun w' hS' => .load scal27 rfl (hS'.tabS 0 rfl (by (try simp only [List.length_set]); assumption) hp)) hS_3 <| .m rfl rfl hS_3 <| .loose rfl rfl rfl (fun w' hS' => .nilCheck rfl) hS_3 <| .loose rfl rfl rfl (fun w' hS' => .fieldAddr fld166_1 rfl rfl) hS_3 <| .f rfl (.lit1 (encN .i64) x sl27 rfl hs_12 rfl fun v_1 w_6 hs_13 hch_3 => ?_)
      have hS_4 : Sat w [_, _, _, _] _ := hs_13.sub ((.cons_cons _ (.cons_cons _ (.cons_cons _ (.cons_cons _ (.cons _ (.cons _ .slnil)))))))
      refine ⟨hS_4, ?_⟩
      refine .f rfl (.appendL 4 sl27 hs_13 rfl rfl rfl Tryz.underlying27 (hs_13.rdL 5 rfl) (by simp; omega) (by simp; omega) fun v_2 w_7 hs_14 hch_4 => ?_)
      have hs_14d : Sat w [_, _, _, _, cL v_2 3 (encN .i64) (p.2 ++ [x])] _ := hs_14.drop 5
      obtain ⟨sv_1, hsv_1, hsv_1n⟩ := (hs_14d.rdL 4 rfl).sv
      subst hsv_1
      have hS_5 : Sat w [_, _, _, _] _ := hs_14d.sub ((.cons_cons _ (.cons_cons _ (.cons_cons _ (.cons_cons _ (.cons _ .slnil))))))
      refine ⟨hS_5, ?_⟩
      refine .e rfl (fun w' hS' => .idxArr arr164 rfl rfl (by omega)) hS_5 <| .bar rfl rfl rfl (OpE.setTabS (sv_1, p.2 ++ [x]) 0 one27 hs_14d rfl rfl rfl (by (try simp only [List.length_set]); assumption) (by omega) fun w_8 hs_15 hch_5 => ?_)
      have hS_6 : Sat w [_, _, _] _ := hs_15.sub ((.cons _ (.cons_cons _ (.cons_cons _ (.cons_cons _ (.cons _ .slnil))))))
      refine ⟨hS_6, ?_⟩
      refine .fin ?_
      have hs_16 : Sat w [tabC b_1 166 (F.set (lenKey l x) (cdOf l x)) (S.set (lenKey l x) (sv_1, p.2 ++ [x])) (lo), cRows 3 (encN .i64) (S.set (lenKey l x) (sv_1, p.2 ++ [x])), cL r_1 56 (encN .u64) (codesN l), cL r_2 3 (encN .i64) (inOrd (l))] w_8 := Sat.rowIn (A := [tabC b_1 166 (F.set (lenKey l x) (cdOf l x)) (S.set (lenKey l x) (sv_1, p.2 ++ [x])) (lo), cRows 3 (encN .i64) (S.eraseIdx (lenKey l x)), cL r_1 56 (encN .u64) (codesN l), cL r_2 3 (encN .i64) (inOrd (l))]) hs_15 1 rfl (by omega)
      refine .weaken [(0, _), (3, _), (4, _), (6, _), (7, _), (13, _), (14, _), (15, _), (16, _), (30, _)] ⟨rfl, rfl, rfl, rfl, rfl, rfl, rfl, rfl, rfl, rfl, trivial⟩ <| .region <| .m rfl rfl <| .m rfl rfl <| .e rfl (.nilCheck rfl) <| .e rfl (.fieldAddr fld166_2 rfl rfl) <| .f rfl (.setTabN (a := (lenKey l x)) 0 one3 hs_16 rfl rfl rfl (by (try simp only [List.length_set]); assumption) (by (try simp only [List.length_set]); assumption) fun w_9 hs_17 hch_6 => ?_)
      refine .nil <| .region <| .e rfl (.addI (b := 1) rfl rfl (by omega)) <| .m rfl rfl <| .nil ?_
      exact ⟨(k + 1, F.set (lenKey l x) (cdOf l x), S.set (lenKey l x) (sv_1, p.2 ++ [x]), lenKey l x), ⟨rfl, rfl, rfl, rfl, rfl, rfl, trivial⟩, ⟨hs_17, by omega, by rw [take_succ_of hx, tabN_snoc, tStep, ← hTS, hpd, ← hTF]; simp [hc_2], by rw [take_succ_of hx, tabN_snoc, tStep, ← hTS, hpd, List.map_set], by rw [take_succ_of hx, tabN_snoc, tStep], by (try simp only [List.length_set]); exact hFl, by simp only [List.length_set]; exact hSl⟩, (show ((inOrd l).length - (k + 1)) < ((inOrd l).length - k) from by omega)⟩
    · refine .skip <| .seq ?_
      have hs_18 : Sat w [tabC b_1 166 (F) (S) (lo), cRows 3 (encN .i64) (S.eraseIdx (lenKey l x)), cL r_1 56 (encN .u64) (codesN l), cL r_2 3 (encN .i64) (inOrd (l)), cL p.1.val 3 (encN .i64) (p.2)] w_4 := Sat.rowOut (A := [tabC b_1 166 (F) (S) (lo), cRows 3 (encN .i64) (S), cL r_1 56 (encN .u64) (codesN l), cL r_2 3 (encN .i64) (inOrd (l))]) hs_8 1 rfl hp
      have hshp_2 := (hs_18.rdL (E := encN .i64) 4 rfl).shp (by decide)
      refine .draw2 (fun w' => Sat w [tabC b_1 166 (F) (S) (lo), cRows 3 (encN .i64) (S.eraseIdx (lenKey l x)), cL r_1 56 (encN .u64) (codesN l), cL r_2 3 (encN .i64) (inOrd (l))] w') (fun w' => Sat w [cRows 3 (encN .i64) (S.eraseIdx (lenKey l x)), cL r_1 56 (encN .u64) (codesN l), cL r_2 3 (encN .i64) (inOrd (l))] w') 14 (.free 0 (.free 1 (.free 2 (.free 3 (.free 4 (.free 5 (.free 6 (.free 7 (.free 8 (.loose 11 (.loose 12 (.one 9 (.one 10 (.free 13 (.bar 14 .fin))))))))))))))) (fun w' h => h.sub ((.cons _ (.cons_cons _ (.cons_cons _ (.cons_cons _ .slnil)))))) mixed (by kernel_rfl) ?_
      have hs_19 := hs_18.drew
      have hS_7 : Sat w [_, _, _, _] _ := hs_19.sub ((.cons_cons _ (.cons_cons _ (.cons_cons _ (.cons_cons _ (.cons _ .slnil))))))
      refine .m rfl rfl hS_7 <| .m rfl rfl hS_7 <| .m rfl rfl hS_7 <| .m rfl rfl hS_7 <| .e rfl (fun w' hS' => .nilCheck rfl) hS_7 <| .e rfl (fun w' hS' => .fieldAddr fld166_1 rfl rfl) hS_7 <| .e rfl (fun w' hS' => .idxArr arr164 rfl rfl (by omega)) hS_7 <| .e rfl (fun w' hS' => .load scal27 rfl (hS'.tabS 0 rfl (by (try simp only [List.length_set]); assumption) hp)) hS_7 <| .m rfl rfl hS_7 <| .loose rfl rfl rfl (fun w' hS' => .nilCheck rfl) hS_7 <| .loose rfl rfl rfl (fun w' hS' => .fieldAddr fld166_1 rfl rfl) hS_7 <| .f rfl (.lit1 (encN .i64) x sl27 rfl hs_19 rfl fun v_3 w_10 hs_20 hch_7 => ?_)
      have hS_8 : Sat w [_, _, _, _] _ := hs_20.sub ((.cons_cons _ (.cons_cons _ (.cons_cons _ (.cons_cons _ (.cons _ (.cons _ .slnil)))))))
      refine ⟨hS_8, ?_⟩
      refine .f rfl (.appendL 4 sl27 hs_20 rfl rfl rfl Tryz.underlying27 (hs_20.rdL 5 rfl) (by simp; omega) (by simp; omega) fun v_4 w_11 hs_21 hch_8 => ?_)
      have hs_21d : Sat w [_, _, _, _, cL v_4 3 (encN .i64) (p.2 ++ [x])] _ := hs_21.drop 5
      obtain ⟨sv_2, hsv_2, hsv_2n⟩ := (hs_21d.rdL 4 rfl).sv
      subst hsv_2
      have hS_9 : Sat w [_, _, _, _] _ := hs_21d.sub ((.cons_cons _ (.cons_cons _ (.cons_cons _ (.cons_cons _ (.cons _ .slnil))))))
      refine ⟨hS_9, ?_⟩
      refine .e rfl (fun w' hS' => .idxArr arr164 rfl rfl (by omega)) hS_9 <| .bar rfl rfl rfl (OpE.setTabS (sv_2, p.2 ++ [x]) 0 one27 hs_21d rfl rfl rfl (by (try simp only [List.length_set]); assumption) (by omega) fun w_12 hs_22 hch_9 => ?_)
      have hS_10 : Sat w [_, _, _] _ := hs_22.sub ((.cons _ (.cons_cons _ (.cons_cons _ (.cons_cons _ (.cons _ .slnil))))))
      refine ⟨hS_10, ?_⟩
      refine .fin ?_
      have hs_23 : Sat w [tabC b_1 166 (F) (S.set (lenKey l x) (sv_2, p.2 ++ [x])) (lo), cRows 3 (encN .i64) (S.set (lenKey l x) (sv_2, p.2 ++ [x])), cL r_1 56 (encN .u64) (codesN l), cL r_2 3 (encN .i64) (inOrd (l))] w_12 := Sat.rowIn (A := [tabC b_1 166 (F) (S.set (lenKey l x) (sv_2, p.2 ++ [x])) (lo), cRows 3 (encN .i64) (S.eraseIdx (lenKey l x)), cL r_1 56 (encN .u64) (codesN l), cL r_2 3 (encN .i64) (inOrd (l))]) hs_22 1 rfl (by omega)
      refine .region <| .m rfl rfl <| .m rfl rfl <| .e rfl (.nilCheck rfl) <| .e rfl (.fieldAddr fld166_2 rfl rfl) <| .f rfl (.setTabN (a := (lenKey l x)) 0 one3 hs_23 rfl rfl rfl (by (try simp only [List.length_set]); assumption) (by (try simp only [List.length_set]); assumption) fun w_13 hs_24 hch_10 => ?_)
      refine .nil <| .region <| .e rfl (.addI (b := 1) rfl rfl (by omega)) <| .m rfl rfl <| .nil ?_
      exact ⟨(k + 1, F, S.set (lenKey l x) (sv_2, p.2 ++ [x]), lenKey l x), ⟨rfl, rfl, rfl, rfl, rfl, rfl, trivial⟩, ⟨hs_24, by omega, by rw [take_succ_of hx, tabN_snoc, tStep, ← hTS, hpd, ← hTF]; simp [hc_2], by rw [take_succ_of hx, tabN_snoc, tStep, ← hTS, hpd, List.map_set], by rw [take_succ_of hx, tabN_snoc, tStep], by (try simp only [List.length_set]); exact hFl, by simp only [List.length_set]; exact hSl⟩, (show ((inOrd l).length - (k + 1)) < ((inOrd l).length - k) from by omega)⟩
  · refine .exit0 <| .seq <| .region <| .m rfl rfl <| .s rfl rfl <| .nil <| .ret ?_
    show PostK _ _ _ _ _ _
    refine post1 rfl rfl ?_
    have hs_25 : Sat w [tabC b_1 166 (F) (S) (lo), cRows 3 (encN .i64) (S)] w_4 := hs_8.sub ((.cons_cons _ (.cons_cons _ (.cons _ (.cons _ .slnil)))))
    have hk2 : (inOrd l).take k = inOrd l := List.take_of_length_le (by omega)
    rw [hk2] at hTF hTS hTl
    subst hTF; subst hTl
    exact ⟨_, S, rfl, hTS, hs_25⟩
set_option maxHeartbeats 1000000 in
theorem hdecode_all (v u : Value) (l b : List Nat) (bits count : Nat) (w : World) (hv : RdL w v (encN .i64) l) (hu : RdL w u (encN .u8) b) (hn : l.length ≤ 1024) (hval : validB l = true) (hb : ∀ x ∈ b, x < 256) (hbits : bits ≤ 8 * b.length) (hbl : b.length ≤ 1000000) (hcount : count ≤ 4096) :
    CallsV Tryz.prog 46 [v, u, (.int .i64 bits), (.int .i64 count)] w fun r w' => (∃ s v', hdec l b bits count = some s ∧ r = .tuple #[v', .int .i64 ((0 : Nat) : Int)] ∧ Sat w [cL v' 3 (encN .i64) s] w') ∨ (hdec l b bits count = none ∧ ∃ e : Nat, e ≠ 0 ∧ r = .tuple #[.slice none 0 0, .int .i64 (e : Int)] ∧ Sat w [] w') := by
  have hs0 := Sat.start w
  refine callsV_of Tryz.func46 rfl rfl ?_
  refine .seq ?_
  have hgl := GoodLens.of_valid hval
  refine .region <| .s rfl rfl <| .s rfl rfl <| .nil <| .seq <| .seq <| .region <| .m rfl rfl <| .f rfl (.call ent73 rfl ((valid_ok _ (l) _ (hv.ext hs0.ext) (hn)).mono fun r_1 w_1 h_1 => ?_))
  obtain ⟨rfl, hp_1⟩ := h_1
  have hs_1 := hs0.adds hp_1
  refine .e rfl (.notB rfl) <| .m rfl rfl <| .yes rfl rfl rfl (by rw [hval]; rfl) <| .m rfl rfl <| .yes rfl rfl rfl (by rw [hval]; rfl) <| .e rfl (.lssN (b := 0) rfl rfl) <| .e rfl (.pickN rfl (by rw [hval]; rfl) rfl) <| .m rfl rfl <| .yes rfl rfl rfl (decide_eq_false (by omega)) <| .m rfl rfl <| .yes rfl rfl rfl (decide_eq_false (by omega)) <| .e rfl (.gtrN (b := 4096) rfl rfl) <| .e rfl (.pickN rfl (decide_eq_false (by omega)) rfl) <| .nil <| .condF rfl (decide_eq_false (by omega)) <| .skip <| .seq <| .region <| .m rfl rfl <| .m rfl rfl <| .f rfl (.call ent74 rfl ((newReader_ok _ (b) (bits) _ (hu.ext hs_1.ext) (hbits) (by omega)).mono fun r_2 w_2 h_2 => ?_))
  obtain ⟨rg_1, rv_1, rfl, hp_2⟩ := h_2
  have hs_2 := hs_1.adds hp_2
  refine .m rfl rfl <| .e rfl (.extract rfl rfl) <| .e rfl (.extract rfl rfl) <| .s rfl rfl <| .s rfl rfl <| .nil <| .seq <| .seq <| .region <| .m rfl rfl <| .e rfl (.neqN (a := 0) (b := 0) rfl rfl) <| .nil <| .condF rfl (rfl) <| .skip <| .seq <| .region <| .m rfl rfl <| .f rfl (.call ent75 rfl ((tableOf_ok _ (l) _ (hv.ext hs_2.ext) (hn) (hval)).mono fun r_3 w_3 h_3 => ?_))
  obtain ⟨tb_1, S_1, rfl, hS__1, hp_3⟩ := h_3
  have hs_3 : Sat w [_, _, tabC tb_1 166 ((T14 l).1) (S_1) ((T14 l).2.2), cRows 3 (encN .i64) (S_1)] _ := hs_2.adds hp_3
  refine .s rfl rfl <| .nil <| .seq <| .region <| .s rfl rfl <| .nil <| .seq <| .seq <| .region <| .m rfl rfl <| .m rfl rfl <| .nil <| .block ?_
  have hs_4 := hs_3.newNilL 3 (encN .i64)
  have hSl : S_1.length = 16 := by have h := congrArg List.length hS__1; rw [List.length_map] at h; rw [h]; exact (tabN_spec l hgl.le (inOrd l)).2.1
  have hFl : (T14 l).1.length = 16 := (tabN_spec l hgl.le (inOrd l)).1
  have hSb : ∀ p ∈ S_1, p.2.length ≤ 1024 := fun p hp => Nat.le_trans (T14_Sb hgl p.2 (by rw [← hS__1]; exact List.mem_map_of_mem hp)) hn
  refine .loop (α := Nat × Nat × Value × List Nat) (fun (k, pos, ov, acc) => [(2, (.int .i64 bits)), (10, (.pointer (some ⟨rg_1, 0, none⟩))), (12, (.pointer (some ⟨tb_1, 0, none⟩))), (13, ov), (37, (.int .i64 count)), (38, (.int .i64 k))]) (fun (k, pos, ov, acc) w' => Sat w [cObj rg_1 162 [rv_1, (.int .i64 bits), (.int .i64 pos)], cL rv_1 5 (encN .u8) (b.take ((bits + 7) / 8)), tabC tb_1 166 ((T14 l).1) (S_1) ((T14 l).2.2), cRows 3 (encN .i64) (S_1), cL ov 3 (encN .i64) (acc)] w' ∧ (k ≤ count) ∧ (pos ≤ bits) ∧ (decF (T14 l).1 (T14 l).2.1 (T14 l).2.2 (b.take ((bits + 7) / 8)) bits (count - k) pos acc = decF (T14 l).1 (T14 l).2.1 (T14 l).2.2 (b.take ((bits + 7) / 8)) bits count 0 []) ∧ (acc.length = k)) (fun (k, pos, ov, acc) => count - k) (0, 0, (.slice none 0 0), []) ⟨rfl, rfl, rfl, rfl, rfl, rfl, trivial⟩ ⟨hs_4, Nat.zero_le _, Nat.zero_le _, rfl, rfl⟩ ?_
  rintro ⟨k, pos, ov, acc⟩ w_4 ⟨hs_5, hk, hpos, hE, hal⟩
  show CW _ _ _ _ [(2, (.int .i64 bits)), (10, (.pointer (some ⟨rg_1, 0, none⟩))), (12, (.pointer (some ⟨tb_1, 0, none⟩))), (13, ov), (37, (.int .i64 count)), (38, (.int .i64 k))] _
  refine .seq <| .region <| .e rfl (.lssN rfl rfl) <| .nil <| .seq <| .condD rfl (fun hc_1 => ?_) (fun hc_1 => ?_)
  · refine .skip <| .seq <| .block <| .seq <| .region <| .m rfl rfl <| .m rfl rfl ?_
    have hA_1 : Sat w ([cObj rg_1 162 [rv_1, (.int .i64 bits), (.int .i64 pos)], cL rv_1 5 (encN .u8) (b.take ((bits + 7) / 8)), tabC tb_1 166 ((T14 l).1) (S_1) ((T14 l).2.2), cRows 3 (encN .i64) (S_1)] ++ ([cL ov 3 (encN .i64) (acc)] ++ [])) _ := (Sat.order [0, 1, 2, 3, 4] (by decide) hs_5.tail).cut 4
    refine .f rfl (.call ent76 rfl ((symbol_ok _ _ _ _ _ _ (b.take ((bits + 7) / 8)) bits pos ((T14 l).2.2) ((T14 l).1) S_1 hA_1 (fun x hx => hb x (List.mem_of_mem_take hx)) (by rw [List.length_take]; omega) (by rw [List.length_take]; omega) (hpos) (hFl) (hSl) (T14_le hgl) (T14_Fb hgl) (hSb)).mono fun r_4 w_5 h_4 => ?_))
    obtain ⟨rfl, hp_4⟩ := h_4
    have hs_6 : Sat w [cObj rg_1 162 [rv_1, (.int .i64 bits), (.int .i64 (((symF ((T14 l).1) (S_1.map Prod.snd) ((T14 l).2.2) (b.take ((bits + 7) / 8)) bits 16 1 0 pos).2.2) : Nat))], cL rv_1 5 (encN .u8) (b.take ((bits + 7) / 8)), tabC tb_1 166 ((T14 l).1) (S_1) ((T14 l).2.2), cRows 3 (encN .i64) (S_1), cL ov 3 (encN .i64) (acc)] _ := (Sat.order [0, 1, 2, 3, 4] (by decide) hp_4.join).untail
    refine .m rfl rfl <| .e rfl (.extract rfl rfl) <| .e rfl (.extract rfl rfl) <| .s rfl rfl <| .s rfl rfl <| .nil ?_
    have hst := hE
    rw [show count - k = (count - (k + 1)) + 1 by omega, decF] at hst
    have hsp := symF_pos (T14 l).1 (T14 l).2.1 (T14 l).2.2 (b.take ((bits + 7) / 8)) bits 16 1 0 pos hpos
    have hs_7 : Sat w [cObj rg_1 162 [rv_1, (.int .i64 bits), (.int .i64 (((symF (T14 l).1 (T14 l).2.1 (T14 l).2.2 (b.take ((bits + 7) / 8)) bits 16 1 0 pos).2.2) : Nat))], cL rv_1 5 (encN .u8) (b.take ((bits + 7) / 8)), tabC tb_1 166 ((T14 l).1) (S_1) ((T14 l).2.2), cRows 3 (encN .i64) (S_1), cL ov 3 (encN .i64) (acc)] w_5 := by have hq := hs_6; rw [hS__1] at hq; exact hq
    refine .weaken [(2, _), (10, _), (12, _), (13, _), (14, (.int .i64 ((symF (T14 l).1 (T14 l).2.1 (T14 l).2.2 (b.take ((bits + 7) / 8)) bits 16 1 0 pos).1 : Nat))), (15, _), (37, _), (38, _), (39, _), (40, _), (41, _), (42, _), (43, _), (44, _), (45, _)] ⟨rfl, rfl, rfl, rfl, congrArg some (by rw [hS__1]; rfl), rfl, rfl, rfl, rfl, rfl, rfl, rfl, rfl, rfl, rfl, trivial⟩ <| .weaken [(2, _), (10, _), (12, _), (13, _), (14, _), (15, (.int .i64 ((symF (T14 l).1 (T14 l).2.1 (T14 l).2.2 (b.take ((bits + 7) / 8)) bits 16 1 0 pos).2.1 : Nat))), (37, _), (38, _), (39, _), (40, _), (41, _), (42, _), (43, _), (44, _), (45, _)] ⟨rfl, rfl, rfl, rfl, rfl, congrArg some (by rw [hS__1]; rfl), rfl, rfl, rfl, rfl, rfl, rfl, rfl, rfl, rfl, trivial⟩ <| .seq <| .seq <| .region <| .m rfl rfl <| .e rfl (.neqN (b := 0) rfl rfl) <| .nil <| .condD rfl (fun hc_2 => ?_) (fun hc_2 => ?_)
    · refine .seq <| .region <| .m rfl rfl <| .s rfl rfl <| .s rfl rfl <| .nil <| .ret ?_
      show PostK _ _ _ _ _ _
      refine post2 rfl rfl rfl ?_
      have hs_8 : Sat w [] w_5 := hs_7.sub ((.cons _ (.cons _ (.cons _ (.cons _ (.cons _ .slnil))))))
      rw [if_pos hc_2] at hst
      exact .inr ⟨by unfold hdec; rw [← hst], _, hc_2, rfl, hs_8⟩
    · refine .skip <| .region <| .m rfl rfl <| .m rfl rfl <| .f rfl (.lit1 (encN .i64) ((symF (T14 l).1 (T14 l).2.1 (T14 l).2.2 (b.take ((bits + 7) / 8)) bits 16 1 0 pos).1) sl27 rfl hs_7 rfl fun v_1 w_6 hs_9 hch_1 => ?_)
      refine .f rfl (.appendL 4 sl27 hs_9 rfl rfl rfl Tryz.underlying27 (hs_9.rdL 5 rfl) (by simp; omega) (by simp; omega) fun v_2 w_7 hs_10 hch_2 => ?_)
      have hs_10d : Sat w [_, _, _, _, cL v_2 3 (encN .i64) (acc ++ [(symF (T14 l).1 (T14 l).2.1 (T14 l).2.2 (b.take ((bits + 7) / 8)) bits 16 1 0 pos).1])] _ := hs_10.drop 5
      refine .s rfl rfl <| .nil <| .region <| .e rfl (.addI (b := 1) rfl rfl (by omega)) <| .m rfl rfl <| .nil ?_
      exact ⟨(k + 1, (symF (T14 l).1 (T14 l).2.1 (T14 l).2.2 (b.take ((bits + 7) / 8)) bits 16 1 0 pos).2.2, v_2, acc ++ [(symF (T14 l).1 (T14 l).2.1 (T14 l).2.2 (b.take ((bits + 7) / 8)) bits 16 1 0 pos).1]), ⟨rfl, rfl, rfl, rfl, rfl, rfl, trivial⟩, ⟨hs_10d, by omega, hsp, by rw [if_neg hc_2] at hst; exact hst, by simp; omega⟩, (show (count - (k + 1)) < (count - k) from by omega)⟩
  · refine .exit0 <| .seq <| .seq <| .region <| .m rfl rfl <| .f rfl (.call ent77 rfl ((rpos_ok _ (pos) _ (hs_5.cell (i := 0) (j := 2) rfl rfl)).mono fun r_5 w_8 h_5 => ?_))
    obtain ⟨rfl, hp_5⟩ := h_5
    have hs_11 := hs_5.adds hp_5
    refine .m rfl rfl <| .e rfl (.neqN rfl rfl) <| .nil <| .condD rfl (fun hc_3 => ?_) (fun hc_3 => ?_)
    · refine .seq <| .region <| .s rfl rfl <| .s rfl rfl <| .nil <| .ret ?_
      show PostK _ _ _ _ _ _
      refine post2 rfl rfl rfl ?_
      rw [show count - k = 0 by omega, decF] at hE
      have hs_12 : Sat w [] w_8 := hs_11.sub ((.cons _ (.cons _ (.cons _ (.cons _ (.cons _ .slnil))))))
      exact .inr ⟨by unfold hdec; rw [← hE]; simp only; rw [if_neg (by omega)], 9, by decide, rfl, hs_12⟩
    · refine .skip <| .seq <| .region <| .m rfl rfl <| .s rfl rfl <| .s rfl rfl <| .nil <| .ret ?_
      show PostK _ _ _ _ _ _
      refine post2 rfl rfl rfl ?_
      rw [show count - k = 0 by omega, decF] at hE
      have hs_13 : Sat w [_] w_8 := hs_11.sub ((.cons _ (.cons _ (.cons _ (.cons _ (.cons_cons _ .slnil))))))
      exact .inl ⟨acc, _, by unfold hdec; rw [← hE]; simp only; rw [if_pos (by omega)], rfl, hs_13⟩
end Go.Proofs.YtecfgjdpghddgaaGreat
namespace Go.Proofs.YtecfgjdpghddgaaGreat
open Go.RowKit Go.Kw
set_option maxRecDepth 100000
theorem unpack_ok (v : Value) (b s : List Nat) (w : World) (hv : RdL w v (encN .u8) b) (hb : ∀ x ∈ b, x < 256) (hn : b.length ≤ 1000000000) (h : unpk b = some s) : CallsV Tryz.prog 45 [v] w fun r w' => ∃ v', r = .tuple #[v', .int .i64 ((0 : Nat) : Int)] ∧ Sat w [cL v' 3 (encN .i64) s] w' := by
  refine (unpack_all v b w hv hb hn).mono ?_
  rintro r w' (⟨l, v', h1, h2, h3⟩ | ⟨h1, _⟩)
  · rw [h] at h1; cases h1; exact ⟨v', h2, h3⟩
  · rw [h] at h1; cases h1
theorem hdecode_ok (v u : Value) (l b s : List Nat) (bits count : Nat) (w : World) (hv : RdL w v (encN .i64) l) (hu : RdL w u (encN .u8) b) (hn : l.length ≤ 1024) (hval : validB l = true) (hb : ∀ x ∈ b, x < 256) (hbits : bits ≤ 8 * b.length) (hbl : b.length ≤ 1000000) (hcount : count ≤ 4096) (h : hdec l b bits count = some s) :
    CallsV Tryz.prog 46 [v, u, .int .i64 (bits : Int), .int .i64 (count : Int)] w fun r w' => ∃ v', r = .tuple #[v', .int .i64 ((0 : Nat) : Int)] ∧ Sat w [cL v' 3 (encN .i64) s] w' := by
  refine (hdecode_all v u l b bits count w hv hu hn hval hb hbits hbl hcount).mono ?_
  rintro r w' (⟨s2, v', h1, h2, h3⟩ | ⟨h1, _⟩)
  · rw [h] at h1; cases h1; exact ⟨v', h2, h3⟩
  · rw [h] at h1; cases h1
theorem ssize_ok (g n k : Nat) (w : World) (h0 : w.cell? ⟨g, 0, none⟩ = some (.int .i64 (n : Int))) (hk : 64 * k ≤ n) (hn : n ≤ 1000000) :
    CallsV Tryz.prog 47 [(.pointer (some ⟨g, 0, none⟩)), (.int .i64 k)] w fun r w' => r = .int .i64 ((min 64 (n - k * 64) : Nat) : Int) ∧ Sat w [] w' := by
  have hs0 := Sat.start w
  refine callsV_of Tryz.func47 rfl rfl ?_
  refine .seq <| .region <| .s rfl rfl <| .nil <| .seq <| .region <| .m rfl rfl <| .e rfl (.nilCheck rfl) <| .e rfl (.fieldAddr fld65_0 rfl rfl) <| .e rfl (.load scal3 rfl (hs0.ext _ _ h0)) <| .m rfl rfl <| .e rfl (.mulI (b := 64) rfl rfl (by omega)) <| .e rfl (.subI rfl rfl (by omega) (by omega)) <| .e rfl (.minN (a := 64) rfl rfl) <| .s rfl rfl <| .nil <| .ret ?_
  show PostK _ _ _ _ _ _
  refine post1 rfl rfl ?_
  exact ⟨rfl, hs0⟩
set_option maxHeartbeats 1000000 in
theorem sdecode_ok (w0 w : World) (cs : List Chunk) (g : Nat) (lv bv kv : Value) (l blk : List Nat) (ps : List Pt) (last : Nat) (hs : Sat w0 ([cObj g 65 [(.int .i64 l.length), (.int .i64 (kindN l)), lv, bv, (.int .i64 last), kv], cL lv 3 (encN .i64) (lensK l), cL bv 97 (encPt) (ps), cParts (ps), cL kv 3 (encN .i64) (blk)] ++ cs) w) (hl : OkN l) (hps : ptsOf ps = ptsK l) (hca : CacheOk l last blk) (k : Nat) (hk : k < nbk l.length) :
    CallsV Tryz.prog 28 [(.pointer (some ⟨g, 0, none⟩)), (.int .i64 k)] w fun r w' => Sat w0 ([cObj g 65 [(.int .i64 l.length), (.int .i64 (kindN l)), lv, bv, (.int .i64 ((k + 1) : Nat)), r], cL lv 3 (encN .i64) (lensK l), cL bv 97 (encPt) (ps), cParts (ps), cL r 3 (encN .i64) (chk l k)] ++ cs) w' := by
  have hnl := hl.len
  have hnb : nbk l.length ≤ 64 := by unfold nbk; omega
  have hk64 : 64 * k < l.length := by unfold nbk at hk; omega
  refine callsV_of Tryz.func28 rfl rfl ?_
  refine .seq <| .region <| .s rfl rfl <| .nil <| .seq <| .seq <| .region <| .m rfl rfl <| .e rfl (.nilCheck rfl) <| .e rfl (.fieldAddr fld65_4 rfl rfl) <| .e rfl (.load scal3 rfl (hs.cell (i := 0) (j := 4) rfl rfl)) <| .m rfl rfl <| .e rfl (.addI (b := 1) rfl rfl (by omega)) <| .e rfl (.eqlN rfl rfl) <| .nil <| .condD rfl (fun hc_1 => ?_) (fun hc_1 => ?_)
  · refine .seq <| .region <| .m rfl rfl <| .e rfl (.nilCheck rfl) <| .e rfl (.fieldAddr fld65_5 rfl rfl) <| .e rfl (.load scal27 rfl (hs.cell (i := 0) (j := 5) rfl rfl)) <| .s rfl rfl <| .nil <| .ret ?_
    show PostK _ _ _ _ _ _
    refine post1 rfl rfl ?_
    have hca2 := hca
    rw [hc_1] at hca2
    have hs_1 : Sat w0 ([cObj g 65 [(.int .i64 l.length), (.int .i64 (kindN l)), lv, bv, (.int .i64 last), kv], cL lv 3 (encN .i64) (lensK l), cL bv 97 (encPt) (ps), cParts (ps), cL kv 3 (encN .i64) (chk l k)] ++ cs) w := by
      have hq : blk = chk l k := hca2.hit
      rw [← hq]; exact hs
    have hs_2 : Sat w0 ([cObj g 65 [(.int .i64 l.length), (.int .i64 (kindN l)), lv, bv, (.int .i64 ((k + 1) : Nat)), kv], cL lv 3 (encN .i64) (lensK l), cL bv 97 (encPt) (ps), cParts (ps), cL kv 3 (encN .i64) (chk l k)] ++ cs) w := by have hq := hs_1; rw [hc_1] at hq; exact hq
    exact hs_2
  · refine .skip <| .seq <| .region <| .s rfl rfl <| .nil <| .seq <| .seq <| .region <| .m rfl rfl <| .e rfl (.nilCheck rfl) <| .e rfl (.fieldAddr fld65_1 rfl rfl) <| .e rfl (.load scal3 rfl (hs.cell (i := 0) (j := 1) rfl rfl)) <| .e rfl (.eqlN (b := 0) rfl rfl) <| .nil <| .condD rfl (fun hc_2 => ?_) (fun hc_2 => ?_)
    · obtain ⟨x, hx, hxe⟩ := ptsK_get hps hk
      rw [if_neg (by omega)] at hxe
      have hxb : x.bys = packBk (chk l k) := congrArg Prod.fst hxe
      have hcl := chk_length l k
      have hpk := packBk_len (chk l k) (by omega)
      have hkp := lt_of_get hx
      refine .region <| .m rfl rfl <| .e rfl (.nilCheck rfl) <| .e rfl (.fieldAddr fld65_3 rfl rfl) <| .e rfl (.load scal63 rfl (hs.cell (i := 0) (j := 3) rfl rfl)) <| .m rfl rfl <| .e rfl (.idxL (E := encPt) sl63 rfl rfl (hs.rdL 2 rfl) (lt_of_get hx)) <| .e rfl (.fldL (E := encPt) fld97_0 rfl (hs.rdL 2 rfl) (by omega) (by decide)) <| .e rfl (.ldLF (E := encPt) scal22 rfl (hs.rdL 2 rfl) hx (by decide) rfl) <| .f rfl (.call ent45 rfl ((unpack_ok _ (x.bys) (chk l k) _ (hs.rdParts 3 rfl x (mem_of_get hx)) (by rw [hxb]; exact encBk_lt _ _) (by rw [hxb]; omega) (by rw [hxb]; exact unpk_pack (by omega) (fun y hy => by have := hl.lt y (chk_mem hy); omega))).mono fun r_1 w_1 h_1 => ?_))
      obtain ⟨uv_1, rfl, hp_1⟩ := h_1
      have hs_3 : Sat w0 ([cObj g 65 [(.int .i64 l.length), (.int .i64 (kindN l)), lv, bv, (.int .i64 last), kv], cL lv 3 (encN .i64) (lensK l), cL bv 97 (encPt) (ps), cParts (ps), cL kv 3 (encN .i64) (blk), cL uv_1 3 (encN .i64) (chk l k)] ++ cs) _ := (hs.adds hp_1).mid
      refine .m rfl rfl <| .e rfl (.extract rfl rfl) <| .e rfl (.extract rfl rfl) <| .s rfl rfl <| .nil <| .seq <| .region <| .m rfl rfl <| .m rfl rfl <| .m rfl rfl <| .e rfl (.addI (b := 1) rfl rfl (by omega)) <| .m rfl rfl <| .e rfl (.nilCheck rfl) <| .e rfl (.fieldAddr fld65_4 rfl rfl) <| .f rfl (.storeObj one3 hs_3 (i := 0) rfl rfl rfl (rfl) rfl fun w_2 hs_4 hch_1 => ?_)
      refine .e rfl (.nilCheck rfl) <| .e rfl (.fieldAddr fld65_5 rfl rfl) <| .f rfl (.storeObj one27 hs_4 (i := 0) rfl rfl rfl ((hs_4.rdL 5 rfl).oneCell) rfl fun w_3 hs_5 hch_2 => ?_)
      refine .nil <| .seq <| .region <| .m rfl rfl <| .s rfl rfl <| .nil <| .ret ?_
      show PostK _ _ _ _ _ _
      refine post1 rfl rfl ?_
      have hs_6 : Sat w0 ([_, _, _, _, _] ++ cs) w_3 := hs_5.sub ((.cons_cons _ (.cons_cons _ (.cons_cons _ (.cons_cons _ (.cons _ (.cons_cons _ (.refl _))))))))
      exact hs_6
    · obtain ⟨x, hx, hxe⟩ := ptsK_get hps hk
      have hk1 : kindN l = 1 := by have := kindN_le l; omega
      rw [if_pos hk1] at hxe
      have hxb : x.bys = packB (hufB (symL l) (chk l k)) := congrArg Prod.fst hxe
      have hxn : x.bits = (hufB (symL l) (chk l k)).length := congrArg Prod.snd hxe
      have hkp := lt_of_get hx
      have hcl := chk_length l k
      have hlk : lensK l = symL l := by unfold lensK; rw [if_pos hk1]
      have hok := symL_ok l hl.mx
      have hhl := hufB_length (GoodLens.of_ok hok) (chk l k)
      refine .draw (fun w' => Sat w0 ([cObj g 65 [(.int .i64 l.length), (.int .i64 (kindN l)), lv, bv, (.int .i64 last), kv], cL lv 3 (encN .i64) (lensK l), cL bv 97 (encPt) (ps), cParts (ps), cL kv 3 (encN .i64) (blk)] ++ cs) w') (.free 0 (.free 1 (.free 2 (.free 3 (.free 4 (.free 5 (.free 6 (.free 7 (.free 8 (.free 9 (.free 10 (.free 11 (.free 12 (.free 13 (.free 14 (.free 15 (.free 16 (.free 17 (.free 18 (.free 19 (.free 20 (.free 21 (.one 22 (.one 23 (.free 24 (.free 25 (.free 26 (.free 27 .fin)))))))))))))))))))))))))))) mixed (by kernel_rfl) ?_
      have hs_7 := hs.drew
      refine .m rfl rfl hs_7 <| .e rfl (fun w' hS' => .nilCheck rfl) hs_7 <| .e rfl (fun w' hS' => .fieldAddr fld65_2 rfl rfl) hs_7 <| .e rfl (fun w' hS' => .load scal27 rfl (hS'.cell (i := 0) (j := 2) rfl rfl)) hs_7 <| .m rfl rfl hs_7 <| .e rfl (fun w' hS' => .nilCheck rfl) hs_7 <| .e rfl (fun w' hS' => .fieldAddr fld65_3 rfl rfl) hs_7 <| .e rfl (fun w' hS' => .load scal63 rfl (hS'.cell (i := 0) (j := 3) rfl rfl)) hs_7 <| .m rfl rfl hs_7 <| .e rfl (fun w' hS' => .idxL (E := encPt) sl63 rfl rfl (hS'.rdL 2 rfl) (lt_of_get hx)) hs_7 <| .e rfl (fun w' hS' => .fldL (E := encPt) fld97_0 rfl (hS'.rdL 2 rfl) (by omega) (by decide)) hs_7 <| .e rfl (fun w' hS' => .ldLF (E := encPt) scal22 rfl (hS'.rdL 2 rfl) hx (by decide) rfl) hs_7 <| .m rfl rfl hs_7 <| .e rfl (fun w' hS' => .nilCheck rfl) hs_7 <| .e rfl (fun w' hS' => .fieldAddr fld65_3 rfl rfl) hs_7 <| .e rfl (fun w' hS' => .load scal63 rfl (hS'.cell (i := 0) (j := 3) rfl rfl)) hs_7 <| .m rfl rfl hs_7 <| .e rfl (fun w' hS' => .idxL (E := encPt) sl63 rfl rfl (hS'.rdL 2 rfl) (lt_of_get hx)) hs_7 <| .e rfl (fun w' hS' => .fldL (E := encPt) fld97_1 rfl (hS'.rdL 2 rfl) (by omega) (by decide)) hs_7 <| .e rfl (fun w' hS' => .ldLF (E := encPt) scal3 rfl (hS'.rdL 2 rfl) hx (by decide) rfl) hs_7 <| .m rfl rfl hs_7 <| .m rfl rfl hs_7 <| .f rfl (.call ent47 rfl ((ssize_ok _ (l.length) (k) _ (hs_7.cell (i := 0) (j := 0) rfl rfl) (by omega) (by omega)).mono fun r_2 w_4 h_2 => ?_))
      obtain ⟨rfl, hp_2⟩ := h_2
      have hs_8 : Sat w0 ([cObj g 65 [(.int .i64 l.length), (.int .i64 (kindN l)), lv, bv, (.int .i64 last), kv], cL lv 3 (encN .i64) (lensK l), cL bv 97 (encPt) (ps), cParts (ps), cL kv 3 (encN .i64) (blk)] ++ cs) _ := (hs_7.adds hp_2).mid
      have hS_1 : Sat w0 ([_, _, _, _, _] ++ cs) _ := hs_8.sub ((.cons_cons _ (.cons_cons _ (.cons_cons _ (.cons_cons _ (.cons_cons _ (.refl _)))))))
      refine ⟨hS_1, ?_⟩
      refine .f rfl (.call ent46 rfl ((hdecode_ok _ _ (lensK l) (x.bys) (chk l k) (x.bits) ((min 64 (l.length - k * 64))) _ (hs_8.rdL 1 rfl) (hs_8.rdParts 3 rfl x (mem_of_get hx)) (lensK_len hl) (by rw [hlk]; exact validB_ok hok) (by rw [hxb]; exact packB_lt _) (by rw [hxn, hxb, packB_length]; omega) (by rw [hxb, packB_length]; omega) (by omega) (by rw [hlk, hxb, hxn, show min 64 (l.length - k * 64) = (chk l k).length by rw [hcl]; omega]; exact hdec_ok (GoodLens.of_ok hok) _ (fun y hy => (symL_pos hl.mx y (chk_mem hy)).2))).mono fun r_3 w_5 h_3 => ?_))
      obtain ⟨dv_1, rfl, hp_3⟩ := h_3
      have hs_9 : Sat w0 ([_, _, _, _, _, cL dv_1 3 (encN .i64) (chk l k)] ++ cs) _ := (hs_8.adds hp_3).mid
      have hS_2 : Sat w0 ([_, _, _, _, _] ++ cs) _ := hs_9.sub ((.cons_cons _ (.cons_cons _ (.cons_cons _ (.cons_cons _ (.cons_cons _ (.cons _ (.refl _))))))))
      refine ⟨hS_2, ?_⟩
      refine .m rfl rfl hS_2 <| .e rfl (fun w' hS' => .extract rfl rfl) hS_2 <| .e rfl (fun w' hS' => .extract rfl rfl) hS_2 <| .e rfl (fun w' hS' => .assign rfl) hS_2 <| .fin <| .seq <| .weaken [(0, _), (1, _), (4, _), (5, _), (12, _), (21, _)] ⟨rfl, rfl, rfl, rfl, rfl, rfl, trivial⟩ <| .region <| .m rfl rfl <| .m rfl rfl <| .m rfl rfl <| .e rfl (.addI (b := 1) rfl rfl (by omega)) <| .m rfl rfl <| .e rfl (.nilCheck rfl) <| .e rfl (.fieldAddr fld65_4 rfl rfl) <| .f rfl (.storeObj one3 hs_9 (i := 0) rfl rfl rfl (rfl) rfl fun w_6 hs_10 hch_3 => ?_)
      refine .e rfl (.nilCheck rfl) <| .e rfl (.fieldAddr fld65_5 rfl rfl) <| .f rfl (.storeObj one27 hs_10 (i := 0) rfl rfl rfl ((hs_10.rdL 5 rfl).oneCell) rfl fun w_7 hs_11 hch_4 => ?_)
      refine .nil <| .seq <| .region <| .m rfl rfl <| .s rfl rfl <| .nil <| .ret ?_
      show PostK _ _ _ _ _ _
      refine post1 rfl rfl ?_
      have hs_12 : Sat w0 ([_, _, _, _, _] ++ cs) w_7 := hs_11.sub ((.cons_cons _ (.cons_cons _ (.cons_cons _ (.cons_cons _ (.cons _ (.cons_cons _ (.refl _))))))))
      exact hs_12
set_option maxHeartbeats 1000000 in
theorem sslice_ok (w0 w : World) (cs : List Chunk) (g : Nat) (lv bv kv : Value) (l blk : List Nat) (ps : List Pt) (last : Nat) (hs : Sat w0 ([cObj g 65 [(.int .i64 l.length), (.int .i64 (kindN l)), lv, bv, (.int .i64 last), kv], cL lv 3 (encN .i64) (lensK l), cL bv 97 (encPt) (ps), cParts (ps), cL kv 3 (encN .i64) (blk)] ++ cs) w) (hl : OkN l) (hps : ptsOf ps = ptsK l) (hca : CacheOk l last blk) (a e : Nat) (hae : a ≤ e) (hel : e ≤ l.length) :
    CallsV Tryz.prog 8 [(.pointer (some ⟨g, 0, none⟩)), (.int .i64 a), (.int .i64 e)] w fun r w' => ∃ v' last' kv' blk', r = .tuple #[v', .bool true] ∧ CacheOk l last' blk' ∧ Sat w0 ([cObj g 65 [(.int .i64 l.length), (.int .i64 (kindN l)), lv, bv, (.int .i64 last'), kv'], cL lv 3 (encN .i64) (lensK l), cL bv 97 (encPt) (ps), cParts (ps), cL kv' 3 (encN .i64) (blk'), cL v' 3 (encN .i64) ((l.take e).drop a)] ++ cs) w' := by
  have hnl := hl.len
  refine callsV_of Tryz.func8 rfl rfl ?_
  refine .seq <| .region <| .s rfl rfl <| .s rfl rfl <| .nil <| .seq <| .seq <| .mid (fun L' w' => Weak [(0, (.pointer (some ⟨g, 0, none⟩))), (1, (.int .i64 a)), (2, (.int .i64 e)), (6, (.slice none 0 0)), (7, (.bool false)), (26, (.bool (decide (((a < 0) ∨ (e < a)) ∨ (l.length < e)))))] L' ∧ Sat w0 ([cObj g 65 [(.int .i64 l.length), (.int .i64 (kindN l)), lv, bv, (.int .i64 last), kv], cL lv 3 (encN .i64) (lensK l), cL bv 97 (encPt) (ps), cParts (ps), cL kv 3 (encN .i64) (blk)] ++ cs) w') ?_ ?_
  · refine .region <| .m rfl rfl <| .e rfl (.lssN (b := 0) rfl rfl) <| .m rfl rfl ?_
    by_cases hg_1 : a < 0
    · refine .no rfl rfl rfl (decide_eq_true hg_1) rfl <| .no rfl rfl rfl (decide_eq_true hg_1) rfl <| .no rfl rfl rfl (decide_eq_true hg_1) rfl <| .e rfl (.pickY rfl (decide_eq_true hg_1) rfl) <| .m rfl rfl <| .no rfl rfl rfl (rfl) rfl <| .no rfl rfl rfl (rfl) rfl <| .no rfl rfl rfl (rfl) rfl <| .no rfl rfl rfl (rfl) rfl <| .no rfl rfl rfl (rfl) rfl <| .no rfl rfl rfl (rfl) rfl <| .e rfl (.pickY rfl (rfl) rfl) <| .nil ?_
      exact ⟨⟨rfl, rfl, rfl, rfl, rfl, congrArg some (congrArg Value.bool (by simp [hg_1])), trivial⟩, hs⟩
    · refine .yes rfl rfl rfl (decide_eq_false hg_1) <| .m rfl rfl <| .yes rfl rfl rfl (decide_eq_false hg_1) <| .m rfl rfl <| .yes rfl rfl rfl (decide_eq_false hg_1) <| .e rfl (.gtrN rfl rfl) <| .e rfl (.pickN rfl (decide_eq_false hg_1) rfl) <| .m rfl rfl ?_
      by_cases hg_2 : e < a
      · refine .no rfl rfl rfl (decide_eq_true hg_2) rfl <| .no rfl rfl rfl (decide_eq_true hg_2) rfl <| .no rfl rfl rfl (decide_eq_true hg_2) rfl <| .no rfl rfl rfl (decide_eq_true hg_2) rfl <| .no rfl rfl rfl (decide_eq_true hg_2) rfl <| .no rfl rfl rfl (decide_eq_true hg_2) rfl <| .e rfl (.pickY rfl (decide_eq_true hg_2) rfl) <| .nil ?_
        exact ⟨⟨rfl, rfl, rfl, rfl, rfl, congrArg some (congrArg Value.bool (by simp [hg_1, hg_2])), trivial⟩, hs⟩
      · refine .yes rfl rfl rfl (decide_eq_false hg_2) <| .m rfl rfl <| .yes rfl rfl rfl (decide_eq_false hg_2) <| .m rfl rfl <| .yes rfl rfl rfl (decide_eq_false hg_2) <| .e rfl (.nilCheck rfl) <| .yes rfl rfl rfl (decide_eq_false hg_2) <| .e rfl (.fieldAddr fld65_0 rfl rfl) <| .yes rfl rfl rfl (decide_eq_false hg_2) <| .e rfl (.load scal3 rfl (hs.cell (i := 0) (j := 0) rfl rfl)) <| .yes rfl rfl rfl (decide_eq_false hg_2) <| .e rfl (.gtrN rfl rfl) <| .e rfl (.pickN rfl (decide_eq_false hg_2) rfl) <| .nil ?_
        exact ⟨⟨rfl, rfl, rfl, rfl, rfl, congrArg some (congrArg Value.bool (by simp [hg_1, hg_2])), trivial⟩, hs⟩
  · rintro L' w_1 ⟨hw_1, hs_1⟩
    refine .weaken _ hw_1 <| .condF rfl (decide_eq_false (by omega)) <| .skip <| .seq <| .region <| .m rfl rfl <| .m rfl rfl <| .e rfl (.subI rfl rfl (by omega) (by omega)) <| .f rfl (.makeL (encN .i64) (0) (l := 0) sl27 rfl hs_1 rfl rfl (by omega) (by omega) (by omega) fun v_1 w_2 hs_2 hch_1 => ?_)
    have hs_2d : Sat w0 ([cObj g 65 [(.int .i64 l.length), (.int .i64 (kindN l)), lv, bv, (.int .i64 last), kv], cL lv 3 (encN .i64) (lensK l), cL bv 97 (encPt) (ps), cParts (ps), cL kv 3 (encN .i64) (blk), cL v_1 3 (encN .i64) ([])] ++ cs) _ := (hs_2).mid
    refine .s rfl rfl <| .nil <| .seq <| .seq <| .region <| .m rfl rfl <| .s rfl rfl <| .nil <| .block ?_
    have hs_3 : Sat w0 ([cObj g 65 [(.int .i64 l.length), (.int .i64 (kindN l)), lv, bv, (.int .i64 last), kv], cL lv 3 (encN .i64) (lensK l), cL bv 97 (encPt) (ps), cParts (ps), cL kv 3 (encN .i64) (blk), cL v_1 3 (encN .i64) ((l.take a).drop a)] ++ cs) w_2 := by
      have hq : [] = (l.take a).drop a := by rw [List.drop_of_length_le (by simp; omega)]
      rw [← hq]; exact hs_2d
    refine .loop (α := Nat × Value × Nat × Value × List Nat) (fun (at_, ov, last2, kv2, blk2) => [(0, (.pointer (some ⟨g, 0, none⟩))), (1, (.int .i64 a)), (2, (.int .i64 e)), (8, ov), (9, (.int .i64 at_))]) (fun (at_, ov, last2, kv2, blk2) w' => Sat w0 ([cObj g 65 [(.int .i64 l.length), (.int .i64 (kindN l)), lv, bv, (.int .i64 last2), kv2], cL lv 3 (encN .i64) (lensK l), cL bv 97 (encPt) (ps), cParts (ps), cL kv2 3 (encN .i64) (blk2), cL ov 3 (encN .i64) ((l.take at_).drop a)] ++ cs) w' ∧ (a ≤ at_) ∧ (at_ ≤ e) ∧ (CacheOk l last2 blk2)) (fun (at_, ov, last2, kv2, blk2) => e - at_) (a, v_1, last, kv, blk) ⟨rfl, rfl, rfl, rfl, rfl, trivial⟩ ⟨hs_3, Nat.le_refl _, hae, hca⟩ ?_
    rintro ⟨at_, ov, last2, kv2, blk2⟩ w_3 ⟨hs_4, haat, hate, hca2⟩
    show CW _ _ _ _ [(0, (.pointer (some ⟨g, 0, none⟩))), (1, (.int .i64 a)), (2, (.int .i64 e)), (8, ov), (9, (.int .i64 at_))] _
    refine .seq <| .seq <| .region <| .m rfl rfl <| .m rfl rfl <| .e rfl (.lssN rfl rfl) <| .nil <| .condD rfl (fun hc_1 => ?_) (fun hc_1 => ?_)
    · refine .skip <| .block <| .seq <| .region <| .m rfl rfl <| .m rfl rfl <| .e rfl (.quo (b := 64) rfl rfl (by omega) (by unfold inI64; omega)) ?_
      have hA_1 : Sat w0 ([cObj g 65 [(.int .i64 l.length), (.int .i64 (kindN l)), lv, bv, (.int .i64 last2), kv2], cL lv 3 (encN .i64) (lensK l), cL bv 97 (encPt) (ps), cParts (ps), cL kv2 3 (encN .i64) (blk2)] ++ ([cL ov 3 (encN .i64) ((l.take at_).drop a)] ++ cs)) _ := (Sat.order [0, 1, 2, 3, 4, 5] (by decide) hs_4).cut 5
      refine .f rfl (.call ent28 rfl ((sdecode_ok _ _ _ _ _ _ _ (l) (blk2) (ps) (last2) hA_1 (hl) (hps) (hca2) ((at_ / 64)) (nbk_lt (by omega))).mono fun r_1 w_4 h_1 => ?_))
      have hs_5 : Sat w0 ([cObj g 65 [(.int .i64 l.length), (.int .i64 (kindN l)), lv, bv, (.int .i64 (((at_ / 64) + 1) : Nat)), r_1], cL lv 3 (encN .i64) (lensK l), cL bv 97 (encPt) (ps), cParts (ps), cL r_1 3 (encN .i64) (chk l (at_ / 64)), cL ov 3 (encN .i64) ((l.take at_).drop a)] ++ cs) _ := Sat.order [0, 1, 2, 3, 4, 5] (by decide) h_1.join
      refine .s rfl rfl <| .nil <| .seq <| .region <| .m rfl rfl <| .m rfl rfl <| .e rfl (.quo (b := 64) rfl rfl (by omega) (by unfold inI64; omega)) <| .e rfl (.addI (b := 1) rfl rfl (by omega)) <| .e rfl (.mulI (b := 64) rfl rfl (by omega)) <| .e rfl (.minN rfl rfl) <| .s rfl rfl <| .nil <| .seq ?_
      have hcl := chk_length l (at_ / 64)
      obtain ⟨en, hen⟩ : ∃ en, en = (min e (((at_ / 64) + 1) * 64)) := ⟨_, rfl⟩
      refine .weaken [(0, _), (1, _), (2, _), (8, _), (9, _), (10, _), (11, (.int .i64 en)), (32, _), (33, _), (34, _), (35, _), (36, _), (37, _), (38, _), (39, _), (40, _), (41, _), (42, _), (43, _), (44, _)] ⟨rfl, rfl, rfl, rfl, rfl, rfl, congrArg some (by rw [hen]), rfl, rfl, rfl, rfl, rfl, rfl, rfl, rfl, rfl, rfl, rfl, rfl, rfl, trivial⟩ <| .region <| .m rfl rfl <| .m rfl rfl <| .m rfl rfl <| .e rfl (.rem (b := 64) rfl rfl (by omega)) <| .m rfl rfl <| .m rfl rfl <| .e rfl (.quo (b := 64) rfl rfl (by omega) (by unfold inI64; omega)) <| .e rfl (.mulI (b := 64) rfl rfl (by omega)) <| .e rfl (.subI rfl rfl (by omega) (by omega)) <| .e rfl (.sliceL (E := encN .i64) (a := (at_ % 64)) (c := (en - ((at_ / 64) * 64))) sl27 rfl (hs_5.rdL 4 rfl) ⟨_, rfl⟩ ⟨_, rfl⟩ (by omega) (by rw [hcl]; omega)) <| .f rfl (.appendL 5 sl27 hs_5 rfl rfl rfl Tryz.underlying27 (((hs_5.rdL 4 rfl)).sub (a := (at_ % 64)) (b := (en - ((at_ / 64) * 64))) (by omega) (by rw [hcl]; omega)) (by simp; omega) (by simp; omega) fun v_2 w_5 hs_6 hch_2 => ?_)
      refine .s rfl rfl <| .nil <| .region <| .m rfl rfl <| .s rfl rfl <| .nil ?_
      have hs_7 : Sat w0 ([cObj g 65 [(.int .i64 l.length), (.int .i64 (kindN l)), lv, bv, (.int .i64 (((at_ / 64) + 1) : Nat)), r_1], cL lv 3 (encN .i64) (lensK l), cL bv 97 (encPt) (ps), cParts (ps), cL r_1 3 (encN .i64) (chk l (at_ / 64)), cL v_2 3 (encN .i64) ((l.take en).drop a)] ++ cs) w_5 := by
        have hq : (l.take at_).drop a ++ ((chk l (at_ / 64)).take (en - ((at_ / 64) * 64))).drop (at_ % 64) = (l.take en).drop a := by rw [chk_slice l (a := at_) (e := en) (by omega) (by omega) (by omega)]; exact take_drop_glue l (by omega) (by omega)
        rw [← hq]; exact hs_6
      exact ⟨(en, v_2, (at_ / 64 + 1), r_1, chk l (at_ / 64)), ⟨rfl, rfl, rfl, rfl, rfl, trivial⟩, ⟨hs_7, by omega, by omega, .now (nbk_lt (by omega))⟩, (show (e - (en)) < (e - at_) from by omega)⟩
    · refine .exit0 <| .seq <| .region <| .m rfl rfl <| .s rfl rfl <| .s rfl rfl <| .nil <| .ret ?_
      show PostK _ _ _ _ _ _
      refine post2 rfl rfl rfl ?_
      have hs_8 : Sat w0 ([cObj g 65 [(.int .i64 l.length), (.int .i64 (kindN l)), lv, bv, (.int .i64 last2), kv2], cL lv 3 (encN .i64) (lensK l), cL bv 97 (encPt) (ps), cParts (ps), cL kv2 3 (encN .i64) (blk2), cL ov 3 (encN .i64) ((l.take e).drop a)] ++ cs) w_3 := by
        have hq : (l.take at_).drop a = (l.take e).drop a := by rw [show at_ = e by omega]
        rw [← hq]; exact hs_4
      exact ⟨_, _, _, _, rfl, hca2, hs_8⟩
theorem same_ok (v u : Value) (a b : List Nat) (w : World) (hv : RdL w v (encN .i64) a) (hu : RdL w u (encN .i64) b) (hn : a.length ≤ 1000000000) :
    CallsV Tryz.prog 10 [v, u] w fun r w' => r = .bool (decide (a = b)) ∧ Sat w [] w' := by
  have hs0 := Sat.start w
  refine callsV_of Tryz.func10 rfl rfl ?_
  refine .seq <| .region <| .s rfl rfl <| .nil <| .seq <| .seq <| .region <| .m rfl rfl <| .e rfl (.lenL Tryz.underlying27 rfl (hv.ext hs0.ext)) <| .m rfl rfl <| .e rfl (.lenL Tryz.underlying27 rfl (hu.ext hs0.ext)) <| .e rfl (.neqN rfl rfl) <| .nil <| .condD rfl (fun hc_1 => ?_) (fun hc_1 => ?_)
  · refine .seq <| .region <| .s rfl rfl <| .nil <| .ret ?_
    show PostK _ _ _ _ _ _
    refine post1 rfl rfl ?_
    exact ⟨by rw [decide_eq_false fun h => hc_1 (by rw [h])], hs0⟩
  · refine .skip <| .seq <| .seq <| .region <| .m rfl rfl <| .e rfl (.lenL Tryz.underlying27 rfl (hv.ext hs0.ext)) <| .m rfl rfl <| .nil <| .block <| .loop (α := Nat) (fun k => [(0, v), (1, u), (12, (.int .i64 a.length)), (13, (.int .i64 k))]) (fun k w' => Sat w [] w' ∧ (k ≤ a.length) ∧ (a.take k = b.take k)) (fun k => a.length - k) 0 ⟨rfl, rfl, rfl, rfl, trivial⟩ ⟨hs0, Nat.zero_le _, by simp⟩ ?_
    rintro k w_1 ⟨hs_1, hk, heq⟩
    show CW _ _ _ _ [(0, v), (1, u), (12, (.int .i64 a.length)), (13, (.int .i64 k))] _
    refine .seq <| .region <| .e rfl (.lssN rfl rfl) <| .nil <| .seq <| .condD rfl (fun hc_2 => ?_) (fun hc_2 => ?_)
    · refine .skip <| .seq <| .block <| .seq <| .region <| .m rfl rfl <| .s rfl rfl <| .nil <| .seq ?_
      obtain ⟨x, hx⟩ : ∃ x, (a)[k]? = some x := ⟨_, List.getElem?_eq_getElem (hc_2)⟩
      obtain ⟨y, hy⟩ : ∃ y, (b)[k]? = some y := ⟨_, List.getElem?_eq_getElem (by omega)⟩
      refine .draw (fun w' => Sat w [] w') (.free 0 (.free 1 (.free 2 (.free 3 (.free 4 (.free 5 (.free 6 (.free 7 (.free 8 .fin))))))))) mixed (by kernel_rfl) ?_
      have hs_2 := hs_1.drew
      refine .m rfl rfl hs_2 <| .m rfl rfl hs_2 <| .e rfl (fun w' hS' => .idxL (E := encN .i64) sl27 rfl rfl (hv.ext hS'.ext) (by omega)) hs_2 <| .e rfl (fun w' hS' => .ldL (E := encN .i64) scal3 rfl (hv.ext hS'.ext) hx (by decide) rfl) hs_2 <| .m rfl rfl hs_2 <| .m rfl rfl hs_2 <| .e rfl (fun w' hS' => .idxL (E := encN .i64) sl27 rfl rfl (hu.ext hS'.ext) (by omega)) hs_2 <| .e rfl (fun w' hS' => .ldL (E := encN .i64) scal3 rfl (hu.ext hS'.ext) hy (by decide) rfl) hs_2 <| .e rfl (fun w' hS' => .neqN rfl rfl) hs_2 <| .fin <| .condD rfl (fun hc_3 => ?_) (fun hc_3 => ?_)
      · refine .seq <| .region <| .s rfl rfl <| .nil <| .ret ?_
        show PostK _ _ _ _ _ _
        refine post1 rfl rfl ?_
        subst_vars
        exact ⟨congrArg Value.bool (decide_eq_false fun h => hc_3 (by subst h; rw [hx] at hy; exact Option.some.inj hy)).symm, hs_2⟩
      · refine .skip <| .region <| .e rfl (.addI (b := 1) rfl rfl (by omega)) <| .m rfl rfl <| .nil ?_
        exact ⟨k + 1, ⟨rfl, rfl, rfl, rfl, trivial⟩, ⟨hs_2, by omega, by rw [take_succ_of hx, take_succ_of hy, heq, show x = y by omega]⟩, (show (a.length - (k + 1)) < (a.length - k) from by omega)⟩
    · refine .exit0 <| .seq <| .region <| .s rfl rfl <| .nil <| .ret ?_
      show PostK _ _ _ _ _ _
      refine post1 rfl rfl ?_
      rw [show k = a.length by omega, List.take_length, List.take_of_length_le (by omega)] at heq
      exact ⟨by rw [decide_eq_true heq], hs_1⟩
end Go.Proofs.YtecfgjdpghddgaaGreat
