/- The walks of the functions of F14d, printed by our own program (kwgen.py) out of our descriptions (base.py). -/
import Derived.Test.YtfhbflhnelbkfaaM14h
import Derived.Test.YtfhbflhnelbkfaaKb
import Derived.Test.YtfhbflhnelbkfaaF15u
import Derived.Test.YtfhbflhnelbkfaaTab
namespace Go.Proofs.Ytfhbflhnelbkfaa
open Go.RowKit Go.Kw
set_option maxRecDepth 100000
set_option linter.unusedVariables false
set_option linter.unusedSimpArgs false
theorem rbits_if (w0 w : World) (cs : List Chunk) (g : Nat) (v : Value) (by_ : List Nat) (N pos m : Nat) (hs : Sat w0 ([cObj g 202 [v, .int .i64 (N : Int), .int .i64 (pos : Int)], cL v 5 (encN .u8) by_] ++ cs) w) (hb : ∀ x ∈ by_, x < 256) (hN : N ≤ 8 * by_.length) (hn : by_.length ≤ 1000000000) (hm : m ≤ 63) (hp : pos ≤ N) :
    CallsV Try.prog 167 [.pointer (some ⟨g, 0, none⟩), .int .i64 (m : Int)] w fun r w' => r = .tuple #[.int .u64 ((if pos + m ≤ N then bvN by_ pos m else 0 : Nat) : Int), .int .i64 ((if pos + m ≤ N then 0 else 10 : Nat) : Int)] ∧ Sat w0 ([cObj g 202 [v, .int .i64 (N : Int), .int .i64 ((if pos + m ≤ N then pos + m else pos : Nat) : Int)], cL v 5 (encN .u8) by_] ++ cs) w' := by
  by_cases h : pos + m ≤ N
  · simp only [if_pos h]; exact rbits_ok w0 w cs g v by_ N pos m hs hb hN hn hm h
  · simp only [if_neg h]; exact rbits_no w0 w cs g v by_ N pos m hs hb hN hn hm hp (by omega)
theorem mapsnd {S : List (SV × List Nat)} {k : Nat} {p : SV × List Nat} (h : S[k]? = some p) : (S.map Prod.snd).getD k [] = p.2 := by
  rw [List.getD_eq_getElem?_getD, List.getElem?_map, h]; rfl
theorem mapsnd_len {S : List (SV × List Nat)} : (S.map Prod.snd).length = S.length := by simp

set_option maxHeartbeats 1000000 in
theorem begins_ok (g : Nat) (F : List Nat) (S : List (SV × List Nat)) (lo v n : Nat) (w : World) (hF : ∀ (j x : Nat), F[j]? = some x → w.cell? ⟨g, 0 + j * 1, none⟩ = some (.int .u64 (x : Int))) (hS : ∀ (j : Nat) (p : SV × List Nat), S[j]? = some p → w.cell? ⟨g, 16 + j * 1, none⟩ = some p.1.val) (hN : w.cell? ⟨g, 32, none⟩ = some (.int .i64 (lo : Int))) (hrow : ∀ (j : Nat) (p : SV × List Nat), S[j]? = some p → RdL w p.1.val (encN .i64) p.2) (hFl : F.length = 16) (hSl : S.length = 16) (hlo : lo ≤ 15) (hFb : ∀ x ∈ F, x < 2 ^ 15) (hSb : ∀ p ∈ S, p.2.length ≤ 1024) (hn : n ≤ 1000) :
    CallsV Try.prog 169 [(Value.pointer (some ⟨g, 0, none⟩)), (Value.int .u64 ((v : Nat) : Int)), (Value.int .i64 ((n : Nat) : Int))] w fun r w' => r = .bool (begF F (S.map Prod.snd) lo v n) ∧ Sat w [] w' := by
  have hs0 := Sat.start w
  refine callsV_of Try.func169 rfl rfl ?_
  refine CW.seq ?_
  refine CW.region ?_
  refine RT.ev rfl rfl (Ev.assign rfl) ?_
  refine RT.nil ?_
  refine CW.seq ?_
  refine CW.seq ?_
  refine CW.region ?_
  refine RT.ev rfl rfl (Ev.move rfl) <| RT.ev rfl rfl (Ev.assign rfl) ?_
  refine RT.nil ?_
  refine CW.block ?_
  refine CW.loop (α := Nat) (fun k => [(0, (Value.pointer (some ⟨g, 0, none⟩))), (1, (Value.int .u64 ((v : Nat) : Int))), (2, (Value.int .i64 ((n : Nat) : Int))), (7, (Value.int .i64 ((k : Nat) : Int)))]) (fun k w' => Sat w [] w' ∧ (n ≤ k) ∧ (k ≤ 1000) ∧ (∀ q, n ≤ q → q < k → begC F (S.map Prod.snd) v n q = false)) (fun k => 1001 - k) n ⟨rfl, rfl, rfl, rfl, trivial⟩ ⟨hs0, Nat.le_refl _, hn, fun q h1 h2 => absurd h1 (by omega)⟩ ?_
  rintro k w_1 ⟨hs_1, hnk, hkb, hno⟩
  show CW _ _ _ _ [(0, (Value.pointer (some ⟨g, 0, none⟩))), (1, (Value.int .u64 ((v : Nat) : Int))), (2, (Value.int .i64 ((n : Nat) : Int))), (7, (Value.int .i64 ((k : Nat) : Int)))] _
  refine CW.seq ?_
  refine CW.seq ?_
  refine CW.region ?_
  refine RT.ev rfl rfl (Ev.move rfl) <| RT.ev rfl rfl (Ev.move rfl) <| RT.ev rfl rfl (Ev.nilCheck rfl) <| RT.ev rfl rfl (Ev.fieldAddr fld206_2 rfl rfl) <| RT.ev rfl rfl (Ev.load scal3 rfl (hs_1.ext _ _ hN)) <| RT.ev rfl rfl (Ev.leqN rfl rfl) ?_
  refine RT.nil ?_
  refine CW.condD rfl (fun hc_1 => ?_) (fun hc_1 => ?_)
  · refine CW.skip ?_
    refine CW.seq ?_
    refine CW.block ?_
    refine CW.seq ?_
    obtain ⟨f, hf⟩ : ∃ f, F[k]? = some f := ⟨_, List.getElem?_eq_getElem (by omega)⟩
    obtain ⟨p, hp⟩ : ∃ p, S[k]? = some p := ⟨_, List.getElem?_eq_getElem (by omega)⟩
    have hfb := hFb f (mem_of_get hf)
    have hpb := hSb p (mem_of_get hp)
    have hFd : F.getD k 0 = f := getD_some hf
    have hSd := mapsnd hp
    refine CW.region ?_
    refine RT.ev rfl rfl (Ev.move rfl) <| RT.ev rfl rfl (Ev.move rfl) <| RT.ev rfl rfl (Ev.nilCheck rfl) <| RT.ev rfl rfl (Ev.fieldAddr fld206_1 rfl rfl) <| RT.ev rfl rfl (Ev.idxArr arr204 rfl rfl (by omega)) <| RT.ev rfl rfl (Ev.load scal22 rfl (hs_1.ext _ _ (hS _ _ hp))) <| RT.ev rfl rfl (Ev.lenL Try.underlying22 rfl ((hrow _ _ hp).ext hs_1.ext)) <| RT.ev rfl rfl (Ev.assign rfl) ?_
    refine RT.nil ?_
    refine CW.seq ?_
    refine CW.mid (fun L' w' => Weak [(0, (Value.pointer (some ⟨g, 0, none⟩))), (1, (Value.int .u64 ((v : Nat) : Int))), (2, (Value.int .i64 ((n : Nat) : Int))), (7, (Value.int .i64 ((k : Nat) : Int))), (8, (Value.int .i64 ((p.2.length : Nat) : Int))), (15, (Value.bool (decide (k ≤ lo)))), (58, (Value.bool (decide (((0 < p.2.length) ∧ (v ≤ ((((f + p.2.length) % 2 ^ 64) - 1) / 2 ^ (k - n)))) ∧ ((f / 2 ^ (k - n)) ≤ v)))))] L' ∧ Sat w [] w') ?_ ?_
    · refine CW.region ?_
      refine RT.ev rfl rfl (Ev.move rfl) <| RT.ev rfl rfl (Ev.gtrN (b := 0) rfl rfl) <| RT.ev rfl rfl (Ev.move rfl) ?_
      by_cases hg_1 : 0 < p.2.length
      · refine RT.yes rfl rfl rfl (decide_eq_true hg_1) ?_
        refine RT.ev rfl rfl (Ev.move rfl) ?_
        refine RT.yes rfl rfl rfl (decide_eq_true hg_1) ?_
        refine RT.ev rfl rfl (Ev.move rfl) ?_
        refine RT.yes rfl rfl rfl (decide_eq_true hg_1) ?_
        refine RT.ev rfl rfl (Ev.move rfl) ?_
        refine RT.yes rfl rfl rfl (decide_eq_true hg_1) ?_
        refine RT.ev rfl rfl (Ev.nilCheck rfl) ?_
        refine RT.yes rfl rfl rfl (decide_eq_true hg_1) ?_
        refine RT.ev rfl rfl (Ev.fieldAddr fld206_0 rfl rfl) ?_
        refine RT.yes rfl rfl rfl (decide_eq_true hg_1) ?_
        refine RT.ev rfl rfl (Ev.idxArr arr203 rfl rfl (by omega)) ?_
        refine RT.yes rfl rfl rfl (decide_eq_true hg_1) ?_
        refine RT.ev rfl rfl (Ev.load scal108 rfl (hs_1.ext _ _ (hF _ _ hf))) ?_
        refine RT.yes rfl rfl rfl (decide_eq_true hg_1) ?_
        refine RT.ev rfl rfl (Ev.move rfl) ?_
        refine RT.yes rfl rfl rfl (decide_eq_true hg_1) ?_
        refine RT.ev rfl rfl (Ev.convK (by rw [Try.underlying3]; rfl) Try.underlying108 rfl (wrap_u rfl (by (try simp only [IntKind.bits]); omega))) ?_
        refine RT.yes rfl rfl rfl (decide_eq_true hg_1) ?_
        refine RT.ev rfl rfl (Ev.addN rfl rfl rfl) ?_
        refine RT.yes rfl rfl rfl (decide_eq_true hg_1) ?_
        refine RT.ev rfl rfl (Ev.subN (b := 1) rfl rfl rfl (by (try simp only [IntKind.bits]); omega) (by (try simp only [IntKind.bits]); omega)) ?_
        refine RT.yes rfl rfl rfl (decide_eq_true hg_1) ?_
        refine RT.ev rfl rfl (Ev.move rfl) ?_
        refine RT.yes rfl rfl rfl (decide_eq_true hg_1) ?_
        refine RT.ev rfl rfl (Ev.move rfl) ?_
        refine RT.yes rfl rfl rfl (decide_eq_true hg_1) ?_
        refine RT.ev rfl rfl (Ev.subI rfl rfl (by omega) (by omega)) ?_
        refine RT.yes rfl rfl rfl (decide_eq_true hg_1) ?_
        refine RT.ev rfl rfl (Ev.shrN rfl rfl (by (try simp only [IntKind.bits]); omega)) ?_
        refine RT.yes rfl rfl rfl (decide_eq_true hg_1) ?_
        refine RT.ev rfl rfl (Ev.leqN rfl rfl) <| RT.ev rfl rfl (Ev.pickY rfl (decide_eq_true hg_1) rfl) <| RT.ev rfl rfl (Ev.move rfl) ?_
        by_cases hg_2 : v ≤ ((((f + p.2.length) % 2 ^ 64) - 1) / 2 ^ (k - n))
        · refine RT.yes rfl rfl rfl (decide_eq_true hg_2) ?_
          refine RT.ev rfl rfl (Ev.move rfl) ?_
          refine RT.yes rfl rfl rfl (decide_eq_true hg_2) ?_
          refine RT.ev rfl rfl (Ev.move rfl) ?_
          refine RT.yes rfl rfl rfl (decide_eq_true hg_2) ?_
          refine RT.ev rfl rfl (Ev.move rfl) ?_
          refine RT.yes rfl rfl rfl (decide_eq_true hg_2) ?_
          refine RT.ev rfl rfl (Ev.nilCheck rfl) ?_
          refine RT.yes rfl rfl rfl (decide_eq_true hg_2) ?_
          refine RT.ev rfl rfl (Ev.fieldAddr fld206_0 rfl rfl) ?_
          refine RT.yes rfl rfl rfl (decide_eq_true hg_2) ?_
          refine RT.ev rfl rfl (Ev.idxArr arr203 rfl rfl (by omega)) ?_
          refine RT.yes rfl rfl rfl (decide_eq_true hg_2) ?_
          refine RT.ev rfl rfl (Ev.load scal108 rfl (hs_1.ext _ _ (hF _ _ hf))) ?_
          refine RT.yes rfl rfl rfl (decide_eq_true hg_2) ?_
          refine RT.ev rfl rfl (Ev.move rfl) ?_
          refine RT.yes rfl rfl rfl (decide_eq_true hg_2) ?_
          refine RT.ev rfl rfl (Ev.move rfl) ?_
          refine RT.yes rfl rfl rfl (decide_eq_true hg_2) ?_
          refine RT.ev rfl rfl (Ev.subI rfl rfl (by omega) (by omega)) ?_
          refine RT.yes rfl rfl rfl (decide_eq_true hg_2) ?_
          refine RT.ev rfl rfl (Ev.shrN rfl rfl (by (try simp only [IntKind.bits]); omega)) ?_
          refine RT.yes rfl rfl rfl (decide_eq_true hg_2) ?_
          refine RT.ev rfl rfl (Ev.geqN rfl rfl) <| RT.ev rfl rfl (Ev.pickY rfl (decide_eq_true hg_2) rfl) ?_
          refine RT.nil ?_
          exact ⟨⟨rfl, rfl, rfl, rfl, rfl, rfl, congrArg some (congrArg Value.bool (by simp [hg_1, hg_2])), trivial⟩, hs_1⟩
        · refine RT.no rfl rfl rfl (decide_eq_false hg_2) rfl ?_
          refine RT.no rfl rfl rfl (decide_eq_false hg_2) rfl ?_
          refine RT.no rfl rfl rfl (decide_eq_false hg_2) rfl ?_
          refine RT.no rfl rfl rfl (decide_eq_false hg_2) rfl ?_
          refine RT.no rfl rfl rfl (decide_eq_false hg_2) rfl ?_
          refine RT.no rfl rfl rfl (decide_eq_false hg_2) rfl ?_
          refine RT.no rfl rfl rfl (decide_eq_false hg_2) rfl ?_
          refine RT.no rfl rfl rfl (decide_eq_false hg_2) rfl ?_
          refine RT.no rfl rfl rfl (decide_eq_false hg_2) rfl ?_
          refine RT.no rfl rfl rfl (decide_eq_false hg_2) rfl ?_
          refine RT.no rfl rfl rfl (decide_eq_false hg_2) rfl ?_
          refine RT.no rfl rfl rfl (decide_eq_false hg_2) rfl ?_
          refine RT.ev rfl rfl (Ev.pickN rfl (decide_eq_false hg_2) rfl) ?_
          refine RT.nil ?_
          exact ⟨⟨rfl, rfl, rfl, rfl, rfl, rfl, congrArg some (congrArg Value.bool (by simp [hg_1, hg_2])), trivial⟩, hs_1⟩
      · refine RT.no rfl rfl rfl (decide_eq_false hg_1) rfl ?_
        refine RT.no rfl rfl rfl (decide_eq_false hg_1) rfl ?_
        refine RT.no rfl rfl rfl (decide_eq_false hg_1) rfl ?_
        refine RT.no rfl rfl rfl (decide_eq_false hg_1) rfl ?_
        refine RT.no rfl rfl rfl (decide_eq_false hg_1) rfl ?_
        refine RT.no rfl rfl rfl (decide_eq_false hg_1) rfl ?_
        refine RT.no rfl rfl rfl (decide_eq_false hg_1) rfl ?_
        refine RT.no rfl rfl rfl (decide_eq_false hg_1) rfl ?_
        refine RT.no rfl rfl rfl (decide_eq_false hg_1) rfl ?_
        refine RT.no rfl rfl rfl (decide_eq_false hg_1) rfl ?_
        refine RT.no rfl rfl rfl (decide_eq_false hg_1) rfl ?_
        refine RT.no rfl rfl rfl (decide_eq_false hg_1) rfl ?_
        refine RT.no rfl rfl rfl (decide_eq_false hg_1) rfl ?_
        refine RT.no rfl rfl rfl (decide_eq_false hg_1) rfl ?_
        refine RT.no rfl rfl rfl (decide_eq_false hg_1) rfl ?_
        refine RT.no rfl rfl rfl (decide_eq_false hg_1) rfl ?_
        refine RT.ev rfl rfl (Ev.pickN rfl (decide_eq_false hg_1) rfl) <| RT.ev rfl rfl (Ev.move rfl) ?_
        refine RT.no rfl rfl rfl (rfl) rfl ?_
        refine RT.no rfl rfl rfl (rfl) rfl ?_
        refine RT.no rfl rfl rfl (rfl) rfl ?_
        refine RT.no rfl rfl rfl (rfl) rfl ?_
        refine RT.no rfl rfl rfl (rfl) rfl ?_
        refine RT.no rfl rfl rfl (rfl) rfl ?_
        refine RT.no rfl rfl rfl (rfl) rfl ?_
        refine RT.no rfl rfl rfl (rfl) rfl ?_
        refine RT.no rfl rfl rfl (rfl) rfl ?_
        refine RT.no rfl rfl rfl (rfl) rfl ?_
        refine RT.no rfl rfl rfl (rfl) rfl ?_
        refine RT.no rfl rfl rfl (rfl) rfl ?_
        refine RT.ev rfl rfl (Ev.pickN rfl (rfl) rfl) ?_
        refine RT.nil ?_
        exact ⟨⟨rfl, rfl, rfl, rfl, rfl, rfl, congrArg some (congrArg Value.bool (by simp [hg_1])), trivial⟩, hs_1⟩
    · rintro L' w_2 ⟨hw_1, hs_2⟩
      refine CW.weaken _ hw_1 ?_
      refine CW.condD rfl (fun hc_2 => ?_) (fun hc_2 => ?_)
      · refine CW.seq ?_
        refine CW.region ?_
        refine RT.ev rfl rfl (Ev.assign rfl) ?_
        refine RT.nil ?_
        refine CW.ret ?_
        show PostK _ _ _ _ _ _
        refine post1 rfl rfl ?_
        exact ⟨by rw [begF_true (k := k) hnk (by omega) (by unfold begC; rw [hFd, hSd]; simp only [Bool.and_eq_true, decide_eq_true_eq]; refine ⟨⟨hc_2.1.1, ?_⟩, hc_2.2⟩; have h := hc_2.1.2; rw [Nat.mod_eq_of_lt (by omega)] at h; exact h)], hs_2⟩
      · refine CW.skip ?_
        refine CW.region ?_
        refine RT.ev rfl rfl (Ev.move rfl) <| RT.ev rfl rfl (Ev.addI (b := 1) rfl rfl (by omega)) <| RT.ev rfl rfl (Ev.assign rfl) ?_
        refine RT.nil ?_
        exact ⟨k + 1, ⟨rfl, rfl, rfl, rfl, trivial⟩, ⟨hs_2, by omega, by omega, fun q h1 h2 => by
      rcases Nat.lt_or_ge q k with h | h
      · exact hno q h1 h
      · have e : q = k := by omega
        subst e
        refine Bool.eq_false_iff.2 fun hb => hc_2 ?_
        unfold begC at hb
        rw [hFd, hSd] at hb
        simp only [Bool.and_eq_true, decide_eq_true_eq] at hb
        refine ⟨⟨hb.1.1, ?_⟩, hb.2⟩
        rw [Nat.mod_eq_of_lt (by omega)]; exact hb.1.2⟩, (show (1001 - (k + 1)) < (1001 - k) from by omega)⟩
  · refine CW.exit0 ?_
    refine CW.seq ?_
    refine CW.region ?_
    refine RT.ev rfl rfl (Ev.assign rfl) ?_
    refine RT.nil ?_
    refine CW.ret ?_
    show PostK _ _ _ _ _ _
    refine post1 rfl rfl ?_
    exact ⟨by rw [begF_false (fun q h1 h2 => hno q h1 (by omega))], hs_1⟩

set_option maxHeartbeats 1000000 in
theorem symbol_ok (w0 w : World) (cs : List Chunk) (g tg : Nat) (v : Value) (by_ : List Nat) (N pos0 lo : Nat) (F : List Nat) (S : List (SV × List Nat)) (hs : Sat w0 ([cObj g 202 [v, (Value.int .i64 ((N : Nat) : Int)), (Value.int .i64 ((pos0 : Nat) : Int))], cL v 5 (encN .u8) (by_), tabC tg 206 (F) (S) (lo), cRows 3 (encN .i64) S] ++ cs) w) (hb : ∀ x ∈ by_, x < 256) (hNl : N ≤ 8 * by_.length) (hn : by_.length ≤ 1000000) (hp0 : pos0 ≤ N) (hFl : F.length = 16) (hSl : S.length = 16) (hlo : lo ≤ 15) (hFb : ∀ x ∈ F, x < 2 ^ 15) (hSb : ∀ p ∈ S, p.2.length ≤ 1024)  :
    CallsV Try.prog 129 [(Value.pointer (some ⟨tg, 0, none⟩)), (Value.pointer (some ⟨g, 0, none⟩))] w fun r w' => r = .tuple #[.int .i64 ((symF F (S.map Prod.snd) lo by_ N 16 1 0 pos0).1 : Nat), .int .i64 ((symF F (S.map Prod.snd) lo by_ N 16 1 0 pos0).2.1 : Nat)] ∧ Sat w0 ([cObj g 202 [v, (Value.int .i64 ((N : Nat) : Int)), (Value.int .i64 ((((symF F (S.map Prod.snd) lo by_ N 16 1 0 pos0).2.2) : Nat) : Int))], cL v 5 (encN .u8) (by_), tabC tg 206 (F) (S) (lo), cRows 3 (encN .i64) S] ++ cs) w' := by
  refine callsV_of Try.func129 rfl rfl ?_
  refine CW.seq ?_
  refine CW.region ?_
  refine RT.ev rfl rfl (Ev.assign rfl) <| RT.ev rfl rfl (Ev.assign rfl) ?_
  refine RT.nil ?_
  refine CW.seq ?_
  refine CW.region ?_
  refine RT.ev rfl rfl (Ev.assign rfl) ?_
  refine RT.nil ?_
  refine CW.seq ?_
  refine CW.region ?_
  refine RT.ev rfl rfl (Ev.assign rfl) ?_
  refine RT.nil ?_
  refine CW.block ?_
  refine CW.loop (α := Nat × Nat × Nat) (fun (n, u, pos) => [(0, (Value.pointer (some ⟨tg, 0, none⟩))), (1, (Value.pointer (some ⟨g, 0, none⟩))), (6, (Value.int .u64 ((u : Nat) : Int))), (7, (Value.int .i64 ((n : Nat) : Int)))]) (fun (n, u, pos) w' => Sat w0 ([cObj g 202 [v, (Value.int .i64 ((N : Nat) : Int)), (Value.int .i64 ((pos : Nat) : Int))], cL v 5 (encN .u8) (by_), tabC tg 206 (F) (S) (lo), cRows 3 (encN .i64) S] ++ cs) w' ∧ (1 ≤ n) ∧ (n ≤ 16) ∧ (symF F (S.map Prod.snd) lo by_ N (17 - n) n u pos = symF F (S.map Prod.snd) lo by_ N 16 1 0 pos0) ∧ (pos ≤ N) ∧ (u < 2 ^ n)) (fun (n, u, pos) => 17 - n) (1, 0, pos0) ⟨rfl, rfl, rfl, rfl, trivial⟩ ⟨hs, Nat.le_refl _, by omega, rfl, hp0, by decide⟩ ?_
  rintro ⟨n, u, pos⟩ w_1 ⟨hs_1, hn1, hn16, hE, hpos, hu⟩
  show CW _ _ _ _ [(0, (Value.pointer (some ⟨tg, 0, none⟩))), (1, (Value.pointer (some ⟨g, 0, none⟩))), (6, (Value.int .u64 ((u : Nat) : Int))), (7, (Value.int .i64 ((n : Nat) : Int)))] _
  refine CW.seq ?_
  refine CW.block ?_
  refine CW.seq ?_
  have hp16 : 2 ^ n ≤ 2 ^ 16 := Nat.pow_le_pow_right (by decide) hn16
  refine CW.region ?_
  refine RT.ev rfl rfl (Ev.move rfl) ?_
  have hA_1 : Sat w0 ([cObj g 202 [v, (Value.int .i64 ((N : Nat) : Int)), (Value.int .i64 ((pos : Nat) : Int))], cL v 5 (encN .u8) (by_)] ++ ([tabC tg 206 (F) (S) (lo), cRows 3 (encN .i64) S] ++ cs)) _ := (Sat.order [0, 1, 2, 3] (by decide) hs_1).cut 2
  refine RT.eff rfl rfl (OpE.call ent167 rfl ((rbits_if _ _ _ _ _ (by_) (N) (pos) (1) hA_1 (hb) (hNl) (by omega) (by omega) (hpos)).mono fun r_1 w_2 h_1 => ?_))
  obtain ⟨rfl, hp_1⟩ := h_1
  have hs_2 : Sat w0 ([cObj g 202 [v, (Value.int .i64 ((N : Nat) : Int)), (Value.int .i64 (((if pos + 1 ≤ N then pos + 1 else pos) : Nat) : Int))], cL v 5 (encN .u8) (by_), tabC tg 206 (F) (S) (lo), cRows 3 (encN .i64) S] ++ cs) _ := Sat.order [0, 1, 2, 3] (by decide) hp_1.join
  refine RT.ev rfl rfl (Ev.move rfl) <| RT.ev rfl rfl (Ev.extract rfl rfl) <| RT.ev rfl rfl (Ev.extract rfl rfl) <| RT.ev rfl rfl (Ev.assign rfl) <| RT.ev rfl rfl (Ev.assign rfl) ?_
  refine RT.nil ?_
  refine CW.seq ?_
  refine CW.seq ?_
  refine CW.region ?_
  refine RT.ev rfl rfl (Ev.move rfl) <| RT.ev rfl rfl (Ev.neqN (b := 0) rfl rfl) ?_
  refine RT.nil ?_
  refine CW.condD rfl (fun hc_1 => ?_) (fun hc_1 => ?_)
  · refine CW.seq ?_
    refine CW.region ?_
    refine RT.ev rfl rfl (Ev.assign rfl) <| RT.ev rfl rfl (Ev.assign rfl) ?_
    refine RT.nil ?_
    refine CW.ret ?_
    show PostK _ _ _ _ _ _
    refine post2 rfl rfl rfl ?_
    have hgt : N < pos + 1 := Nat.lt_of_not_le fun h => hc_1 (by rw [if_pos h])
    have hno : ¬ pos + 1 ≤ N := by omega
    rw [show 17 - n = (16 - n) + 1 by omega, symF, if_pos hgt] at hE
    have hq := hs_2
    rw [if_neg hno] at hq
    exact ⟨by rw [← hE]; rfl, by rw [← hE]; exact hq⟩
  · refine CW.skip ?_
    refine CW.seq ?_
    have hle : pos + 1 ≤ N := Classical.byContradiction fun h => hc_1 (by rw [if_neg h]; decide)
    have hrb := rb_lt by_ pos
    refine CW.weaken [(0, _), (1, _), (6, _), (7, _), (8, (Value.int .u64 (((rb by_ pos) : Nat) : Int))), (9, _), (12, _), (13, _), (14, _), (15, _), (16, _), (17, _), (18, _)] ⟨rfl, rfl, rfl, rfl, congrArg some (by rw [if_pos hle]; simp [bvN]), rfl, rfl, rfl, rfl, rfl, rfl, rfl, rfl, trivial⟩ ?_
    have hs_3 : Sat w0 ([cObj g 202 [v, (Value.int .i64 ((N : Nat) : Int)), (Value.int .i64 (((pos + 1) : Nat) : Int))], cL v 5 (encN .u8) (by_), tabC tg 206 (F) (S) (lo), cRows 3 (encN .i64) S] ++ cs) w_2 := by have hq := hs_2; rw [if_pos hle] at hq; exact hq
    have hor := or_one (v := u) hrb (by omega)
    refine CW.region ?_
    refine RT.ev rfl rfl (Ev.move rfl) <| RT.ev rfl rfl (Ev.shlN (b := 1) rfl rfl rfl (by (try simp only [IntKind.bits]); omega)) <| RT.ev rfl rfl (Ev.move rfl) <| RT.ev rfl rfl (Ev.orN rfl rfl rfl (by (try simp only [IntKind.bits]); omega) (by (try simp only [IntKind.bits]); omega)) <| RT.ev rfl rfl (Ev.assign rfl) ?_
    refine RT.nil ?_
    refine CW.weaken [(0, _), (1, _), (6, (Value.int .u64 (((2 * u + rb by_ pos) : Nat) : Int))), (7, _), (8, _), (13, _), (17, _), (18, _), (19, _), (20, _), (21, _), (22, _)] ⟨rfl, rfl, congrArg some (congrArg (fun q : Nat => Value.int .u64 (q : Int)) hor), rfl, rfl, rfl, rfl, rfl, rfl, rfl, rfl, rfl, trivial⟩ ?_
    refine CW.seq ?_
    refine CW.seq ?_
    refine CW.region ?_
    refine RT.ev rfl rfl (Ev.move rfl) <| RT.ev rfl rfl (Ev.move rfl) <| RT.ev rfl rfl (Ev.move rfl) ?_
    refine RT.eff rfl rfl (OpE.call ent169 rfl ((begins_ok tg (F) (S) (lo) ((2 * u + rb by_ pos)) (n) _ (fun j x h => hs_3.tabF 2 rfl h) (fun j p h => hs_3.tabS 2 rfl hFl h) (hs_3.tabN 2 rfl hFl hSl) (fun j p h => hs_3.rdRows 3 rfl h) hFl hSl hlo hFb hSb (by omega)).mono fun r_2 w_3 h_2 => ?_))
    obtain ⟨rfl, hp_2⟩ := h_2
    have hs_4 : Sat w0 ([cObj g 202 [v, (Value.int .i64 ((N : Nat) : Int)), (Value.int .i64 (((pos + 1) : Nat) : Int))], cL v 5 (encN .u8) (by_), tabC tg 206 (F) (S) (lo), cRows 3 (encN .i64) S] ++ cs) _ := (hs_3.adds hp_2).mid
    refine RT.ev rfl rfl (Ev.notB rfl) ?_
    refine RT.nil ?_
    refine CW.cond rfl (fun hc_2 => ?_) (fun hc_2 => ?_)
    · refine CW.seq ?_
      refine CW.region ?_
      refine RT.ev rfl rfl (Ev.assign rfl) <| RT.ev rfl rfl (Ev.assign rfl) ?_
      refine RT.nil ?_
      refine CW.ret ?_
      show PostK _ _ _ _ _ _
      refine post2 rfl rfl rfl ?_
      rw [show 17 - n = (16 - n) + 1 by omega, symF, if_neg (by omega), if_pos (by simpa using hc_2)] at hE
      exact ⟨by rw [← hE]; rfl, by rw [← hE]; exact hs_4⟩
    · refine CW.skip ?_
      refine CW.seq ?_
      have hbeg : begF F (S.map Prod.snd) lo (2 * u + rb by_ pos) n = true := by simpa using hc_2
      have hnlo := begF_le hbeg
      obtain ⟨f, hf⟩ : ∃ f, F[n]? = some f := ⟨_, List.getElem?_eq_getElem (by omega)⟩
      obtain ⟨p, hp⟩ : ∃ p, S[n]? = some p := ⟨_, List.getElem?_eq_getElem (by omega)⟩
      have hfb := hFb f (mem_of_get hf)
      have hpb := hSb p (mem_of_get hp)
      have hFd : F.getD n 0 = f := getD_some hf
      have hSd := mapsnd hp
      rw [show 17 - n = (16 - n) + 1 by omega, symF, if_neg (by omega), if_neg (by rw [hbeg]; simp), hFd, hSd] at hE
      refine CW.mid (fun L' w' => Weak [(0, (Value.pointer (some ⟨tg, 0, none⟩))), (1, (Value.pointer (some ⟨g, 0, none⟩))), (6, (Value.int .u64 (((2 * u + rb by_ pos) : Nat) : Int))), (7, (Value.int .i64 ((n : Nat) : Int))), (8, (Value.int .u64 (((rb by_ pos) : Nat) : Int))), (18, (Value.bool (decide ((if pos + 1 ≤ N then 0 else 10) ≠ 0)))), (27, (Value.bool (!(begF F (S.map Prod.snd) lo (2 * u + rb by_ pos) n)))), (54, (Value.bool (decide ((f ≤ (2 * u + rb by_ pos)) ∧ (((2 * u + rb by_ pos) - f) < p.2.length)))))] L' ∧ Sat w0 ([cObj g 202 [v, (Value.int .i64 ((N : Nat) : Int)), (Value.int .i64 (((pos + 1) : Nat) : Int))], cL v 5 (encN .u8) (by_), tabC tg 206 (F) (S) (lo), cRows 3 (encN .i64) S] ++ cs) w') ?_ ?_
      · refine CW.draw (fun w' => Sat w0 ([cObj g 202 [v, (Value.int .i64 ((N : Nat) : Int)), (Value.int .i64 (((pos + 1) : Nat) : Int))], cL v 5 (encN .u8) (by_), tabC tg 206 (F) (S) (lo), cRows 3 (encN .i64) S] ++ cs) w') (.free 0 (.free 1 (.free 2 (.free 3 (.free 4 (.free 5 (.free 6 (.free 7 (.free 8 (.free 9 (.free 10 (.free 11 (.free 12 (.free 13 (.free 14 (.free 15 (.free 16 (.free 17 (.free 18 (.free 19 (.free 20 (.free 21 (.free 22 (.free 23 (.free 24 (.free 25 (.free 26 .fin))))))))))))))))))))))))))) mixed (by kernel_rfl) ?_
        have hs_5 := hs_4.drew
        refine RP.ev rfl rfl rfl (fun w' hS' => Ev.move rfl) hs_5 ?_
        refine RP.ev rfl rfl rfl (fun w' hS' => Ev.move rfl) hs_5 ?_
        refine RP.ev rfl rfl rfl (fun w' hS' => Ev.move rfl) hs_5 ?_
        refine RP.ev rfl rfl rfl (fun w' hS' => Ev.nilCheck rfl) hs_5 ?_
        refine RP.ev rfl rfl rfl (fun w' hS' => Ev.fieldAddr fld206_0 rfl rfl) hs_5 ?_
        refine RP.ev rfl rfl rfl (fun w' hS' => Ev.idxArr arr203 rfl rfl (by omega)) hs_5 ?_
        refine RP.ev rfl rfl rfl (fun w' hS' => Ev.load scal108 rfl (hS'.tabF 2 rfl hf)) hs_5 ?_
        refine RP.ev rfl rfl rfl (fun w' hS' => Ev.geqN rfl rfl) hs_5 ?_
        refine RP.ev rfl rfl rfl (fun w' hS' => Ev.move rfl) hs_5 ?_
        by_cases hg_1 : f ≤ (2 * u + rb by_ pos)
        · refine RP.evYes rfl rfl rfl rfl (decide_eq_true hg_1) rfl (fun w' hS' => Ev.move rfl) hs_5 ?_
          refine RP.evYes rfl rfl rfl rfl (decide_eq_true hg_1) rfl (fun w' hS' => Ev.move rfl) hs_5 ?_
          refine RP.evYes rfl rfl rfl rfl (decide_eq_true hg_1) rfl (fun w' hS' => Ev.move rfl) hs_5 ?_
          refine RP.evYes rfl rfl rfl rfl (decide_eq_true hg_1) rfl (fun w' hS' => Ev.nilCheck rfl) hs_5 ?_
          refine RP.evYes rfl rfl rfl rfl (decide_eq_true hg_1) rfl (fun w' hS' => Ev.fieldAddr fld206_0 rfl rfl) hs_5 ?_
          refine RP.evYes rfl rfl rfl rfl (decide_eq_true hg_1) rfl (fun w' hS' => Ev.idxArr arr203 rfl rfl (by omega)) hs_5 ?_
          refine RP.evYes rfl rfl rfl rfl (decide_eq_true hg_1) rfl (fun w' hS' => Ev.load scal108 rfl (hS'.tabF 2 rfl hf)) hs_5 ?_
          refine RP.evYes rfl rfl rfl rfl (decide_eq_true hg_1) rfl (fun w' hS' => Ev.subN rfl rfl rfl (by (try simp only [IntKind.bits]); omega) (by (try simp only [IntKind.bits]); omega)) hs_5 ?_
          refine RP.evYes rfl rfl rfl rfl (decide_eq_true hg_1) rfl (fun w' hS' => Ev.move rfl) hs_5 ?_
          refine RP.evYes rfl rfl rfl rfl (decide_eq_true hg_1) rfl (fun w' hS' => Ev.move rfl) hs_5 ?_
          refine RP.evYes rfl rfl rfl rfl (decide_eq_true hg_1) rfl (fun w' hS' => Ev.nilCheck rfl) hs_5 ?_
          refine RP.evYes rfl rfl rfl rfl (decide_eq_true hg_1) rfl (fun w' hS' => Ev.fieldAddr fld206_1 rfl rfl) hs_5 ?_
          refine RP.evYes rfl rfl rfl rfl (decide_eq_true hg_1) rfl (fun w' hS' => Ev.idxArr arr204 rfl rfl (by omega)) hs_5 ?_
          refine RP.evYes rfl rfl rfl rfl (decide_eq_true hg_1) rfl (fun w' hS' => Ev.load scal22 rfl (hS'.tabS 2 rfl (by (try simp only [List.length_set]); assumption) hp)) hs_5 ?_
          refine RP.evYes rfl rfl rfl rfl (decide_eq_true hg_1) rfl (fun w' hS' => Ev.lenL Try.underlying22 rfl (hS'.rdRows 3 rfl hp)) hs_5 ?_
          refine RP.evYes rfl rfl rfl rfl (decide_eq_true hg_1) rfl (fun w' hS' => Ev.convK (by rw [Try.underlying3]; rfl) Try.underlying108 rfl (wrap_u rfl (by (try simp only [IntKind.bits]); omega))) hs_5 ?_
          refine RP.evYes rfl rfl rfl rfl (decide_eq_true hg_1) rfl (fun w' hS' => Ev.lssN rfl rfl) hs_5 ?_
          refine RP.ev rfl rfl rfl (fun w' hS' => Ev.pickY rfl (decide_eq_true hg_1) rfl) hs_5 ?_
          refine RP.fin ?_
          exact ⟨⟨rfl, rfl, rfl, rfl, rfl, rfl, rfl, congrArg some (congrArg Value.bool (by simp [hg_1])), trivial⟩, hs_5⟩
        · refine RP.no rfl rfl rfl rfl (decide_eq_false hg_1) rfl hs_5 ?_
          refine RP.no rfl rfl rfl rfl (decide_eq_false hg_1) rfl hs_5 ?_
          refine RP.no rfl rfl rfl rfl (decide_eq_false hg_1) rfl hs_5 ?_
          refine RP.no rfl rfl rfl rfl (decide_eq_false hg_1) rfl hs_5 ?_
          refine RP.no rfl rfl rfl rfl (decide_eq_false hg_1) rfl hs_5 ?_
          refine RP.no rfl rfl rfl rfl (decide_eq_false hg_1) rfl hs_5 ?_
          refine RP.no rfl rfl rfl rfl (decide_eq_false hg_1) rfl hs_5 ?_
          refine RP.no rfl rfl rfl rfl (decide_eq_false hg_1) rfl hs_5 ?_
          refine RP.no rfl rfl rfl rfl (decide_eq_false hg_1) rfl hs_5 ?_
          refine RP.no rfl rfl rfl rfl (decide_eq_false hg_1) rfl hs_5 ?_
          refine RP.no rfl rfl rfl rfl (decide_eq_false hg_1) rfl hs_5 ?_
          refine RP.no rfl rfl rfl rfl (decide_eq_false hg_1) rfl hs_5 ?_
          refine RP.no rfl rfl rfl rfl (decide_eq_false hg_1) rfl hs_5 ?_
          refine RP.no rfl rfl rfl rfl (decide_eq_false hg_1) rfl hs_5 ?_
          refine RP.no rfl rfl rfl rfl (decide_eq_false hg_1) rfl hs_5 ?_
          refine RP.no rfl rfl rfl rfl (decide_eq_false hg_1) rfl hs_5 ?_
          refine RP.no rfl rfl rfl rfl (decide_eq_false hg_1) rfl hs_5 ?_
          refine RP.ev rfl rfl rfl (fun w' hS' => Ev.pickN rfl (decide_eq_false hg_1) rfl) hs_5 ?_
          refine RP.fin ?_
          exact ⟨⟨rfl, rfl, rfl, rfl, rfl, rfl, rfl, congrArg some (congrArg Value.bool (by simp [hg_1])), trivial⟩, hs_5⟩
      · rintro L' w_4 ⟨hw_1, hs_6⟩
        refine CW.weaken _ hw_1 ?_
        refine CW.condD rfl (fun hc_3 => ?_) (fun hc_3 => ?_)
        · refine CW.seq ?_
          obtain ⟨x, hx⟩ : ∃ x, p.2[2 * u + rb by_ pos - f]? = some x := ⟨_, List.getElem?_eq_getElem hc_3.2⟩
          rw [if_pos hc_3, getD_some hx] at hE
          refine CW.draw (fun w' => Sat w0 ([cObj g 202 [v, (Value.int .i64 ((N : Nat) : Int)), (Value.int .i64 (((pos + 1) : Nat) : Int))], cL v 5 (encN .u8) (by_), tabC tg 206 (F) (S) (lo), cRows 3 (encN .i64) S] ++ cs) w') (.free 0 (.free 1 (.free 2 (.free 3 (.free 4 (.free 5 (.free 6 (.free 7 (.free 8 (.free 9 (.free 10 (.free 11 (.free 12 (.free 13 (.free 14 (.free 15 (.free 16 (.free 17 .fin)))))))))))))))))) mixed (by kernel_rfl) ?_
          have hs_7 := hs_6.drew
          refine RP.ev rfl rfl rfl (fun w' hS' => Ev.move rfl) hs_7 ?_
          refine RP.ev rfl rfl rfl (fun w' hS' => Ev.move rfl) hs_7 ?_
          refine RP.ev rfl rfl rfl (fun w' hS' => Ev.nilCheck rfl) hs_7 ?_
          refine RP.ev rfl rfl rfl (fun w' hS' => Ev.fieldAddr fld206_1 rfl rfl) hs_7 ?_
          refine RP.ev rfl rfl rfl (fun w' hS' => Ev.idxArr arr204 rfl rfl (by omega)) hs_7 ?_
          refine RP.ev rfl rfl rfl (fun w' hS' => Ev.load scal22 rfl (hS'.tabS 2 rfl (by (try simp only [List.length_set]); assumption) hp)) hs_7 ?_
          refine RP.ev rfl rfl rfl (fun w' hS' => Ev.move rfl) hs_7 ?_
          refine RP.ev rfl rfl rfl (fun w' hS' => Ev.move rfl) hs_7 ?_
          refine RP.ev rfl rfl rfl (fun w' hS' => Ev.move rfl) hs_7 ?_
          refine RP.ev rfl rfl rfl (fun w' hS' => Ev.nilCheck rfl) hs_7 ?_
          refine RP.ev rfl rfl rfl (fun w' hS' => Ev.fieldAddr fld206_0 rfl rfl) hs_7 ?_
          refine RP.ev rfl rfl rfl (fun w' hS' => Ev.idxArr arr203 rfl rfl (by omega)) hs_7 ?_
          refine RP.ev rfl rfl rfl (fun w' hS' => Ev.load scal108 rfl (hS'.tabF 2 rfl hf)) hs_7 ?_
          refine RP.ev rfl rfl rfl (fun w' hS' => Ev.subN rfl rfl rfl (by (try simp only [IntKind.bits]); omega) (by (try simp only [IntKind.bits]); omega)) hs_7 ?_
          refine RP.ev rfl rfl rfl (fun w' hS' => Ev.idxL (E := encN .i64) sl22 rfl rfl (hS'.rdRows 3 rfl hp) (hc_3.2)) hs_7 ?_
          refine RP.ev rfl rfl rfl (fun w' hS' => Ev.ldL (E := encN .i64) scal3 rfl (hS'.rdRows 3 rfl hp) hx (by decide) rfl) hs_7 ?_
          refine RP.ev rfl rfl rfl (fun w' hS' => Ev.assign rfl) hs_7 ?_
          refine RP.ev rfl rfl rfl (fun w' hS' => Ev.assign rfl) hs_7 ?_
          refine RP.fin ?_
          refine CW.ret ?_
          show PostK _ _ _ _ _ _
          refine post2 rfl rfl rfl ?_
          exact ⟨by rw [← hE]; rfl, by rw [← hE]; exact hs_7⟩
        · refine CW.skip ?_
          refine CW.region ?_
          refine RT.ev rfl rfl (Ev.move rfl) <| RT.ev rfl rfl (Ev.addI (b := 1) rfl rfl (by omega)) <| RT.ev rfl rfl (Ev.assign rfl) ?_
          refine RT.nil ?_
          exact ⟨(n + 1, (2 * u + rb by_ pos), (pos + 1)), ⟨rfl, rfl, rfl, rfl, trivial⟩, ⟨hs_6, by omega, by omega, by rw [if_neg hc_3] at hE; rw [show 17 - (n + 1) = 16 - n by omega]; exact hE, hle, by rw [Nat.pow_succ]; omega⟩, (show (17 - (n + 1)) < (17 - n) from by omega)⟩

end Go.Proofs.Ytfhbflhnelbkfaa
