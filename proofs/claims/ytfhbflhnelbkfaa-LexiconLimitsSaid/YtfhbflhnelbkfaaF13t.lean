/- The walks of the functions of F13t, printed by our own program (kwgen.py) out of our descriptions (base.py). -/
import Derived.Test.YtfhbflhnelbkfaaF13p
import Derived.Test.YtfhbflhnelbkfaaKi
import Derived.Test.YtfhbflhnelbkfaaTab
namespace Go.Proofs.Ytfhbflhnelbkfaa
open Go.RowKit Go.Kw
set_option maxRecDepth 100000
set_option linter.unusedVariables false
set_option linter.unusedSimpArgs false
def wdN (i : Nat) : ByteArray := Utf8.encode ((97 + i % 16 : Nat) : Int) ++ Utf8.encode ((97 + i / 2 ^ 4 % 16 : Nat) : Int) ++ Utf8.encode ((97 + i / 256 : Nat) : Int)
def wdC (s : ByteArray) : Nat := (s.data.toList.getD 0 0).toNat - 97 + 16 * ((s.data.toList.getD 1 0).toNat - 97) + 256 * ((s.data.toList.getD 2 0).toNat - 97)
def wgN (N i : Nat) : ByteArray := wdN (if N ≤ i then 0 else i)
def limL (N M : Nat) : List ByteArray := (List.range (N + M)).map (wgN N)
theorem wd_ok : ∀ i, i < 1026 → (wdN i).size = 3 ∧ validN (wdN i) = true ∧ wdC (wdN i) = i := by decide +kernel
theorem enc_size : ∀ c, c < 128 → (Utf8.encode ((c : Nat) : Int)).size = 1 := by decide +kernel
theorem enc2 {a b : Nat} (ha : a < 128) (hb : b < 128) : (Utf8.encode ((a : Nat) : Int)).size + (Utf8.encode ((b : Nat) : Int)).size ≤ 9223372036854775807 := by rw [enc_size a ha, enc_size b hb]; decide
theorem enc3 {a b c : Nat} (ha : a < 128) (hb : b < 128) (hc : c < 128) : (Utf8.encode ((a : Nat) : Int) ++ Utf8.encode ((b : Nat) : Int)).size + (Utf8.encode ((c : Nat) : Int)).size ≤ 9223372036854775807 := by rw [ByteArray.size_append, enc_size a ha, enc_size b hb, enc_size c hc]; decide
theorem chk_of {vs : List ByteArray} (h : ∀ v ∈ vs, v.size ≤ 120 ∧ validN v = true) : chkN vs = 0 := by
  induction vs with
  | nil => rfl
  | cons v r ih =>
    have h1 := h v (List.mem_cons_self ..)
    rw [chkN, if_neg (by omega), if_neg (by rw [h1.2]; decide)]
    exact ih fun x hx => h x (List.mem_cons_of_mem _ hx)
theorem lim_mem {N M : Nat} (hN : N ≤ 1025) {x : ByteArray} (h : x ∈ limL N M) : ∃ i, i < 1026 ∧ x = wdN i ∧ (0 < N → i < N) ∧ (N = 0 → i = 0) := by
  obtain ⟨j, hj, rfl⟩ := List.mem_map.1 h
  have hj' := List.mem_range.1 hj
  unfold wgN
  by_cases e : N ≤ j
  · exact ⟨0, by omega, by rw [if_pos e], by omega, by omega⟩
  · exact ⟨j, by omega, by rw [if_neg e], by omega, by omega⟩
theorem lim_chk {N M : Nat} (hN : N ≤ 1025) : chkN (limL N M) = 0 := chk_of fun v hv => by
  obtain ⟨i, hi, rfl, _⟩ := lim_mem hN hv
  have := wd_ok i hi
  exact ⟨by omega, this.2.1⟩
theorem lim_len (N M : Nat) : (limL N M).length = N + M := by simp [limL]
theorem lim_words {N M : Nat} (hN : N ≤ 1025) : (wordsN (limL N M)).length = if 0 < N then N else if 0 < M then 1 else 0 := by
  by_cases h0 : 0 < N
  · rw [if_pos h0, ← words_len (K := (List.range N).map wdN)]
    · simp
    · rw [List.Nodup, List.pairwise_map]
      refine List.Pairwise.imp_of_mem (fun {a b} ha hb hne e => hne ?_) List.nodup_range
      have h1 := (wd_ok a (by have := List.mem_range.1 ha; omega)).2.2
      have h2 := (wd_ok b (by have := List.mem_range.1 hb; omega)).2.2
      rw [← h1, ← h2, e]
    · intro x
      constructor
      · intro hx
        obtain ⟨i, hi, rfl⟩ := List.mem_map.1 hx
        have hi' := List.mem_range.1 hi
        exact List.mem_map.2 ⟨i, List.mem_range.2 (by omega), by unfold wgN; rw [if_neg (by omega)]⟩
      · intro hx
        obtain ⟨i, _, rfl, hlt, _⟩ := lim_mem hN hx
        exact List.mem_map.2 ⟨i, List.mem_range.2 (hlt h0), rfl⟩
  · rw [if_neg h0]
    have hz : N = 0 := by omega
    subst hz
    by_cases hm : 0 < M
    · rw [if_pos hm, ← words_len (K := [wdN 0])]
      · rfl
      · simp
      · intro x
        constructor
        · intro hx
          rw [List.mem_singleton.1 hx]
          exact List.mem_map.2 ⟨0, List.mem_range.2 (by omega), rfl⟩
        · intro hx
          obtain ⟨i, _, rfl, _, hz⟩ := lim_mem hN hx
          rw [hz rfl]; exact List.mem_singleton.2 rfl
    · rw [if_neg hm]
      have : M = 0 := by omega
      subst this; rfl
theorem lim_err {N M : Nat} (hN : N ≤ 1025) (h : 4096 < N + M ∨ (¬ 4096 < N + M ∧ 1024 < N)) : bldE (limL N M) = 2 := by
  unfold bldE
  rw [lim_len, lim_chk hN, lim_words hN]
  rcases h with h | ⟨h, h1⟩
  · rw [if_pos h]
  · rw [if_neg h, if_neg (by decide), if_pos (by omega : 0 < N), if_pos h1]
theorem lim_good {N M : Nat} (hN : N ≤ 1025) (h : ¬ 4096 < N + M) (h1 : ¬ 1024 < N) : bldE (limL N M) = 0 := by
  unfold bldE
  rw [lim_len, lim_chk hN, lim_words hN, if_neg h, if_neg (by decide), if_neg]
  split
  · exact h1
  · split <;> decide

theorem lexiconLimits_ok (n m : Int) (w : World) :
    CallsV Try.prog 9 [(Value.int .i64 (n)), (Value.int .i64 (m))] w fun r w' => r = .bool true ∧ Sat w [] w' := by
  have hs0 := Sat.start w
  refine callsV_of Try.func9 rfl rfl ?_
  refine CW.seq ?_
  refine CW.region ?_
  refine RT.ev rfl rfl (Ev.assign rfl) ?_
  refine RT.nil ?_
  refine CW.seq ?_
  refine CW.seq ?_
  refine CW.mid (fun L' w' => Weak [(0, (Value.int .i64 (n))), (1, (Value.int .i64 (m))), (4, (Value.bool false)), (30, (Value.bool (decide ((((((n : Int) < (0 : Int)) ∨ ((1025 : Int) < (n : Int))) ∨ ((m : Int) < (0 : Int))) ∨ ((4097 : Int) < (m : Int))) ∨ ((4097 : Int) < ((n + m) : Int))))))] L' ∧ Sat w [] w') ?_ ?_
  · refine CW.region ?_
    refine RT.ev rfl rfl (Ev.move rfl) ?_
    refine RT.ev rfl rfl (Ev.lss rfl rfl) ?_
    refine RT.ev rfl rfl (Ev.move rfl) ?_
    by_cases hg_1 : (n : Int) < (0 : Int)
    · refine RT.no rfl rfl rfl (decide_eq_true hg_1) rfl ?_
      refine RT.no rfl rfl rfl (decide_eq_true hg_1) rfl ?_
      refine RT.ev rfl rfl (Ev.pickY rfl (decide_eq_true hg_1) rfl) ?_
      refine RT.ev rfl rfl (Ev.move rfl) ?_
      refine RT.no rfl rfl rfl (rfl) rfl ?_
      refine RT.no rfl rfl rfl (rfl) rfl ?_
      refine RT.ev rfl rfl (Ev.pickY rfl (rfl) rfl) ?_
      refine RT.ev rfl rfl (Ev.move rfl) ?_
      refine RT.no rfl rfl rfl (rfl) rfl ?_
      refine RT.no rfl rfl rfl (rfl) rfl ?_
      refine RT.ev rfl rfl (Ev.pickY rfl (rfl) rfl) ?_
      refine RT.ev rfl rfl (Ev.move rfl) ?_
      refine RT.no rfl rfl rfl (rfl) rfl ?_
      refine RT.no rfl rfl rfl (rfl) rfl ?_
      refine RT.no rfl rfl rfl (rfl) rfl ?_
      refine RT.no rfl rfl rfl (rfl) rfl ?_
      refine RT.ev rfl rfl (Ev.pickY rfl (rfl) rfl) ?_
      refine RT.nil ?_
      exact ⟨⟨rfl, rfl, rfl, congrArg some (congrArg Value.bool (by simp [hg_1])), trivial⟩, hs0⟩
    · refine RT.yes rfl rfl rfl (decide_eq_false hg_1) ?_
      refine RT.ev rfl rfl (Ev.move rfl) ?_
      refine RT.yes rfl rfl rfl (decide_eq_false hg_1) ?_
      refine RT.ev rfl rfl (Ev.gtr rfl rfl) ?_
      refine RT.ev rfl rfl (Ev.pickN rfl (decide_eq_false hg_1) rfl) ?_
      refine RT.ev rfl rfl (Ev.move rfl) ?_
      by_cases hg_2 : (1025 : Int) < (n : Int)
      · refine RT.no rfl rfl rfl (decide_eq_true hg_2) rfl ?_
        refine RT.no rfl rfl rfl (decide_eq_true hg_2) rfl ?_
        refine RT.ev rfl rfl (Ev.pickY rfl (decide_eq_true hg_2) rfl) ?_
        refine RT.ev rfl rfl (Ev.move rfl) ?_
        refine RT.no rfl rfl rfl (rfl) rfl ?_
        refine RT.no rfl rfl rfl (rfl) rfl ?_
        refine RT.ev rfl rfl (Ev.pickY rfl (rfl) rfl) ?_
        refine RT.ev rfl rfl (Ev.move rfl) ?_
        refine RT.no rfl rfl rfl (rfl) rfl ?_
        refine RT.no rfl rfl rfl (rfl) rfl ?_
        refine RT.no rfl rfl rfl (rfl) rfl ?_
        refine RT.no rfl rfl rfl (rfl) rfl ?_
        refine RT.ev rfl rfl (Ev.pickY rfl (rfl) rfl) ?_
        refine RT.nil ?_
        exact ⟨⟨rfl, rfl, rfl, congrArg some (congrArg Value.bool (by simp [hg_1, hg_2])), trivial⟩, hs0⟩
      · refine RT.yes rfl rfl rfl (decide_eq_false hg_2) ?_
        refine RT.ev rfl rfl (Ev.move rfl) ?_
        refine RT.yes rfl rfl rfl (decide_eq_false hg_2) ?_
        refine RT.ev rfl rfl (Ev.lss rfl rfl) ?_
        refine RT.ev rfl rfl (Ev.pickN rfl (decide_eq_false hg_2) rfl) ?_
        refine RT.ev rfl rfl (Ev.move rfl) ?_
        by_cases hg_3 : (m : Int) < (0 : Int)
        · refine RT.no rfl rfl rfl (decide_eq_true hg_3) rfl ?_
          refine RT.no rfl rfl rfl (decide_eq_true hg_3) rfl ?_
          refine RT.ev rfl rfl (Ev.pickY rfl (decide_eq_true hg_3) rfl) ?_
          refine RT.ev rfl rfl (Ev.move rfl) ?_
          refine RT.no rfl rfl rfl (rfl) rfl ?_
          refine RT.no rfl rfl rfl (rfl) rfl ?_
          refine RT.no rfl rfl rfl (rfl) rfl ?_
          refine RT.no rfl rfl rfl (rfl) rfl ?_
          refine RT.ev rfl rfl (Ev.pickY rfl (rfl) rfl) ?_
          refine RT.nil ?_
          exact ⟨⟨rfl, rfl, rfl, congrArg some (congrArg Value.bool (by simp [hg_1, hg_2, hg_3])), trivial⟩, hs0⟩
        · refine RT.yes rfl rfl rfl (decide_eq_false hg_3) ?_
          refine RT.ev rfl rfl (Ev.move rfl) ?_
          refine RT.yes rfl rfl rfl (decide_eq_false hg_3) ?_
          refine RT.ev rfl rfl (Ev.gtr rfl rfl) ?_
          refine RT.ev rfl rfl (Ev.pickN rfl (decide_eq_false hg_3) rfl) ?_
          refine RT.ev rfl rfl (Ev.move rfl) ?_
          by_cases hg_4 : (4097 : Int) < (m : Int)
          · refine RT.no rfl rfl rfl (decide_eq_true hg_4) rfl ?_
            refine RT.no rfl rfl rfl (decide_eq_true hg_4) rfl ?_
            refine RT.no rfl rfl rfl (decide_eq_true hg_4) rfl ?_
            refine RT.no rfl rfl rfl (decide_eq_true hg_4) rfl ?_
            refine RT.ev rfl rfl (Ev.pickY rfl (decide_eq_true hg_4) rfl) ?_
            refine RT.nil ?_
            exact ⟨⟨rfl, rfl, rfl, congrArg some (congrArg Value.bool (by simp [hg_1, hg_2, hg_3, hg_4])), trivial⟩, hs0⟩
          · refine RT.yes rfl rfl rfl (decide_eq_false hg_4) ?_
            refine RT.ev rfl rfl (Ev.move rfl) ?_
            refine RT.yes rfl rfl rfl (decide_eq_false hg_4) ?_
            refine RT.ev rfl rfl (Ev.move rfl) ?_
            refine RT.yes rfl rfl rfl (decide_eq_false hg_4) ?_
            refine RT.ev rfl rfl (Ev.add rfl rfl (by unfold inI64; omega)) ?_
            refine RT.yes rfl rfl rfl (decide_eq_false hg_4) ?_
            refine RT.ev rfl rfl (Ev.gtr rfl rfl) ?_
            refine RT.ev rfl rfl (Ev.pickN rfl (decide_eq_false hg_4) rfl) ?_
            refine RT.nil ?_
            exact ⟨⟨rfl, rfl, rfl, congrArg some (congrArg Value.bool (by simp [hg_1, hg_2, hg_3, hg_4])), trivial⟩, hs0⟩
  · rintro L' w_1 ⟨hw_1, hs_1⟩
    refine CW.weaken _ hw_1 ?_
    refine CW.condD rfl (fun hc_1 => ?_) (fun hc_1 => ?_)
    · refine CW.seq ?_
      refine CW.region ?_
      refine RT.ev rfl rfl (Ev.assign rfl) ?_
      refine RT.nil ?_
      refine CW.ret ?_
      show PostK _ _ _ _ _ _
      refine post1 rfl rfl ?_
      have hs_2 : Sat w [] w_1 := hs_1.sub (.slnil)
      exact ⟨rfl, hs_2⟩
    · refine CW.skip ?_
      refine CW.seq ?_
      obtain ⟨N, rfl⟩ : ∃ N : Nat, n = N := ⟨n.toNat, by omega⟩
      obtain ⟨M, rfl⟩ : ∃ M : Nat, m = M := ⟨m.toNat, by omega⟩
      have hN : N ≤ 1025 := by omega
      have hNM : N + M ≤ 4097 := by omega
      refine CW.region ?_
      refine RT.ev rfl rfl (Ev.assign rfl) ?_
      refine RT.nil ?_
      refine CW.seq ?_
      refine CW.seq ?_
      have hs_3 : Sat w [cL (Value.slice none 0 0) 9 (encTx) ([])] _ := hs_1.newNilL 9 (encTx)
      have hs_4 : Sat w [cL (Value.slice none 0 0) 9 (encTx) ((List.range 0).map (wgN N))] w_1 := hs_3.reL 0 rfl (show [] = (List.range 0).map (wgN N) from rfl)
      refine CW.region ?_
      refine RT.ev rfl rfl (Ev.assign rfl) ?_
      refine RT.nil ?_
      refine CW.block ?_
      refine CW.loop (α := Nat × Value) (fun (k, v) => [(0, (Value.int .i64 ((N : Nat) : Int))), (1, (Value.int .i64 ((M : Nat) : Int))), (5, v), (6, (Value.int .i64 ((k : Nat) : Int)))]) (fun (k, v) w' => Sat w [cL v 9 (encTx) ((List.range k).map (wgN N))] w' ∧ (k ≤ N + M)) (fun (k, v) => N + M - k) (0, (Value.slice none 0 0)) ⟨rfl, rfl, rfl, rfl, trivial⟩ ⟨hs_4, Nat.zero_le _⟩ ?_
      rintro ⟨k, v⟩ w_2 ⟨hs_5, hk⟩
      show CW _ _ _ _ [(0, (Value.int .i64 ((N : Nat) : Int))), (1, (Value.int .i64 ((M : Nat) : Int))), (5, v), (6, (Value.int .i64 ((k : Nat) : Int)))] _
      refine CW.seq ?_
      refine CW.seq ?_
      refine CW.region ?_
      refine RT.ev rfl rfl (Ev.move rfl) ?_
      refine RT.ev rfl rfl (Ev.move rfl) ?_
      refine RT.ev rfl rfl (Ev.move rfl) ?_
      refine RT.ev rfl rfl (Ev.addI rfl rfl (by omega)) ?_
      refine RT.ev rfl rfl (Ev.lssN rfl rfl) ?_
      refine RT.nil ?_
      refine CW.condD rfl (fun hc_2 => ?_) (fun hc_2 => ?_)
      · refine CW.skip ?_
        refine CW.seq ?_
        refine CW.block ?_
        refine CW.seq ?_
        refine CW.region ?_
        refine RT.ev rfl rfl (Ev.move rfl) ?_
        refine RT.ev rfl rfl (Ev.assign rfl) ?_
        refine RT.nil ?_
        refine CW.seq ?_
        refine CW.seq ?_
        refine CW.region ?_
        refine RT.ev rfl rfl (Ev.move rfl) ?_
        refine RT.ev rfl rfl (Ev.move rfl) ?_
        refine RT.ev rfl rfl (Ev.geqN rfl rfl) ?_
        refine RT.nil ?_
        refine CW.condD rfl (fun hc_3 => ?_) (fun hc_3 => ?_)
        · refine CW.region ?_
          refine RT.ev rfl rfl (Ev.assign rfl) ?_
          refine RT.nil ?_
          refine CW.region ?_
          refine RT.ev rfl rfl (Ev.move rfl) ?_
          refine RT.ev rfl rfl (Ev.move rfl) ?_
          refine RT.ev rfl rfl (Ev.rem (a := 0) (b := 16) rfl rfl (by omega)) ?_
          refine RT.ev rfl rfl (Ev.addI (a := 97) rfl rfl (by omega)) ?_
          refine RT.ev rfl rfl (Ev.convK (by rw [Try.underlying3]; rfl) Try.underlying21 rfl (wrap_i32 (by omega))) ?_
          refine RT.ev rfl rfl (Ev.convStr (a := (((97 + (0 % 16)) : Nat) : Int)) (by rw [Try.underlying21]; rfl) Try.underlying9 rfl) ?_
          refine RT.ev rfl rfl (Ev.move rfl) ?_
          refine RT.ev rfl rfl (Ev.quo (a := 0) (b := 16) rfl rfl (by omega) (by unfold inI64; omega)) ?_
          refine RT.ev rfl rfl (Ev.rem (b := 16) rfl rfl (by omega)) ?_
          refine RT.ev rfl rfl (Ev.addI (a := 97) rfl rfl (by omega)) ?_
          refine RT.ev rfl rfl (Ev.convK (by rw [Try.underlying3]; rfl) Try.underlying21 rfl (wrap_i32 (by omega))) ?_
          refine RT.ev rfl rfl (Ev.convStr (a := (((97 + ((0 / 16) % 16)) : Nat) : Int)) (by rw [Try.underlying21]; rfl) Try.underlying9 rfl) ?_
          refine RT.ev rfl rfl (Ev.strAdd rfl rfl (enc2 (by omega) (by omega))) ?_
          refine RT.ev rfl rfl (Ev.move rfl) ?_
          refine RT.ev rfl rfl (Ev.quo (a := 0) (b := 256) rfl rfl (by omega) (by unfold inI64; omega)) ?_
          refine RT.ev rfl rfl (Ev.addI (a := 97) rfl rfl (by omega)) ?_
          refine RT.ev rfl rfl (Ev.convK (by rw [Try.underlying3]; rfl) Try.underlying21 rfl (wrap_i32 (by omega))) ?_
          refine RT.ev rfl rfl (Ev.convStr (a := (((97 + (0 / 256)) : Nat) : Int)) (by rw [Try.underlying21]; rfl) Try.underlying9 rfl) ?_
          refine RT.ev rfl rfl (Ev.strAdd rfl rfl (enc3 (by omega) (by omega) (by omega))) ?_
          refine RT.eff rfl rfl (OpE.lit1 (encTx) (((Utf8.encode (((97 + (0 % 16)) : Nat) : Int)) ++ (Utf8.encode (((97 + ((0 / 16) % 16)) : Nat) : Int))) ++ (Utf8.encode (((97 + (0 / 256)) : Nat) : Int))) sl45 rfl hs_5 rfl fun v_1 w_3 hs_6 hch_1 => ?_)
          have hs_6d : Sat w [cL v 9 (encTx) ((List.range k).map (wgN N)), cL v_1 9 (encTx) ([(((Utf8.encode (((97 + (0 % 16)) : Nat) : Int)) ++ (Utf8.encode (((97 + ((0 / 16) % 16)) : Nat) : Int))) ++ (Utf8.encode (((97 + (0 / 256)) : Nat) : Int)))])] _ := hs_6
          refine RT.eff rfl rfl (OpE.appendL 0 sl45 hs_6d rfl rfl rfl Try.underlying45 (hs_6d.rdL 1 rfl) (by simp only [List.length_append, List.length_map, List.length_range, List.length_cons, List.length_nil]; omega) (by simp only [List.length_append, List.length_map, List.length_range, List.length_cons, List.length_nil]; omega) fun v_2 w_4 hs_7 hch_2 => ?_)
          have hs_7d : Sat w [cL v_2 9 (encTx) ((List.range k).map (wgN N) ++ [(((Utf8.encode (((97 + (0 % 16)) : Nat) : Int)) ++ (Utf8.encode (((97 + ((0 / 16) % 16)) : Nat) : Int))) ++ (Utf8.encode (((97 + (0 / 256)) : Nat) : Int)))])] _ := hs_7.drop 1
          refine RT.ev rfl rfl (Ev.assign rfl) ?_
          refine RT.nil ?_
          refine CW.region ?_
          refine RT.ev rfl rfl (Ev.move rfl) ?_
          refine RT.ev rfl rfl (Ev.addI (b := 1) rfl rfl (by omega)) ?_
          refine RT.ev rfl rfl (Ev.assign rfl) ?_
          refine RT.nil ?_
          have hs_8 : Sat w [cL v_2 9 (encTx) ((List.range (k + 1)).map (wgN N))] w_4 := hs_7d.reL 0 rfl (show (List.range k).map (wgN N) ++ [(((Utf8.encode (((97 + (0 % 16)) : Nat) : Int)) ++ (Utf8.encode (((97 + ((0 / 16) % 16)) : Nat) : Int))) ++ (Utf8.encode (((97 + (0 / 256)) : Nat) : Int)))] = (List.range (k + 1)).map (wgN N) from by rw [List.range_succ, List.map_append]; simp only [List.map_cons, List.map_nil]; unfold wgN wdN; rw [if_pos hc_3])
          exact ⟨(k + 1, v_2), ⟨rfl, rfl, rfl, rfl, trivial⟩, ⟨hs_8, by omega⟩, (show (N + M - (k + 1)) < (N + M - k) from by omega)⟩
        · refine CW.skip ?_
          refine CW.region ?_
          refine RT.ev rfl rfl (Ev.move rfl) ?_
          refine RT.ev rfl rfl (Ev.move rfl) ?_
          refine RT.ev rfl rfl (Ev.rem (b := 16) rfl rfl (by omega)) ?_
          refine RT.ev rfl rfl (Ev.addI (a := 97) rfl rfl (by omega)) ?_
          refine RT.ev rfl rfl (Ev.convK (by rw [Try.underlying3]; rfl) Try.underlying21 rfl (wrap_i32 (by omega))) ?_
          refine RT.ev rfl rfl (Ev.convStr (a := (((97 + (k % 16)) : Nat) : Int)) (by rw [Try.underlying21]; rfl) Try.underlying9 rfl) ?_
          refine RT.ev rfl rfl (Ev.move rfl) ?_
          refine RT.ev rfl rfl (Ev.quo (b := 16) rfl rfl (by omega) (by unfold inI64; omega)) ?_
          refine RT.ev rfl rfl (Ev.rem (b := 16) rfl rfl (by omega)) ?_
          refine RT.ev rfl rfl (Ev.addI (a := 97) rfl rfl (by omega)) ?_
          refine RT.ev rfl rfl (Ev.convK (by rw [Try.underlying3]; rfl) Try.underlying21 rfl (wrap_i32 (by omega))) ?_
          refine RT.ev rfl rfl (Ev.convStr (a := (((97 + ((k / 16) % 16)) : Nat) : Int)) (by rw [Try.underlying21]; rfl) Try.underlying9 rfl) ?_
          refine RT.ev rfl rfl (Ev.strAdd rfl rfl (enc2 (by omega) (by omega))) ?_
          refine RT.ev rfl rfl (Ev.move rfl) ?_
          refine RT.ev rfl rfl (Ev.quo (b := 256) rfl rfl (by omega) (by unfold inI64; omega)) ?_
          refine RT.ev rfl rfl (Ev.addI (a := 97) rfl rfl (by omega)) ?_
          refine RT.ev rfl rfl (Ev.convK (by rw [Try.underlying3]; rfl) Try.underlying21 rfl (wrap_i32 (by omega))) ?_
          refine RT.ev rfl rfl (Ev.convStr (a := (((97 + (k / 256)) : Nat) : Int)) (by rw [Try.underlying21]; rfl) Try.underlying9 rfl) ?_
          refine RT.ev rfl rfl (Ev.strAdd rfl rfl (enc3 (by omega) (by omega) (by omega))) ?_
          refine RT.eff rfl rfl (OpE.lit1 (encTx) (((Utf8.encode (((97 + (k % 16)) : Nat) : Int)) ++ (Utf8.encode (((97 + ((k / 16) % 16)) : Nat) : Int))) ++ (Utf8.encode (((97 + (k / 256)) : Nat) : Int))) sl45 rfl hs_5 rfl fun v_3 w_5 hs_9 hch_3 => ?_)
          have hs_9d : Sat w [cL v 9 (encTx) ((List.range k).map (wgN N)), cL v_3 9 (encTx) ([(((Utf8.encode (((97 + (k % 16)) : Nat) : Int)) ++ (Utf8.encode (((97 + ((k / 16) % 16)) : Nat) : Int))) ++ (Utf8.encode (((97 + (k / 256)) : Nat) : Int)))])] _ := hs_9
          refine RT.eff rfl rfl (OpE.appendL 0 sl45 hs_9d rfl rfl rfl Try.underlying45 (hs_9d.rdL 1 rfl) (by simp only [List.length_append, List.length_map, List.length_range, List.length_cons, List.length_nil]; omega) (by simp only [List.length_append, List.length_map, List.length_range, List.length_cons, List.length_nil]; omega) fun v_4 w_6 hs_10 hch_4 => ?_)
          have hs_10d : Sat w [cL v_4 9 (encTx) ((List.range k).map (wgN N) ++ [(((Utf8.encode (((97 + (k % 16)) : Nat) : Int)) ++ (Utf8.encode (((97 + ((k / 16) % 16)) : Nat) : Int))) ++ (Utf8.encode (((97 + (k / 256)) : Nat) : Int)))])] _ := hs_10.drop 1
          refine RT.ev rfl rfl (Ev.assign rfl) ?_
          refine RT.nil ?_
          refine CW.region ?_
          refine RT.ev rfl rfl (Ev.move rfl) ?_
          refine RT.ev rfl rfl (Ev.addI (b := 1) rfl rfl (by omega)) ?_
          refine RT.ev rfl rfl (Ev.assign rfl) ?_
          refine RT.nil ?_
          have hs_11 : Sat w [cL v_4 9 (encTx) ((List.range (k + 1)).map (wgN N))] w_6 := hs_10d.reL 0 rfl (show (List.range k).map (wgN N) ++ [(((Utf8.encode (((97 + (k % 16)) : Nat) : Int)) ++ (Utf8.encode (((97 + ((k / 16) % 16)) : Nat) : Int))) ++ (Utf8.encode (((97 + (k / 256)) : Nat) : Int)))] = (List.range (k + 1)).map (wgN N) from by rw [List.range_succ, List.map_append]; simp only [List.map_cons, List.map_nil]; unfold wgN wdN; rw [if_neg hc_3])
          exact ⟨(k + 1, v_4), ⟨rfl, rfl, rfl, rfl, trivial⟩, ⟨hs_11, by omega⟩, (show (N + M - (k + 1)) < (N + M - k) from by omega)⟩
      · refine CW.exit0 ?_
        refine CW.seq ?_
        have hs_12 : Sat w [cL v 9 (encTx) (limL N M)] w_2 := hs_5.reL 0 rfl (show (List.range k).map (wgN N) = limL N M from by rw [show k = N + M by omega]; rfl)
        rcases (show 4096 < N + M ∨ (¬ 4096 < N + M ∧ 1024 < N) ∨ (¬ 4096 < N + M ∧ ¬ 1024 < N ∧ N = 0 ∧ 0 < M) ∨ (¬ 4096 < N + M ∧ ¬ 1024 < N ∧ ¬ (N = 0 ∧ 0 < M)) by omega) with hlw | hlw | hlw | hlw
        · have hb2 := lim_err hN (.inl hlw)
          have he : bldE (limL N M) ≠ 0 := by rw [hb2]; decide
          refine CW.region ?_
          refine RT.ev rfl rfl (Ev.move rfl) ?_
          refine RT.eff rfl rfl (OpE.call ent32 rfl ((lbuild_err (hs_12.rdL 0 rfl) he).mono fun r_1 w_7 h_1 => ?_))
          obtain ⟨rfl, hp_1⟩ := h_1
          have hs_13 : Sat w [cL v 9 (encTx) (limL N M)] _ := hs_12.adds hp_1
          refine RT.ev rfl rfl (Ev.move rfl) ?_
          refine RT.ev rfl rfl (Ev.extract rfl rfl) ?_
          refine RT.ev rfl rfl (Ev.extract rfl rfl) ?_
          refine RT.ev rfl rfl (Ev.extract rfl rfl) ?_
          refine RT.ev rfl rfl (Ev.assign rfl) ?_
          refine RT.ev rfl rfl (Ev.assign rfl) ?_
          refine RT.ev rfl rfl (Ev.assign rfl) ?_
          refine RT.nil ?_
          refine CW.seq ?_
          refine CW.seq ?_
          refine CW.region ?_
          refine RT.ev rfl rfl (Ev.move rfl) ?_
          refine RT.ev rfl rfl (Ev.lenL Try.underlying45 rfl (hs_13.rdL 0 rfl)) ?_
          refine RT.ev rfl rfl (Ev.gtrN (b := 4096) rfl rfl) ?_
          refine RT.ev rfl rfl (Ev.move rfl) ?_
          refine RT.no rfl rfl rfl (decide_eq_true (by rw [lim_len]; exact hlw)) rfl ?_
          refine RT.no rfl rfl rfl (decide_eq_true (by rw [lim_len]; exact hlw)) rfl ?_
          refine RT.ev rfl rfl (Ev.pickY rfl (decide_eq_true (by rw [lim_len]; exact hlw)) rfl) ?_
          refine RT.nil ?_
          refine CW.condT rfl (rfl) ?_
          refine CW.seq ?_
          refine CW.region ?_
          refine RT.ev rfl rfl (Ev.move rfl) ?_
          refine RT.ev rfl rfl (Ev.eqlN (b := 2) rfl rfl) ?_
          refine RT.ev rfl rfl (Ev.move rfl) ?_
          refine RT.yes rfl rfl rfl (decide_eq_true (hb2)) ?_
          refine RT.ev rfl rfl (Ev.move rfl) ?_
          refine RT.yes rfl rfl rfl (decide_eq_true (hb2)) ?_
          refine RT.ev rfl rfl (Ev.eqlPt Try.underlying46 rfl rfl) ?_
          refine RT.ev rfl rfl (Ev.pickY rfl (decide_eq_true (hb2)) rfl) ?_
          refine RT.ev rfl rfl (Ev.move rfl) ?_
          refine RT.yes rfl rfl rfl (rfl) ?_
          refine RT.ev rfl rfl (Ev.move rfl) ?_
          refine RT.yes rfl rfl rfl (rfl) ?_
          refine RT.ev rfl rfl (Ev.lenL (l := ([] : List Nat)) (E := encN .u8) Try.underlying22 rfl (RdL.nil _ _)) ?_
          refine RT.yes rfl rfl rfl (rfl) ?_
          refine RT.ev rfl rfl (Ev.eqlN (a := 0) (b := 0) rfl rfl) ?_
          refine RT.ev rfl rfl (Ev.pickY rfl (rfl) rfl) ?_
          refine RT.ev rfl rfl (Ev.move rfl) ?_
          refine RT.yes rfl rfl rfl (rfl) ?_
          refine RT.eff rfl rfl (OpE.call ent33 rfl ((lawake_ok _).mono fun r_2 w_8 h_2 => ?_))
          obtain ⟨rfl, hp_2⟩ := h_2
          have hs_14 : Sat w [cL v 9 (encTx) (limL N M)] _ := hs_13.adds hp_2
          refine RT.ev rfl rfl (Ev.pickY rfl (rfl) rfl) ?_
          refine RT.ev rfl rfl (Ev.assign rfl) ?_
          refine RT.nil ?_
          refine CW.ret ?_
          show PostK _ _ _ _ _ _
          refine post1 rfl rfl ?_
          have hs_15 : Sat w [] w_8 := hs_14.sub ((.cons _ .slnil))
          exact ⟨rfl, hs_15⟩
        · have hb2 := lim_err hN (.inr hlw)
          have he : bldE (limL N M) ≠ 0 := by rw [hb2]; decide
          refine CW.region ?_
          refine RT.ev rfl rfl (Ev.move rfl) ?_
          refine RT.eff rfl rfl (OpE.call ent32 rfl ((lbuild_err (hs_12.rdL 0 rfl) he).mono fun r_3 w_9 h_3 => ?_))
          obtain ⟨rfl, hp_3⟩ := h_3
          have hs_16 : Sat w [cL v 9 (encTx) (limL N M)] _ := hs_12.adds hp_3
          refine RT.ev rfl rfl (Ev.move rfl) ?_
          refine RT.ev rfl rfl (Ev.extract rfl rfl) ?_
          refine RT.ev rfl rfl (Ev.extract rfl rfl) ?_
          refine RT.ev rfl rfl (Ev.extract rfl rfl) ?_
          refine RT.ev rfl rfl (Ev.assign rfl) ?_
          refine RT.ev rfl rfl (Ev.assign rfl) ?_
          refine RT.ev rfl rfl (Ev.assign rfl) ?_
          refine RT.nil ?_
          refine CW.seq ?_
          refine CW.seq ?_
          refine CW.region ?_
          refine RT.ev rfl rfl (Ev.move rfl) ?_
          refine RT.ev rfl rfl (Ev.lenL Try.underlying45 rfl (hs_16.rdL 0 rfl)) ?_
          refine RT.ev rfl rfl (Ev.gtrN (b := 4096) rfl rfl) ?_
          refine RT.ev rfl rfl (Ev.move rfl) ?_
          refine RT.yes rfl rfl rfl (decide_eq_false (by rw [lim_len]; omega)) ?_
          refine RT.ev rfl rfl (Ev.move rfl) ?_
          refine RT.yes rfl rfl rfl (decide_eq_false (by rw [lim_len]; omega)) ?_
          refine RT.ev rfl rfl (Ev.gtrN (b := 1024) rfl rfl) ?_
          refine RT.ev rfl rfl (Ev.pickN rfl (decide_eq_false (by rw [lim_len]; omega)) rfl) ?_
          refine RT.nil ?_
          refine CW.condT rfl (decide_eq_true (hlw.2)) ?_
          refine CW.seq ?_
          refine CW.region ?_
          refine RT.ev rfl rfl (Ev.move rfl) ?_
          refine RT.ev rfl rfl (Ev.eqlN (b := 2) rfl rfl) ?_
          refine RT.ev rfl rfl (Ev.move rfl) ?_
          refine RT.yes rfl rfl rfl (decide_eq_true (hb2)) ?_
          refine RT.ev rfl rfl (Ev.move rfl) ?_
          refine RT.yes rfl rfl rfl (decide_eq_true (hb2)) ?_
          refine RT.ev rfl rfl (Ev.eqlPt Try.underlying46 rfl rfl) ?_
          refine RT.ev rfl rfl (Ev.pickY rfl (decide_eq_true (hb2)) rfl) ?_
          refine RT.ev rfl rfl (Ev.move rfl) ?_
          refine RT.yes rfl rfl rfl (rfl) ?_
          refine RT.ev rfl rfl (Ev.move rfl) ?_
          refine RT.yes rfl rfl rfl (rfl) ?_
          refine RT.ev rfl rfl (Ev.lenL (l := ([] : List Nat)) (E := encN .u8) Try.underlying22 rfl (RdL.nil _ _)) ?_
          refine RT.yes rfl rfl rfl (rfl) ?_
          refine RT.ev rfl rfl (Ev.eqlN (a := 0) (b := 0) rfl rfl) ?_
          refine RT.ev rfl rfl (Ev.pickY rfl (rfl) rfl) ?_
          refine RT.ev rfl rfl (Ev.move rfl) ?_
          refine RT.yes rfl rfl rfl (rfl) ?_
          refine RT.eff rfl rfl (OpE.call ent33 rfl ((lawake_ok _).mono fun r_4 w_10 h_4 => ?_))
          obtain ⟨rfl, hp_4⟩ := h_4
          have hs_17 : Sat w [cL v 9 (encTx) (limL N M)] _ := hs_16.adds hp_4
          refine RT.ev rfl rfl (Ev.pickY rfl (rfl) rfl) ?_
          refine RT.ev rfl rfl (Ev.assign rfl) ?_
          refine RT.nil ?_
          refine CW.ret ?_
          show PostK _ _ _ _ _ _
          refine post1 rfl rfl ?_
          have hs_18 : Sat w [] w_10 := hs_17.sub ((.cons _ .slnil))
          exact ⟨rfl, hs_18⟩
        · have he := lim_good hN hlw.1 hlw.2.1
          have hwl := lim_words (M := M) hN
          rw [if_neg (by omega), if_pos (by omega)] at hwl
          refine CW.region ?_
          refine RT.ev rfl rfl (Ev.move rfl) ?_
          refine RT.eff rfl rfl (OpE.call ent32 rfl ((lbuild_good (hs_12.rdL 0 rfl) he).mono fun r_5 w_11 h_5 => ?_))
          obtain ⟨lg_1, lvw_1, lvc_1, lvo_1, lvn_1, rfl, hp_5⟩ := h_5
          have hs_19 : Sat w [cL v 9 (encTx) (limL N M), cObj lg_1 92 [lvw_1, lvc_1, lvo_1], cL lvw_1 9 (encTx) (wordsN (limL N M)), cL lvc_1 3 (encN .i64) (countsN (limL N M)), cL lvo_1 3 (encN .i64) (ordN (wordsN (limL N M))), cL lvn_1 3 (encN .i64) ((limL N M).map (lbW (wordsN (limL N M))))] _ := hs_12.adds hp_5
          refine RT.ev rfl rfl (Ev.move rfl) ?_
          refine RT.ev rfl rfl (Ev.extract rfl rfl) ?_
          refine RT.ev rfl rfl (Ev.extract rfl rfl) ?_
          refine RT.ev rfl rfl (Ev.extract rfl rfl) ?_
          refine RT.ev rfl rfl (Ev.assign rfl) ?_
          refine RT.ev rfl rfl (Ev.assign rfl) ?_
          refine RT.ev rfl rfl (Ev.assign rfl) ?_
          refine RT.nil ?_
          refine CW.seq ?_
          refine CW.seq ?_
          refine CW.region ?_
          refine RT.ev rfl rfl (Ev.move rfl) ?_
          refine RT.ev rfl rfl (Ev.lenL Try.underlying45 rfl (hs_19.rdL 0 rfl)) ?_
          refine RT.ev rfl rfl (Ev.gtrN (b := 4096) rfl rfl) ?_
          refine RT.ev rfl rfl (Ev.move rfl) ?_
          refine RT.yes rfl rfl rfl (decide_eq_false (by rw [lim_len]; omega)) ?_
          refine RT.ev rfl rfl (Ev.move rfl) ?_
          refine RT.yes rfl rfl rfl (decide_eq_false (by rw [lim_len]; omega)) ?_
          refine RT.ev rfl rfl (Ev.gtrN (b := 1024) rfl rfl) ?_
          refine RT.ev rfl rfl (Ev.pickN rfl (decide_eq_false (by rw [lim_len]; omega)) rfl) ?_
          refine RT.nil ?_
          refine CW.condF rfl (decide_eq_false (by omega)) ?_
          refine CW.skip ?_
          refine CW.seq ?_
          refine CW.region ?_
          refine RT.ev rfl rfl (Ev.move rfl) ?_
          refine RT.ev rfl rfl (Ev.eqlN (a := 0) (b := 0) rfl rfl) ?_
          refine RT.ev rfl rfl (Ev.move rfl) ?_
          refine RT.yes rfl rfl rfl (rfl) ?_
          refine RT.ev rfl rfl (Ev.move rfl) ?_
          refine RT.yes rfl rfl rfl (rfl) ?_
          refine RT.ev rfl rfl (Ev.neqPt Try.underlying46 rfl rfl) ?_
          refine RT.ev rfl rfl (Ev.pickY rfl (rfl) rfl) ?_
          refine RT.ev rfl rfl (Ev.move rfl) ?_
          refine RT.yes rfl rfl rfl (rfl) ?_
          refine RT.ev rfl rfl (Ev.move rfl) ?_
          refine RT.yes rfl rfl rfl (rfl) ?_
          refine RT.ev rfl rfl (Ev.lenL Try.underlying22 rfl (hs_19.rdL 5 rfl)) ?_
          refine RT.yes rfl rfl rfl (rfl) ?_
          refine RT.ev rfl rfl (Ev.move rfl) ?_
          refine RT.yes rfl rfl rfl (rfl) ?_
          refine RT.ev rfl rfl (Ev.lenL Try.underlying45 rfl (hs_19.rdL 0 rfl)) ?_
          refine RT.yes rfl rfl rfl (rfl) ?_
          refine RT.ev rfl rfl (Ev.eqlN rfl rfl) ?_
          refine RT.ev rfl rfl (Ev.pickY rfl (rfl) rfl) ?_
          refine RT.ev rfl rfl (Ev.move rfl) ?_
          refine RT.yes rfl rfl rfl (decide_eq_true (List.length_map ..)) ?_
          refine RT.ev rfl rfl (Ev.move rfl) ?_
          refine RT.yes rfl rfl rfl (decide_eq_true (List.length_map ..)) ?_
          refine RT.eff rfl rfl (OpE.call ent34 rfl ((size_ok _ _ _ _ _ _ _ _ (hs_19.lexAt 1 2 3 4 rfl rfl rfl rfl)).mono fun r_6 w_12 h_6 => ?_))
          obtain ⟨rfl, hp_6⟩ := h_6
          have hs_20 : Sat w [cL v 9 (encTx) (limL N M), cObj lg_1 92 [lvw_1, lvc_1, lvo_1], cL lvw_1 9 (encTx) (wordsN (limL N M)), cL lvc_1 3 (encN .i64) (countsN (limL N M)), cL lvo_1 3 (encN .i64) (ordN (wordsN (limL N M))), cL lvn_1 3 (encN .i64) ((limL N M).map (lbW (wordsN (limL N M))))] _ := hs_19.adds hp_6
          refine RT.yes rfl rfl rfl (decide_eq_true (List.length_map ..)) ?_
          refine RT.ev rfl rfl (Ev.move rfl) ?_
          refine RT.yes rfl rfl rfl (decide_eq_true (List.length_map ..)) ?_
          refine RT.ev rfl rfl (Ev.eqlN rfl rfl) ?_
          refine RT.yes rfl rfl rfl (decide_eq_true (List.length_map ..)) ?_
          refine RT.ev rfl rfl (Ev.move rfl) ?_
          refine RT.yes rfl rfl rfl (decide_eq_false (by omega)) ?_
          refine RT.ev rfl rfl (Ev.move rfl) ?_
          refine RT.yes rfl rfl rfl (decide_eq_false (by omega)) ?_
          refine RT.ev rfl rfl (Ev.eqlN (b := 0) rfl rfl) ?_
          refine RT.yes rfl rfl rfl (decide_eq_false (by omega)) ?_
          refine RT.ev rfl rfl (Ev.move rfl) ?_
          refine RT.yes rfl rfl rfl (decide_eq_true (by omega)) ?_
          refine RT.ev rfl rfl (Ev.move rfl) ?_
          refine RT.yes rfl rfl rfl (decide_eq_true (by omega)) ?_
          refine RT.ev rfl rfl (Ev.gtrN (b := 0) rfl rfl) ?_
          refine RT.yes rfl rfl rfl (decide_eq_false (by omega)) ?_
          refine RT.ev rfl rfl (Ev.pickY rfl (decide_eq_true (by omega)) rfl) ?_
          refine RT.yes rfl rfl rfl (decide_eq_false (by omega)) ?_
          refine RT.ev rfl rfl (Ev.move rfl) ?_
          refine RT.yes rfl rfl rfl (decide_eq_true (by omega)) ?_
          refine RT.ev rfl rfl (Ev.move rfl) ?_
          refine RT.yes rfl rfl rfl (decide_eq_true (by omega)) ?_
          refine RT.eff rfl rfl (OpE.call ent34 rfl ((size_ok _ _ _ _ _ _ _ _ (hs_20.lexAt 1 2 3 4 rfl rfl rfl rfl)).mono fun r_7 w_13 h_7 => ?_))
          obtain ⟨rfl, hp_7⟩ := h_7
          have hs_21 : Sat w [cL v 9 (encTx) (limL N M), cObj lg_1 92 [lvw_1, lvc_1, lvo_1], cL lvw_1 9 (encTx) (wordsN (limL N M)), cL lvc_1 3 (encN .i64) (countsN (limL N M)), cL lvo_1 3 (encN .i64) (ordN (wordsN (limL N M))), cL lvn_1 3 (encN .i64) ((limL N M).map (lbW (wordsN (limL N M))))] _ := hs_20.adds hp_7
          refine RT.yes rfl rfl rfl (decide_eq_true (by omega)) ?_
          refine RT.ev rfl rfl (Ev.eqlN (b := 1) rfl rfl) ?_
          refine RT.yes rfl rfl rfl (decide_eq_false (by omega)) ?_
          refine RT.ev rfl rfl (Ev.pickY rfl (decide_eq_true (by omega)) rfl) ?_
          refine RT.yes rfl rfl rfl (decide_eq_true (List.length_map ..)) ?_
          refine RT.ev rfl rfl (Ev.pickN rfl (decide_eq_false (by omega)) rfl) ?_
          refine RT.ev rfl rfl (Ev.pickY rfl (decide_eq_true (List.length_map ..)) rfl) ?_
          refine RT.ev rfl rfl (Ev.move rfl) ?_
          refine RT.yes rfl rfl rfl (decide_eq_true (hwl)) ?_
          refine RT.eff rfl rfl (OpE.call ent33 rfl ((lawake_ok _).mono fun r_8 w_14 h_8 => ?_))
          obtain ⟨rfl, hp_8⟩ := h_8
          have hs_22 : Sat w [cL v 9 (encTx) (limL N M), cObj lg_1 92 [lvw_1, lvc_1, lvo_1], cL lvw_1 9 (encTx) (wordsN (limL N M)), cL lvc_1 3 (encN .i64) (countsN (limL N M)), cL lvo_1 3 (encN .i64) (ordN (wordsN (limL N M))), cL lvn_1 3 (encN .i64) ((limL N M).map (lbW (wordsN (limL N M))))] _ := hs_21.adds hp_8
          refine RT.ev rfl rfl (Ev.pickY rfl (decide_eq_true (hwl)) rfl) ?_
          refine RT.ev rfl rfl (Ev.assign rfl) ?_
          refine RT.nil ?_
          refine CW.ret ?_
          show PostK _ _ _ _ _ _
          refine post1 rfl rfl ?_
          have hs_23 : Sat w [] w_14 := hs_22.sub ((.cons _ (.cons _ (.cons _ (.cons _ (.cons _ (.cons _ .slnil)))))))
          exact ⟨rfl, hs_23⟩
        · have he := lim_good hN hlw.1 hlw.2.1
          have hwl := lim_words (M := M) hN
          rw [show (if 0 < N then N else if 0 < M then 1 else 0) = N by split; rfl; rw [if_neg (by omega)]; omega] at hwl
          refine CW.region ?_
          refine RT.ev rfl rfl (Ev.move rfl) ?_
          refine RT.eff rfl rfl (OpE.call ent32 rfl ((lbuild_good (hs_12.rdL 0 rfl) he).mono fun r_9 w_15 h_9 => ?_))
          obtain ⟨lg_2, lvw_2, lvc_2, lvo_2, lvn_2, rfl, hp_9⟩ := h_9
          have hs_24 : Sat w [cL v 9 (encTx) (limL N M), cObj lg_2 92 [lvw_2, lvc_2, lvo_2], cL lvw_2 9 (encTx) (wordsN (limL N M)), cL lvc_2 3 (encN .i64) (countsN (limL N M)), cL lvo_2 3 (encN .i64) (ordN (wordsN (limL N M))), cL lvn_2 3 (encN .i64) ((limL N M).map (lbW (wordsN (limL N M))))] _ := hs_12.adds hp_9
          refine RT.ev rfl rfl (Ev.move rfl) ?_
          refine RT.ev rfl rfl (Ev.extract rfl rfl) ?_
          refine RT.ev rfl rfl (Ev.extract rfl rfl) ?_
          refine RT.ev rfl rfl (Ev.extract rfl rfl) ?_
          refine RT.ev rfl rfl (Ev.assign rfl) ?_
          refine RT.ev rfl rfl (Ev.assign rfl) ?_
          refine RT.ev rfl rfl (Ev.assign rfl) ?_
          refine RT.nil ?_
          refine CW.seq ?_
          refine CW.seq ?_
          refine CW.region ?_
          refine RT.ev rfl rfl (Ev.move rfl) ?_
          refine RT.ev rfl rfl (Ev.lenL Try.underlying45 rfl (hs_24.rdL 0 rfl)) ?_
          refine RT.ev rfl rfl (Ev.gtrN (b := 4096) rfl rfl) ?_
          refine RT.ev rfl rfl (Ev.move rfl) ?_
          refine RT.yes rfl rfl rfl (decide_eq_false (by rw [lim_len]; omega)) ?_
          refine RT.ev rfl rfl (Ev.move rfl) ?_
          refine RT.yes rfl rfl rfl (decide_eq_false (by rw [lim_len]; omega)) ?_
          refine RT.ev rfl rfl (Ev.gtrN (b := 1024) rfl rfl) ?_
          refine RT.ev rfl rfl (Ev.pickN rfl (decide_eq_false (by rw [lim_len]; omega)) rfl) ?_
          refine RT.nil ?_
          refine CW.condF rfl (decide_eq_false (by omega)) ?_
          refine CW.skip ?_
          refine CW.seq ?_
          refine CW.region ?_
          refine RT.ev rfl rfl (Ev.move rfl) ?_
          refine RT.ev rfl rfl (Ev.eqlN (a := 0) (b := 0) rfl rfl) ?_
          refine RT.ev rfl rfl (Ev.move rfl) ?_
          refine RT.yes rfl rfl rfl (rfl) ?_
          refine RT.ev rfl rfl (Ev.move rfl) ?_
          refine RT.yes rfl rfl rfl (rfl) ?_
          refine RT.ev rfl rfl (Ev.neqPt Try.underlying46 rfl rfl) ?_
          refine RT.ev rfl rfl (Ev.pickY rfl (rfl) rfl) ?_
          refine RT.ev rfl rfl (Ev.move rfl) ?_
          refine RT.yes rfl rfl rfl (rfl) ?_
          refine RT.ev rfl rfl (Ev.move rfl) ?_
          refine RT.yes rfl rfl rfl (rfl) ?_
          refine RT.ev rfl rfl (Ev.lenL Try.underlying22 rfl (hs_24.rdL 5 rfl)) ?_
          refine RT.yes rfl rfl rfl (rfl) ?_
          refine RT.ev rfl rfl (Ev.move rfl) ?_
          refine RT.yes rfl rfl rfl (rfl) ?_
          refine RT.ev rfl rfl (Ev.lenL Try.underlying45 rfl (hs_24.rdL 0 rfl)) ?_
          refine RT.yes rfl rfl rfl (rfl) ?_
          refine RT.ev rfl rfl (Ev.eqlN rfl rfl) ?_
          refine RT.ev rfl rfl (Ev.pickY rfl (rfl) rfl) ?_
          refine RT.ev rfl rfl (Ev.move rfl) ?_
          refine RT.yes rfl rfl rfl (decide_eq_true (List.length_map ..)) ?_
          refine RT.ev rfl rfl (Ev.move rfl) ?_
          refine RT.yes rfl rfl rfl (decide_eq_true (List.length_map ..)) ?_
          refine RT.eff rfl rfl (OpE.call ent34 rfl ((size_ok _ _ _ _ _ _ _ _ (hs_24.lexAt 1 2 3 4 rfl rfl rfl rfl)).mono fun r_10 w_16 h_10 => ?_))
          obtain ⟨rfl, hp_10⟩ := h_10
          have hs_25 : Sat w [cL v 9 (encTx) (limL N M), cObj lg_2 92 [lvw_2, lvc_2, lvo_2], cL lvw_2 9 (encTx) (wordsN (limL N M)), cL lvc_2 3 (encN .i64) (countsN (limL N M)), cL lvo_2 3 (encN .i64) (ordN (wordsN (limL N M))), cL lvn_2 3 (encN .i64) ((limL N M).map (lbW (wordsN (limL N M))))] _ := hs_24.adds hp_10
          refine RT.yes rfl rfl rfl (decide_eq_true (List.length_map ..)) ?_
          refine RT.ev rfl rfl (Ev.move rfl) ?_
          refine RT.yes rfl rfl rfl (decide_eq_true (List.length_map ..)) ?_
          refine RT.ev rfl rfl (Ev.eqlN rfl rfl) ?_
          refine RT.yes rfl rfl rfl (decide_eq_true (List.length_map ..)) ?_
          refine RT.ev rfl rfl (Ev.move rfl) ?_
          refine RT.no rfl rfl rfl (decide_eq_true (hwl)) rfl ?_
          refine RT.no rfl rfl rfl (decide_eq_true (hwl)) rfl ?_
          refine RT.no rfl rfl rfl (decide_eq_true (hwl)) rfl ?_
          refine RT.noU rfl rfl rfl rfl ?_
          refine RT.noU rfl rfl rfl rfl ?_
          refine RT.no rfl rfl rfl (decide_eq_true (hwl)) rfl ?_
          refine RT.no rfl rfl rfl (decide_eq_true (hwl)) rfl ?_
          refine RT.noU rfl rfl rfl rfl ?_
          refine RT.noU rfl rfl rfl rfl ?_
          refine RT.noU rfl rfl rfl rfl ?_
          refine RT.no rfl rfl rfl (decide_eq_true (hwl)) rfl ?_
          refine RT.yes rfl rfl rfl (decide_eq_true (List.length_map ..)) ?_
          refine RT.ev rfl rfl (Ev.pickY rfl (decide_eq_true (hwl)) rfl) ?_
          refine RT.ev rfl rfl (Ev.pickY rfl (decide_eq_true (List.length_map ..)) rfl) ?_
          refine RT.ev rfl rfl (Ev.move rfl) ?_
          refine RT.yes rfl rfl rfl (rfl) ?_
          refine RT.eff rfl rfl (OpE.call ent33 rfl ((lawake_ok _).mono fun r_11 w_17 h_11 => ?_))
          obtain ⟨rfl, hp_11⟩ := h_11
          have hs_26 : Sat w [cL v 9 (encTx) (limL N M), cObj lg_2 92 [lvw_2, lvc_2, lvo_2], cL lvw_2 9 (encTx) (wordsN (limL N M)), cL lvc_2 3 (encN .i64) (countsN (limL N M)), cL lvo_2 3 (encN .i64) (ordN (wordsN (limL N M))), cL lvn_2 3 (encN .i64) ((limL N M).map (lbW (wordsN (limL N M))))] _ := hs_25.adds hp_11
          refine RT.ev rfl rfl (Ev.pickY rfl (rfl) rfl) ?_
          refine RT.ev rfl rfl (Ev.assign rfl) ?_
          refine RT.nil ?_
          refine CW.ret ?_
          show PostK _ _ _ _ _ _
          refine post1 rfl rfl ?_
          have hs_27 : Sat w [] w_17 := hs_26.sub ((.cons _ (.cons _ (.cons _ (.cons _ (.cons _ (.cons _ .slnil)))))))
          exact ⟨rfl, hs_27⟩

end Go.Proofs.Ytfhbflhnelbkfaa
