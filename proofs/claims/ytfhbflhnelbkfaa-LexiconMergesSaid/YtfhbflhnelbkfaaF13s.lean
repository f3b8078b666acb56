/- The walks of the functions of F13s, printed by our own program (kwgen.py) out of our descriptions (base.py). -/
import Derived.Test.YtfhbflhnelbkfaaF13l
import Derived.Test.YtfhbflhnelbkfaaKq
import Derived.Test.YtfhbflhnelbkfaaTab
namespace Go.Proofs.Ytfhbflhnelbkfaa
open Go.RowKit Go.Kw
set_option maxRecDepth 100000
set_option linter.unusedVariables false
set_option linter.unusedSimpArgs false
theorem numN_idx {W : List ByteArray} (h : Asc W) {k : Nat} {x : ByteArray} (hx : W[k]? = some x) : numN W x = (k, true) := by
  have hm := List.mem_of_getElem? hx
  rw [numN_mem h hm, show lbW W x = k from h.inj (h.get hm) hx]
theorem counts_pos {l : List ByteArray} {i c : Nat} (h : (countsN l)[i]? = some c) : 1 ≤ c := by
  unfold countsN at h
  rw [List.getElem?_map] at h
  obtain ⟨y, hy, rfl⟩ := Option.map_eq_some_iff.1 h
  exact cnt_pos (wordsN_mem.1 (List.mem_of_getElem? hy))
theorem sum_set {l : List Nat} {i c : Nat} (h : l[i]? = some c) : (l.set i (c + 1)).sum = l.sum + 1 := by
  induction l generalizing i with
  | nil => simp at h
  | cons x r ih =>
    cases i with
    | zero => simp at h; subst h; simp; omega
    | succ i => simp at h; simp [ih h]; omega
theorem counts_sum (vs : List ByteArray) : (countsN vs).sum = vs.length := by
  induction vs using snoc_ind with
  | h0 => rfl
  | h1 vs v ih =>
    rcases Decidable.em ((wordsN vs)[lbW (wordsN vs) v]? = some v) with h | h
    · obtain ⟨c, h1, h2⟩ := counts_found h
      rw [h2, sum_set h1, ih]; simp
    · rw [counts_new h, List.sum_append, List.sum_cons, List.length_append, ← ih]
      have := congrArg List.sum (List.take_append_drop (lbW (wordsN vs) v) (countsN vs))
      rw [List.sum_append] at this
      simp; omega
theorem sum_take_le (l : List Nat) (k : Nat) : (l.take k).sum ≤ l.sum := by
  have := congrArg List.sum (List.take_append_drop k l)
  rw [List.sum_append] at this; omega
theorem sum_take_snoc {l : List Nat} {k c : Nat} (h : l[k]? = some c) : (l.take (k + 1)).sum = (l.take k).sum + c := by
  rw [take_snoc h, List.sum_append]; simp

theorem lexiconSorted_ok (v : Value) (vs : List ByteArray) (w : World) (hv : RdL w v encTx vs) (hn : vs.length ≤ 9223372036854775807) :
    CallsV Try.prog 13 [v] w fun r w' => r = .bool true ∧ Sat w [] w' := by
  have hs0 := Sat.start w
  refine callsV_of Try.func13 rfl rfl ?_
  refine CW.seq ?_
  refine CW.region ?_
  refine RT.ev rfl rfl (Ev.assign rfl) ?_
  refine RT.nil ?_
  refine CW.seq ?_
  rcases Decidable.em (bldE vs = 0) with he | he
  · refine CW.region ?_
    refine RT.ev rfl rfl (Ev.move rfl) ?_
    refine RT.eff rfl rfl (OpE.call ent32 rfl ((lbuild_good (hv.ext hs0.ext) he).mono fun r_1 w_1 h_1 => ?_))
    obtain ⟨lg_1, lvw_1, lvc_1, lvo_1, lvn_1, rfl, hp_1⟩ := h_1
    have hs_1 : Sat w [cObj lg_1 92 [lvw_1, lvc_1, lvo_1], cL lvw_1 9 (encTx) (wordsN vs), cL lvc_1 3 (encN .i64) (countsN vs), cL lvo_1 3 (encN .i64) (ordN (wordsN vs)), cL lvn_1 3 (encN .i64) (vs.map (lbW (wordsN vs)))] _ := hs0.adds hp_1
    refine RT.ev rfl rfl (Ev.move rfl) ?_
    refine RT.ev rfl rfl (Ev.extract rfl rfl) ?_
    refine RT.ev rfl rfl (Ev.extract rfl rfl) ?_
    refine RT.ev rfl rfl (Ev.extract rfl rfl) ?_
    refine RT.ev rfl rfl (Ev.assign rfl) ?_
    refine RT.ev rfl rfl (Ev.assign rfl) ?_
    refine RT.ev rfl rfl (Ev.assign rfl) ?_
    refine RT.nil ?_
    refine CW.seq ?_
    refine CW.seq ?_
    refine CW.region ?_
    refine RT.ev rfl rfl (Ev.move rfl) ?_
    refine RT.eff rfl rfl (OpE.call ent35 rfl ((long_ok _ _ _ (hv.ext hs_1.ext) (hn)).mono fun r_2 w_2 h_2 => ?_))
    obtain ⟨⟨lb_1, rfl⟩, hp_2⟩ := h_2
    have hs_2 : Sat w [cObj lg_1 92 [lvw_1, lvc_1, lvo_1], cL lvw_1 9 (encTx) (wordsN vs), cL lvc_1 3 (encN .i64) (countsN vs), cL lvo_1 3 (encN .i64) (ordN (wordsN vs)), cL lvn_1 3 (encN .i64) (vs.map (lbW (wordsN vs)))] _ := hs_1.adds hp_2
    refine RT.ev rfl rfl (Ev.move rfl) ?_
    by_cases hg_1 : lb_1 = true
    · refine RT.no rfl rfl rfl (hg_1) rfl ?_
      refine RT.no rfl rfl rfl (hg_1) rfl ?_
      refine RT.ev rfl rfl (Ev.pickY rfl (hg_1) rfl) ?_
      refine RT.nil ?_
      refine CW.condT rfl (rfl) ?_
      refine CW.seq ?_
      refine CW.region ?_
      refine RT.ev rfl rfl (Ev.assign rfl) ?_
      refine RT.nil ?_
      refine CW.ret ?_
      show PostK _ _ _ _ _ _
      refine post1 rfl rfl ?_
      have hs_3 : Sat w [] w_2 := hs_2.sub ((.cons _ (.cons _ (.cons _ (.cons _ (.cons _ .slnil))))))
      exact ⟨rfl, hs_3⟩
    · refine RT.yes rfl rfl rfl (by simpa using hg_1) ?_
      refine RT.ev rfl rfl (Ev.move rfl) ?_
      refine RT.yes rfl rfl rfl (by simpa using hg_1) ?_
      refine RT.ev rfl rfl (Ev.neqN (a := 0) (b := 0) rfl rfl) ?_
      refine RT.ev rfl rfl (Ev.pickN rfl (by simpa using hg_1) rfl) ?_
      refine RT.nil ?_
      refine CW.condF rfl (rfl) ?_
      refine CW.skip ?_
      refine CW.seq ?_
      refine CW.seq ?_
      refine CW.region ?_
      refine RT.ev rfl rfl (Ev.move rfl) ?_
      refine RT.ev rfl rfl (Ev.eqlPt Try.underlying46 rfl rfl) ?_
      refine RT.ev rfl rfl (Ev.move rfl) ?_
      refine RT.yes rfl rfl rfl (rfl) ?_
      refine RT.ev rfl rfl (Ev.move rfl) ?_
      refine RT.yes rfl rfl rfl (rfl) ?_
      refine RT.ev rfl rfl (Ev.lenL Try.underlying22 rfl (hs_2.rdL 4 rfl)) ?_
      refine RT.yes rfl rfl rfl (rfl) ?_
      refine RT.ev rfl rfl (Ev.move rfl) ?_
      refine RT.yes rfl rfl rfl (rfl) ?_
      refine RT.ev rfl rfl (Ev.lenL Try.underlying45 rfl (hv.ext hs_2.ext)) ?_
      refine RT.yes rfl rfl rfl (rfl) ?_
      refine RT.ev rfl rfl (Ev.neqN rfl rfl) ?_
      refine RT.ev rfl rfl (Ev.pickN rfl (rfl) rfl) ?_
      refine RT.ev rfl rfl (Ev.move rfl) ?_
      refine RT.yes rfl rfl rfl (decide_eq_false (fun h9 => h9 (List.length_map ..))) ?_
      refine RT.ev rfl rfl (Ev.move rfl) ?_
      refine RT.yes rfl rfl rfl (decide_eq_false (fun h9 => h9 (List.length_map ..))) ?_
      refine RT.eff rfl rfl (OpE.call ent34 rfl ((size_ok _ _ _ _ _ _ _ _ (hs_2.lexAt 0 1 2 3 rfl rfl rfl rfl)).mono fun r_3 w_3 h_3 => ?_))
      obtain ⟨rfl, hp_3⟩ := h_3
      have hs_4 : Sat w [cObj lg_1 92 [lvw_1, lvc_1, lvo_1], cL lvw_1 9 (encTx) (wordsN vs), cL lvc_1 3 (encN .i64) (countsN vs), cL lvo_1 3 (encN .i64) (ordN (wordsN vs)), cL lvn_1 3 (encN .i64) (vs.map (lbW (wordsN vs)))] _ := hs_2.adds hp_3
      refine RT.yes rfl rfl rfl (decide_eq_false (fun h9 => h9 (List.length_map ..))) ?_
      refine RT.ev rfl rfl (Ev.move rfl) ?_
      refine RT.yes rfl rfl rfl (decide_eq_false (fun h9 => h9 (List.length_map ..))) ?_
      refine RT.ev rfl rfl (Ev.lenL Try.underlying45 rfl (hv.ext hs_4.ext)) ?_
      refine RT.yes rfl rfl rfl (decide_eq_false (fun h9 => h9 (List.length_map ..))) ?_
      refine RT.ev rfl rfl (Ev.gtrN rfl rfl) ?_
      refine RT.ev rfl rfl (Ev.pickN rfl (decide_eq_false (fun h9 => h9 (List.length_map ..))) rfl) ?_
      refine RT.nil ?_
      refine CW.condF rfl (decide_eq_false (Nat.not_lt.2 (wordsN_length vs))) ?_
      refine CW.skip ?_
      refine CW.seq ?_
      have hvl := bld_vlen he
      have hwl2 := wordsN_length vs
      refine CW.region ?_
      refine RT.ev rfl rfl (Ev.assign rfl) ?_
      refine RT.nil ?_
      refine CW.seq ?_
      refine CW.seq ?_
      refine CW.region ?_
      refine RT.ev rfl rfl (Ev.assign rfl) ?_
      refine RT.nil ?_
      refine CW.block ?_
      refine CW.loop (α := Nat × Nat) (fun (k, z) => [(0, v), (3, (Value.pointer (some ⟨lg_1, 0, none⟩))), (4, lvn_1), (6, (Value.int .i64 ((z : Nat) : Int))), (7, (Value.int .i64 ((k : Nat) : Int)))]) (fun (k, z) w' => Sat w [cObj lg_1 92 [lvw_1, lvc_1, lvo_1], cL lvw_1 9 (encTx) (wordsN vs), cL lvc_1 3 (encN .i64) (countsN vs), cL lvo_1 3 (encN .i64) (ordN (wordsN vs)), cL lvn_1 3 (encN .i64) (vs.map (lbW (wordsN vs)))] w' ∧ (k ≤ (wordsN vs).length) ∧ (z = ((countsN vs).take k).sum)) (fun (k, z) => (wordsN vs).length - k) (0, 0) ⟨rfl, rfl, rfl, rfl, rfl, trivial⟩ ⟨hs_4, Nat.zero_le _, rfl⟩ ?_
      rintro ⟨k, z⟩ w_4 ⟨hs_5, hk, hz⟩
      show CW _ _ _ _ [(0, v), (3, (Value.pointer (some ⟨lg_1, 0, none⟩))), (4, lvn_1), (6, (Value.int .i64 ((z : Nat) : Int))), (7, (Value.int .i64 ((k : Nat) : Int)))] _
      refine CW.seq ?_
      refine CW.seq ?_
      refine CW.region ?_
      refine RT.ev rfl rfl (Ev.move rfl) ?_
      refine RT.ev rfl rfl (Ev.move rfl) ?_
      refine RT.eff rfl rfl (OpE.call ent34 rfl ((size_ok _ _ _ _ _ _ _ _ (hs_5.lexAt 0 1 2 3 rfl rfl rfl rfl)).mono fun r_4 w_5 h_4 => ?_))
      obtain ⟨rfl, hp_4⟩ := h_4
      have hs_6 : Sat w [cObj lg_1 92 [lvw_1, lvc_1, lvo_1], cL lvw_1 9 (encTx) (wordsN vs), cL lvc_1 3 (encN .i64) (countsN vs), cL lvo_1 3 (encN .i64) (ordN (wordsN vs)), cL lvn_1 3 (encN .i64) (vs.map (lbW (wordsN vs)))] _ := hs_5.adds hp_4
      refine RT.ev rfl rfl (Ev.lssN rfl rfl) ?_
      refine RT.nil ?_
      refine CW.condD rfl (fun hc_1 => ?_) (fun hc_1 => ?_)
      · refine CW.skip ?_
        refine CW.seq ?_
        refine CW.block ?_
        refine CW.seq ?_
        obtain ⟨x, hx⟩ : ∃ x, (wordsN vs)[k]? = some x := ⟨_, List.getElem?_eq_getElem hc_1⟩
        obtain ⟨c, hc⟩ : ∃ c, (countsN vs)[k]? = some c := ⟨_, List.getElem?_eq_getElem (by rw [countsN_length]; exact hc_1)⟩
        have hsl := sum_take_le (countsN vs) (k + 1)
        rw [counts_sum, sum_take_snoc hc] at hsl
        refine CW.region ?_
        refine RT.ev rfl rfl (Ev.move rfl) ?_
        refine RT.ev rfl rfl (Ev.move rfl) ?_
        refine RT.eff rfl rfl (OpE.call ent39 rfl ((word_ok _ _ _ _ _ _ _ ((k : Nat) : Int) _ (hs_6.lexAt 0 1 2 3 rfl rfl rfl rfl)).mono fun r_5 w_6 h_5 => ?_))
        obtain ⟨rfl, hp_5⟩ := h_5
        have hs_7 : Sat w [cObj lg_1 92 [lvw_1, lvc_1, lvo_1], cL lvw_1 9 (encTx) (wordsN vs), cL lvc_1 3 (encN .i64) (countsN vs), cL lvo_1 3 (encN .i64) (ordN (wordsN vs)), cL lvn_1 3 (encN .i64) (vs.map (lbW (wordsN vs)))] _ := hs_6.adds hp_5
        refine RT.ev rfl rfl (Ev.move rfl) ?_
        refine RT.ev rfl rfl (Ev.extract rfl rfl) ?_
        refine RT.ev rfl rfl (Ev.extract rfl rfl) ?_
        refine RT.ev rfl rfl (Ev.assign rfl) ?_
        refine RT.ev rfl rfl (Ev.assign rfl) ?_
        refine RT.nil ?_
        refine CW.seq ?_
        refine CW.weaken [(0, _), (3, _), (4, _), (6, _), (7, _), (8, (Value.string x)), (9, _), (46, _), (47, _), (48, _), (49, _), (52, _), (53, _), (54, _), (55, _), (56, _), (57, _)] ⟨rfl, rfl, rfl, rfl, rfl, congrArg some (congrArg (fun q : ByteArray × Bool => Value.string q.1) (wordAt_get hx)), rfl, rfl, rfl, rfl, rfl, rfl, rfl, rfl, rfl, rfl, rfl, trivial⟩ ?_
        refine CW.weaken [(0, _), (3, _), (4, _), (6, _), (7, _), (8, _), (9, (Value.bool true)), (46, _), (47, _), (48, _), (49, _), (52, _), (53, _), (54, _), (55, _), (56, _), (57, _)] ⟨rfl, rfl, rfl, rfl, rfl, rfl, congrArg some (congrArg (fun q : ByteArray × Bool => Value.bool q.2) (wordAt_get hx)), rfl, rfl, rfl, rfl, rfl, rfl, rfl, rfl, rfl, rfl, trivial⟩ ?_
        refine CW.region ?_
        refine RT.ev rfl rfl (Ev.move rfl) ?_
        refine RT.ev rfl rfl (Ev.move rfl) ?_
        refine RT.eff rfl rfl (OpE.call ent37 rfl ((number_ok _ _ _ _ _ _ _ x _ (hs_7.lexAt 0 1 2 3 rfl rfl rfl rfl) (wordsN_asc vs) (by have := bld_len he; omega)).mono fun r_6 w_7 h_6 => ?_))
        obtain ⟨rfl, hp_6⟩ := h_6
        have hs_8 : Sat w [cObj lg_1 92 [lvw_1, lvc_1, lvo_1], cL lvw_1 9 (encTx) (wordsN vs), cL lvc_1 3 (encN .i64) (countsN vs), cL lvo_1 3 (encN .i64) (ordN (wordsN vs)), cL lvn_1 3 (encN .i64) (vs.map (lbW (wordsN vs)))] _ := hs_7.adds hp_6
        refine RT.ev rfl rfl (Ev.move rfl) ?_
        refine RT.ev rfl rfl (Ev.extract rfl rfl) ?_
        refine RT.ev rfl rfl (Ev.extract rfl rfl) ?_
        refine RT.ev rfl rfl (Ev.assign rfl) ?_
        refine RT.ev rfl rfl (Ev.assign rfl) ?_
        refine RT.nil ?_
        refine CW.seq ?_
        refine CW.weaken [(0, _), (3, _), (4, _), (6, _), (7, _), (8, _), (9, _), (10, (Value.int .i64 ((k : Nat) : Int))), (11, _), (46, _), (47, _), (48, _), (49, _), (52, _), (53, _), (54, _), (55, _), (56, _), (57, _), (58, _), (59, _), (60, _), (61, _), (62, _), (63, _)] ⟨rfl, rfl, rfl, rfl, rfl, rfl, rfl, congrArg some (congrArg (fun q : Nat × Bool => Value.int .i64 ((q.1 : Nat) : Int)) (numN_idx (wordsN_asc vs) hx)), rfl, rfl, rfl, rfl, rfl, rfl, rfl, rfl, rfl, rfl, rfl, rfl, rfl, rfl, rfl, rfl, rfl, trivial⟩ ?_
        refine CW.weaken [(0, _), (3, _), (4, _), (6, _), (7, _), (8, _), (9, _), (10, _), (11, (Value.bool true)), (46, _), (47, _), (48, _), (49, _), (52, _), (53, _), (54, _), (55, _), (56, _), (57, _), (58, _), (59, _), (60, _), (61, _), (62, _), (63, _)] ⟨rfl, rfl, rfl, rfl, rfl, rfl, rfl, rfl, congrArg some (congrArg (fun q : Nat × Bool => Value.bool q.2) (numN_idx (wordsN_asc vs) hx)), rfl, rfl, rfl, rfl, rfl, rfl, rfl, rfl, rfl, rfl, rfl, rfl, rfl, rfl, rfl, rfl, trivial⟩ ?_
        refine CW.region ?_
        refine RT.ev rfl rfl (Ev.move rfl) ?_
        refine RT.ev rfl rfl (Ev.move rfl) ?_
        refine RT.ev rfl rfl (Ev.sub (b := (1 : Int)) rfl rfl (by unfold inI64; omega)) ?_
        refine RT.eff rfl rfl (OpE.call ent39 rfl ((word_ok _ _ _ _ _ _ _ (((k : Nat) : Int) - 1) _ (hs_8.lexAt 0 1 2 3 rfl rfl rfl rfl)).mono fun r_7 w_8 h_7 => ?_))
        obtain ⟨rfl, hp_7⟩ := h_7
        have hs_9 : Sat w [cObj lg_1 92 [lvw_1, lvc_1, lvo_1], cL lvw_1 9 (encTx) (wordsN vs), cL lvc_1 3 (encN .i64) (countsN vs), cL lvo_1 3 (encN .i64) (ordN (wordsN vs)), cL lvn_1 3 (encN .i64) (vs.map (lbW (wordsN vs)))] _ := hs_8.adds hp_7
        refine RT.ev rfl rfl (Ev.move rfl) ?_
        refine RT.ev rfl rfl (Ev.extract rfl rfl) ?_
        refine RT.ev rfl rfl (Ev.extract rfl rfl) ?_
        refine RT.ev rfl rfl (Ev.assign rfl) ?_
        refine RT.ev rfl rfl (Ev.assign rfl) ?_
        refine RT.nil ?_
        refine CW.seq ?_
        refine CW.seq ?_
        rcases Nat.eq_zero_or_pos k with hk0 | hk0
        · refine CW.region ?_
          refine RT.ev rfl rfl (Ev.move rfl) ?_
          refine RT.ev rfl rfl (Ev.notB rfl) ?_
          refine RT.ev rfl rfl (Ev.move rfl) ?_
          refine RT.yes rfl rfl rfl (rfl) ?_
          refine RT.ev rfl rfl (Ev.move rfl) ?_
          refine RT.yes rfl rfl rfl (rfl) ?_
          refine RT.ev rfl rfl (Ev.notB rfl) ?_
          refine RT.ev rfl rfl (Ev.pickN rfl (rfl) rfl) ?_
          refine RT.ev rfl rfl (Ev.move rfl) ?_
          refine RT.yes rfl rfl rfl (rfl) ?_
          refine RT.ev rfl rfl (Ev.move rfl) ?_
          refine RT.yes rfl rfl rfl (rfl) ?_
          refine RT.ev rfl rfl (Ev.move rfl) ?_
          refine RT.yes rfl rfl rfl (rfl) ?_
          refine RT.ev rfl rfl (Ev.neqN rfl rfl) ?_
          refine RT.ev rfl rfl (Ev.pickN rfl (rfl) rfl) ?_
          refine RT.ev rfl rfl (Ev.move rfl) ?_
          refine RT.yes rfl rfl rfl (decide_eq_false (fun h9 => h9 rfl)) ?_
          refine RT.ev rfl rfl (Ev.move rfl) ?_
          refine RT.yes rfl rfl rfl (decide_eq_false (fun h9 => h9 rfl)) ?_
          refine RT.ev rfl rfl (Ev.gtrN (b := 0) rfl rfl) ?_
          refine RT.yes rfl rfl rfl (decide_eq_false (fun h9 => h9 rfl)) ?_
          refine RT.ev rfl rfl (Ev.move rfl) ?_
          refine RT.no rfl rfl rfl (decide_eq_false (by omega)) rfl ?_
          refine RT.no rfl rfl rfl (decide_eq_false (by omega)) rfl ?_
          refine RT.no rfl rfl rfl (decide_eq_false (by omega)) rfl ?_
          refine RT.yes rfl rfl rfl (decide_eq_false (fun h9 => h9 rfl)) ?_
          refine RT.ev rfl rfl (Ev.pickN rfl (decide_eq_false (by omega)) rfl) ?_
          refine RT.ev rfl rfl (Ev.pickN rfl (decide_eq_false (fun h9 => h9 rfl)) rfl) ?_
          refine RT.ev rfl rfl (Ev.move rfl) ?_
          refine RT.yes rfl rfl rfl (rfl) ?_
          refine RT.ev rfl rfl (Ev.move rfl) ?_
          refine RT.yes rfl rfl rfl (rfl) ?_
          refine RT.ev rfl rfl (Ev.move rfl) ?_
          refine RT.yes rfl rfl rfl (rfl) ?_
          refine RT.eff rfl rfl (OpE.call ent40 rfl ((count_ok _ _ _ _ _ _ _ ((k : Nat) : Int) _ (hs_9.lexAt 0 1 2 3 rfl rfl rfl rfl)).mono fun r_8 w_9 h_8 => ?_))
          obtain ⟨rfl, hp_8⟩ := h_8
          have hs_10 : Sat w [cObj lg_1 92 [lvw_1, lvc_1, lvo_1], cL lvw_1 9 (encTx) (wordsN vs), cL lvc_1 3 (encN .i64) (countsN vs), cL lvo_1 3 (encN .i64) (ordN (wordsN vs)), cL lvn_1 3 (encN .i64) (vs.map (lbW (wordsN vs)))] _ := hs_9.adds hp_8
          refine RT.yes rfl rfl rfl (rfl) ?_
          refine RT.ev rfl rfl (Ev.lssN (b := 1) rfl rfl) ?_
          refine RT.ev rfl rfl (Ev.pickN rfl (rfl) rfl) ?_
          refine RT.nil ?_
          refine CW.condF rfl (decide_eq_false (by rw [countAt_get hc]; have := counts_pos hc; omega)) ?_
          refine CW.skip ?_
          refine CW.weaken [(0, _), (3, _), (4, _), (6, _), (7, _), (8, _), (9, _), (10, _), (11, _), (12, _), (49, _), (96, _)] ⟨rfl, rfl, rfl, rfl, rfl, rfl, rfl, rfl, rfl, rfl, rfl, rfl, trivial⟩ ?_
          refine CW.region ?_
          refine RT.ev rfl rfl (Ev.move rfl) ?_
          refine RT.ev rfl rfl (Ev.move rfl) ?_
          refine RT.ev rfl rfl (Ev.move rfl) ?_
          refine RT.eff rfl rfl (OpE.call ent40 rfl ((count_ok _ _ _ _ _ _ _ ((k : Nat) : Int) _ (hs_10.lexAt 0 1 2 3 rfl rfl rfl rfl)).mono fun r_9 w_10 h_9 => ?_))
          obtain ⟨rfl, hp_9⟩ := h_9
          have hs_11 : Sat w [cObj lg_1 92 [lvw_1, lvc_1, lvo_1], cL lvw_1 9 (encTx) (wordsN vs), cL lvc_1 3 (encN .i64) (countsN vs), cL lvo_1 3 (encN .i64) (ordN (wordsN vs)), cL lvn_1 3 (encN .i64) (vs.map (lbW (wordsN vs)))] _ := hs_10.adds hp_9
          refine RT.ev rfl rfl (Ev.addI rfl rfl (by rw [countAt_get hc]; omega)) ?_
          refine RT.ev rfl rfl (Ev.assign rfl) ?_
          refine RT.nil ?_
          refine CW.region ?_
          refine RT.ev rfl rfl (Ev.move rfl) ?_
          refine RT.ev rfl rfl (Ev.addI (b := 1) rfl rfl (by omega)) ?_
          refine RT.ev rfl rfl (Ev.assign rfl) ?_
          refine RT.nil ?_
          exact ⟨(k + 1, (z + (countAt (countsN vs) ((k : Nat) : Int)))), ⟨rfl, rfl, rfl, rfl, rfl, trivial⟩, ⟨hs_11, by omega, by rw [sum_take_snoc hc, hz, countAt_get hc]⟩, (show ((wordsN vs).length - (k + 1)) < ((wordsN vs).length - k) from by omega)⟩
        · obtain ⟨y, hy⟩ : ∃ y, (wordsN vs)[k - 1]? = some y := ⟨_, List.getElem?_eq_getElem (by have := (List.getElem?_eq_some_iff.1 hx).1; omega)⟩
          have hyx := (wordsN_asc vs).lt hy hx (by omega)
          have hwy : wordAt (wordsN vs) (((k : Nat) : Int) - 1) = (y, true) := by rw [show ((k : Nat) : Int) - 1 = ((k - 1 : Nat) : Int) by omega, wordAt_get hy]
          refine CW.weaken [(0, _), (3, _), (4, _), (6, _), (7, _), (8, _), (9, _), (10, _), (11, _), (12, (Value.string y)), (13, _), (46, _), (47, _), (48, _), (49, _), (52, _), (53, _), (54, _), (55, _), (56, _), (57, _), (58, _), (59, _), (60, _), (61, _), (62, _), (63, _), (64, _), (65, _), (66, _), (67, _), (68, _), (69, _), (70, _)] ⟨rfl, rfl, rfl, rfl, rfl, rfl, rfl, rfl, rfl, congrArg some (congrArg (fun q : ByteArray × Bool => Value.string q.1) hwy), rfl, rfl, rfl, rfl, rfl, rfl, rfl, rfl, rfl, rfl, rfl, rfl, rfl, rfl, rfl, rfl, rfl, rfl, rfl, rfl, rfl, rfl, rfl, rfl, trivial⟩ ?_
          refine CW.region ?_
          refine RT.ev rfl rfl (Ev.move rfl) ?_
          refine RT.ev rfl rfl (Ev.notB rfl) ?_
          refine RT.ev rfl rfl (Ev.move rfl) ?_
          refine RT.yes rfl rfl rfl (rfl) ?_
          refine RT.ev rfl rfl (Ev.move rfl) ?_
          refine RT.yes rfl rfl rfl (rfl) ?_
          refine RT.ev rfl rfl (Ev.notB rfl) ?_
          refine RT.ev rfl rfl (Ev.pickN rfl (rfl) rfl) ?_
          refine RT.ev rfl rfl (Ev.move rfl) ?_
          refine RT.yes rfl rfl rfl (rfl) ?_
          refine RT.ev rfl rfl (Ev.move rfl) ?_
          refine RT.yes rfl rfl rfl (rfl) ?_
          refine RT.ev rfl rfl (Ev.move rfl) ?_
          refine RT.yes rfl rfl rfl (rfl) ?_
          refine RT.ev rfl rfl (Ev.neqN rfl rfl) ?_
          refine RT.ev rfl rfl (Ev.pickN rfl (rfl) rfl) ?_
          refine RT.ev rfl rfl (Ev.move rfl) ?_
          refine RT.yes rfl rfl rfl (decide_eq_false (fun h9 => h9 rfl)) ?_
          refine RT.ev rfl rfl (Ev.move rfl) ?_
          refine RT.yes rfl rfl rfl (decide_eq_false (fun h9 => h9 rfl)) ?_
          refine RT.ev rfl rfl (Ev.gtrN (b := 0) rfl rfl) ?_
          refine RT.yes rfl rfl rfl (decide_eq_false (fun h9 => h9 rfl)) ?_
          refine RT.ev rfl rfl (Ev.move rfl) ?_
          refine RT.yes rfl rfl rfl (decide_eq_true (by omega)) ?_
          refine RT.ev rfl rfl (Ev.move rfl) ?_
          refine RT.yes rfl rfl rfl (decide_eq_true (by omega)) ?_
          refine RT.ev rfl rfl (Ev.move rfl) ?_
          refine RT.yes rfl rfl rfl (decide_eq_true (by omega)) ?_
          refine RT.ev rfl rfl (Ev.strGeq rfl rfl) ?_
          refine RT.yes rfl rfl rfl (decide_eq_false (fun h9 => h9 rfl)) ?_
          refine RT.ev rfl rfl (Ev.pickY rfl (decide_eq_true (by omega)) rfl) ?_
          refine RT.ev rfl rfl (Ev.pickN rfl (decide_eq_false (fun h9 => h9 rfl)) rfl) ?_
          refine RT.ev rfl rfl (Ev.move rfl) ?_
          refine RT.yes rfl rfl rfl (decide_eq_false (fun h9 => h9 hyx)) ?_
          refine RT.ev rfl rfl (Ev.move rfl) ?_
          refine RT.yes rfl rfl rfl (decide_eq_false (fun h9 => h9 hyx)) ?_
          refine RT.ev rfl rfl (Ev.move rfl) ?_
          refine RT.yes rfl rfl rfl (decide_eq_false (fun h9 => h9 hyx)) ?_
          refine RT.eff rfl rfl (OpE.call ent40 rfl ((count_ok _ _ _ _ _ _ _ ((k : Nat) : Int) _ (hs_9.lexAt 0 1 2 3 rfl rfl rfl rfl)).mono fun r_10 w_11 h_10 => ?_))
          obtain ⟨rfl, hp_10⟩ := h_10
          have hs_12 : Sat w [cObj lg_1 92 [lvw_1, lvc_1, lvo_1], cL lvw_1 9 (encTx) (wordsN vs), cL lvc_1 3 (encN .i64) (countsN vs), cL lvo_1 3 (encN .i64) (ordN (wordsN vs)), cL lvn_1 3 (encN .i64) (vs.map (lbW (wordsN vs)))] _ := hs_9.adds hp_10
          refine RT.yes rfl rfl rfl (decide_eq_false (fun h9 => h9 hyx)) ?_
          refine RT.ev rfl rfl (Ev.lssN (b := 1) rfl rfl) ?_
          refine RT.ev rfl rfl (Ev.pickN rfl (decide_eq_false (fun h9 => h9 hyx)) rfl) ?_
          refine RT.nil ?_
          refine CW.condF rfl (decide_eq_false (by rw [countAt_get hc]; have := counts_pos hc; omega)) ?_
          refine CW.skip ?_
          refine CW.weaken [(0, _), (3, _), (4, _), (6, _), (7, _), (8, _), (9, _), (10, _), (11, _), (12, _), (49, _), (96, _)] ⟨rfl, rfl, rfl, rfl, rfl, rfl, rfl, rfl, rfl, rfl, rfl, rfl, trivial⟩ ?_
          refine CW.region ?_
          refine RT.ev rfl rfl (Ev.move rfl) ?_
          refine RT.ev rfl rfl (Ev.move rfl) ?_
          refine RT.ev rfl rfl (Ev.move rfl) ?_
          refine RT.eff rfl rfl (OpE.call ent40 rfl ((count_ok _ _ _ _ _ _ _ ((k : Nat) : Int) _ (hs_12.lexAt 0 1 2 3 rfl rfl rfl rfl)).mono fun r_11 w_12 h_11 => ?_))
          obtain ⟨rfl, hp_11⟩ := h_11
          have hs_13 : Sat w [cObj lg_1 92 [lvw_1, lvc_1, lvo_1], cL lvw_1 9 (encTx) (wordsN vs), cL lvc_1 3 (encN .i64) (countsN vs), cL lvo_1 3 (encN .i64) (ordN (wordsN vs)), cL lvn_1 3 (encN .i64) (vs.map (lbW (wordsN vs)))] _ := hs_12.adds hp_11
          refine RT.ev rfl rfl (Ev.addI rfl rfl (by rw [countAt_get hc]; omega)) ?_
          refine RT.ev rfl rfl (Ev.assign rfl) ?_
          refine RT.nil ?_
          refine CW.region ?_
          refine RT.ev rfl rfl (Ev.move rfl) ?_
          refine RT.ev rfl rfl (Ev.addI (b := 1) rfl rfl (by omega)) ?_
          refine RT.ev rfl rfl (Ev.assign rfl) ?_
          refine RT.nil ?_
          exact ⟨(k + 1, (z + (countAt (countsN vs) ((k : Nat) : Int)))), ⟨rfl, rfl, rfl, rfl, rfl, trivial⟩, ⟨hs_13, by omega, by rw [sum_take_snoc hc, hz, countAt_get hc]⟩, (show ((wordsN vs).length - (k + 1)) < ((wordsN vs).length - k) from by omega)⟩
      · refine CW.exit0 ?_
        refine CW.seq ?_
        refine CW.seq ?_
        refine CW.region ?_
        refine RT.ev rfl rfl (Ev.move rfl) ?_
        refine RT.ev rfl rfl (Ev.lenL Try.underlying45 rfl (hv.ext hs_6.ext)) ?_
        refine RT.ev rfl rfl (Ev.move rfl) ?_
        refine RT.nil ?_
        refine CW.block ?_
        refine CW.loop (α := Nat) (fun j => [(0, v), (3, (Value.pointer (some ⟨lg_1, 0, none⟩))), (4, lvn_1), (6, (Value.int .i64 ((z : Nat) : Int))), (102, v), (103, (Value.int .i64 ((vs.length : Nat) : Int))), (104, (Value.int .i64 ((j : Nat) : Int)))]) (fun j w' => Sat w [cObj lg_1 92 [lvw_1, lvc_1, lvo_1], cL lvw_1 9 (encTx) (wordsN vs), cL lvc_1 3 (encN .i64) (countsN vs), cL lvo_1 3 (encN .i64) (ordN (wordsN vs)), cL lvn_1 3 (encN .i64) (vs.map (lbW (wordsN vs)))] w' ∧ (j ≤ vs.length)) (fun j => vs.length - j) 0 ⟨rfl, rfl, rfl, rfl, rfl, rfl, rfl, trivial⟩ ⟨hs_6, Nat.zero_le _⟩ ?_
        rintro j w_13 ⟨hs_14, hj⟩
        show CW _ _ _ _ [(0, v), (3, (Value.pointer (some ⟨lg_1, 0, none⟩))), (4, lvn_1), (6, (Value.int .i64 ((z : Nat) : Int))), (102, v), (103, (Value.int .i64 ((vs.length : Nat) : Int))), (104, (Value.int .i64 ((j : Nat) : Int)))] _
        refine CW.seq ?_
        refine CW.region ?_
        refine RT.ev rfl rfl (Ev.lssN rfl rfl) ?_
        refine RT.nil ?_
        refine CW.seq ?_
        refine CW.condD rfl (fun hc_2 => ?_) (fun hc_2 => ?_)
        · refine CW.skip ?_
          refine CW.seq ?_
          refine CW.block ?_
          refine CW.seq ?_
          obtain ⟨x, hx⟩ : ∃ x, (vs)[j]? = some x := ⟨_, List.getElem?_eq_getElem hc_2⟩
          refine CW.region ?_
          refine RT.ev rfl rfl (Ev.move rfl) ?_
          refine RT.ev rfl rfl (Ev.idxL (E := encTx) sl45 rfl rfl (hv.ext hs_14.ext) (by omega)) ?_
          refine RT.ev rfl rfl (Ev.ldL (E := encTx) scal9 rfl (hv.ext hs_14.ext) hx (by decide) rfl) ?_
          refine RT.ev rfl rfl (Ev.assign rfl) ?_
          refine RT.ev rfl rfl (Ev.assign rfl) ?_
          refine RT.nil ?_
          refine CW.seq ?_
          have hx' : (vs.map (lbW (wordsN vs)))[j]? = some (lbW (wordsN vs) x) := by rw [List.getElem?_map, hx]; rfl
          have hwx := wordsN_get (List.mem_of_getElem? hx)
          refine CW.region ?_
          refine RT.ev rfl rfl (Ev.move rfl) ?_
          refine RT.ev rfl rfl (Ev.move rfl) ?_
          refine RT.ev rfl rfl (Ev.move rfl) ?_
          refine RT.ev rfl rfl (Ev.idxL (E := encN .i64) sl22 rfl rfl (hs_14.rdL 4 rfl) (by simp only [List.length_map]; omega)) ?_
          refine RT.ev rfl rfl (Ev.ldL (E := encN .i64) scal3 rfl (hs_14.rdL 4 rfl) hx' (by decide) rfl) ?_
          refine RT.eff rfl rfl (OpE.call ent39 rfl ((word_ok _ _ _ _ _ _ _ (((lbW (wordsN vs) x) : Nat) : Int) _ (hs_14.lexAt 0 1 2 3 rfl rfl rfl rfl)).mono fun r_12 w_14 h_12 => ?_))
          obtain ⟨rfl, hp_12⟩ := h_12
          have hs_15 : Sat w [cObj lg_1 92 [lvw_1, lvc_1, lvo_1], cL lvw_1 9 (encTx) (wordsN vs), cL lvc_1 3 (encN .i64) (countsN vs), cL lvo_1 3 (encN .i64) (ordN (wordsN vs)), cL lvn_1 3 (encN .i64) (vs.map (lbW (wordsN vs)))] _ := hs_14.adds hp_12
          refine RT.ev rfl rfl (Ev.move rfl) ?_
          refine RT.ev rfl rfl (Ev.extract rfl rfl) ?_
          refine RT.ev rfl rfl (Ev.extract rfl rfl) ?_
          refine RT.ev rfl rfl (Ev.assign rfl) ?_
          refine RT.ev rfl rfl (Ev.assign rfl) ?_
          refine RT.nil ?_
          refine CW.seq ?_
          refine CW.weaken [(0, _), (3, _), (4, _), (6, _), (14, _), (15, _), (16, (Value.string x)), (17, _), (102, _), (103, _), (104, _), (105, _), (106, _), (107, _), (108, _), (109, _), (110, _), (111, _), (112, _), (113, _), (114, _), (115, _), (116, _), (117, _)] ⟨rfl, rfl, rfl, rfl, rfl, rfl, congrArg some (congrArg (fun q : ByteArray × Bool => Value.string q.1) (wordAt_get hwx)), rfl, rfl, rfl, rfl, rfl, rfl, rfl, rfl, rfl, rfl, rfl, rfl, rfl, rfl, rfl, rfl, rfl, trivial⟩ ?_
          refine CW.weaken [(0, _), (3, _), (4, _), (6, _), (14, _), (15, _), (16, _), (17, (Value.bool true)), (102, _), (103, _), (104, _), (105, _), (106, _), (107, _), (108, _), (109, _), (110, _), (111, _), (112, _), (113, _), (114, _), (115, _), (116, _), (117, _)] ⟨rfl, rfl, rfl, rfl, rfl, rfl, rfl, congrArg some (congrArg (fun q : ByteArray × Bool => Value.bool q.2) (wordAt_get hwx)), rfl, rfl, rfl, rfl, rfl, rfl, rfl, rfl, rfl, rfl, rfl, rfl, rfl, rfl, rfl, rfl, trivial⟩ ?_
          refine CW.region ?_
          refine RT.ev rfl rfl (Ev.move rfl) ?_
          refine RT.ev rfl rfl (Ev.notB rfl) ?_
          refine RT.ev rfl rfl (Ev.move rfl) ?_
          refine RT.yes rfl rfl rfl (rfl) ?_
          refine RT.ev rfl rfl (Ev.move rfl) ?_
          refine RT.yes rfl rfl rfl (rfl) ?_
          refine RT.ev rfl rfl (Ev.move rfl) ?_
          refine RT.yes rfl rfl rfl (rfl) ?_
          refine RT.ev rfl rfl (Ev.strNeq rfl rfl) ?_
          refine RT.ev rfl rfl (Ev.pickN rfl (rfl) rfl) ?_
          refine RT.nil ?_
          refine CW.condF rfl (decide_eq_false (fun h9 => h9 rfl)) ?_
          refine CW.skip ?_
          refine CW.region ?_
          refine RT.ev rfl rfl (Ev.addI (b := 1) rfl rfl (by omega)) ?_
          refine RT.ev rfl rfl (Ev.move rfl) ?_
          refine RT.nil ?_
          exact ⟨j + 1, ⟨rfl, rfl, rfl, rfl, rfl, rfl, rfl, trivial⟩, ⟨hs_15, by omega⟩, (show (vs.length - (j + 1)) < (vs.length - j) from by omega)⟩
        · refine CW.exit0 ?_
          refine CW.seq ?_
          refine CW.region ?_
          refine RT.ev rfl rfl (Ev.move rfl) ?_
          refine RT.ev rfl rfl (Ev.move rfl) ?_
          refine RT.ev rfl rfl (Ev.lenL Try.underlying45 rfl (hv.ext hs_14.ext)) ?_
          refine RT.ev rfl rfl (Ev.eqlN rfl rfl) ?_
          refine RT.ev rfl rfl (Ev.move rfl) ?_
          refine RT.yes rfl rfl rfl (decide_eq_true (by rw [hz, List.take_of_length_le (by rw [countsN_length]; omega), counts_sum])) ?_
          refine RT.eff rfl rfl (OpE.call ent33 rfl ((lawake_ok _).mono fun r_13 w_15 h_13 => ?_))
          obtain ⟨rfl, hp_13⟩ := h_13
          have hs_16 : Sat w [cObj lg_1 92 [lvw_1, lvc_1, lvo_1], cL lvw_1 9 (encTx) (wordsN vs), cL lvc_1 3 (encN .i64) (countsN vs), cL lvo_1 3 (encN .i64) (ordN (wordsN vs)), cL lvn_1 3 (encN .i64) (vs.map (lbW (wordsN vs)))] _ := hs_14.adds hp_13
          refine RT.ev rfl rfl (Ev.pickY rfl (decide_eq_true (by rw [hz, List.take_of_length_le (by rw [countsN_length]; omega), counts_sum])) rfl) ?_
          refine RT.ev rfl rfl (Ev.assign rfl) ?_
          refine RT.nil ?_
          refine CW.ret ?_
          show PostK _ _ _ _ _ _
          refine post1 rfl rfl ?_
          have hs_17 : Sat w [] w_15 := hs_16.sub ((.cons _ (.cons _ (.cons _ (.cons _ (.cons _ .slnil))))))
          exact ⟨rfl, hs_17⟩
  · refine CW.region ?_
    refine RT.ev rfl rfl (Ev.move rfl) ?_
    refine RT.eff rfl rfl (OpE.call ent32 rfl ((lbuild_err (hv.ext hs0.ext) he).mono fun r_14 w_16 h_14 => ?_))
    obtain ⟨rfl, hp_14⟩ := h_14
    have hs_18 : Sat w [] _ := hs0.adds hp_14
    refine RT.ev rfl rfl (Ev.move rfl) ?_
    refine RT.ev rfl rfl (Ev.extract rfl rfl) ?_
    refine RT.ev rfl rfl (Ev.extract rfl rfl) ?_
    refine RT.ev rfl rfl (Ev.extract rfl rfl) ?_
    refine RT.ev rfl rfl (Ev.assign rfl) ?_
    refine RT.ev rfl rfl (Ev.assign rfl) ?_
    refine RT.ev rfl rfl (Ev.assign rfl) ?_
    refine RT.nil ?_
    refine CW.seq ?_
    refine CW.seq ?_
    refine CW.region ?_
    refine RT.ev rfl rfl (Ev.move rfl) ?_
    refine RT.eff rfl rfl (OpE.call ent35 rfl ((long_ok _ _ _ (hv.ext hs_18.ext) (hn)).mono fun r_15 w_17 h_15 => ?_))
    obtain ⟨⟨lb_2, rfl⟩, hp_15⟩ := h_15
    have hs_19 : Sat w [] _ := hs_18.adds hp_15
    refine RT.ev rfl rfl (Ev.move rfl) ?_
    by_cases hg_2 : lb_2 = true
    · refine RT.no rfl rfl rfl (hg_2) rfl ?_
      refine RT.no rfl rfl rfl (hg_2) rfl ?_
      refine RT.ev rfl rfl (Ev.pickY rfl (hg_2) rfl) ?_
      refine RT.nil ?_
      refine CW.condT rfl (rfl) ?_
      refine CW.seq ?_
      refine CW.region ?_
      refine RT.ev rfl rfl (Ev.assign rfl) ?_
      refine RT.nil ?_
      refine CW.ret ?_
      show PostK _ _ _ _ _ _
      refine post1 rfl rfl ?_
      have hs_20 : Sat w [] w_17 := hs_19.sub (.slnil)
      exact ⟨rfl, hs_20⟩
    · refine RT.yes rfl rfl rfl (by simpa using hg_2) ?_
      refine RT.ev rfl rfl (Ev.move rfl) ?_
      refine RT.yes rfl rfl rfl (by simpa using hg_2) ?_
      refine RT.ev rfl rfl (Ev.neqN (b := 0) rfl rfl) ?_
      refine RT.ev rfl rfl (Ev.pickN rfl (by simpa using hg_2) rfl) ?_
      refine RT.nil ?_
      refine CW.condT rfl (decide_eq_true (fun h9 => he (by omega))) ?_
      refine CW.seq ?_
      refine CW.region ?_
      refine RT.ev rfl rfl (Ev.assign rfl) ?_
      refine RT.nil ?_
      refine CW.ret ?_
      show PostK _ _ _ _ _ _
      refine post1 rfl rfl ?_
      have hs_21 : Sat w [] w_17 := hs_19.sub (.slnil)
      exact ⟨rfl, hs_21⟩

end Go.Proofs.Ytfhbflhnelbkfaa
