/- The walks of the functions of F13a, printed by our own program (kwgen.py) out of our descriptions (base.py). -/
import Derived.Test.YtfhbflhnelbkfaaF13p
import Derived.Test.YtfhbflhnelbkfaaKq
import Derived.Test.YtfhbflhnelbkfaaTab
namespace Go.Proofs.Ytfhbflhnelbkfaa
open Go.RowKit Go.Kw
set_option maxRecDepth 100000
set_option linter.unusedVariables false
set_option linter.unusedSimpArgs false
theorem pref_ways {W : List ByteArray} (h : Asc W) (s : ByteArray) {n : Nat} {x : ByteArray} (hx : W[n]? = some x) : (preB s x = true ∧ (prefN W s).1 ≤ n ∧ n < (prefN W s).2) ∨ (¬ preB s x = true ∧ ¬ (prefN W s).1 ≤ n) ∨ (¬ preB s x = true ∧ (prefN W s).1 ≤ n ∧ ¬ n < (prefN W s).2) := by
  have h9 := pre_iff h s hx
  unfold prefN
  by_cases h8 : preB s x = true
  · have := h9.1 h8
    rw [if_neg (by omega)]
    exact .inl ⟨h8, this⟩
  · have hno : ¬ (lbW W s ≤ n ∧ n < lbW W s + preN W s) := fun h6 => h8 (h9.2 h6)
    split
    · exact .inr (.inr ⟨h8, Nat.zero_le _, Nat.not_lt_zero _⟩)
    · by_cases h7 : lbW W s ≤ n
      · exact .inr (.inr ⟨h8, h7, fun h6 => hno ⟨h7, h6⟩⟩)
      · exact .inr (.inl ⟨h8, h7⟩)
theorem suf_at {W : List ByteArray} {O : List Nat} {s : ByteArray} {k n : Nat} {x : ByteArray} (hn : O[k]? = some n) (hx : W[n]? = some x) (h : sufB s x = true) : (sufN W O s)[(sufN W (O.take k) s).length]? = some n := by
  have e : O = O.take k ++ n :: O.drop (k + 1) := by rw [← drop_at hn, List.take_append_drop]
  unfold sufN
  conv => lhs; arg 1; rw [e, List.filter_append, List.filter_cons, if_pos (by rw [getD_of hx]; exact h)]
  rw [List.getElem?_append_right (Nat.le_refl _), Nat.sub_self]; rfl
theorem bld_okW {vs : List ByteArray} (h : bldE vs = 0) : okW (wordsN vs) := chk_okW (bld_chk h)
theorem ord_lt {vs : List ByteArray} (h : bldE vs = 0) {i j a b : Nat} (hi : (ordN (wordsN vs))[i]? = some a) (hj : (ordN (wordsN vs))[j]? = some b) (hij : i < j) : SLt (rvN (wordsN vs) a) (rvN (wordsN vs) b) := by
  have hp := ordF_asc (bld_okW h) _ (Nat.le_refl (wordsN vs).length)
  obtain ⟨h1, e1⟩ := List.getElem?_eq_some_iff.1 hi
  obtain ⟨h2, e2⟩ := List.getElem?_eq_some_iff.1 hj
  have := (List.pairwise_iff_getElem.1 hp) i j h1 h2 hij
  subst e1; subst e2; exact this

theorem lexiconAffixes_ok (v : Value) (vs : List ByteArray) (s : ByteArray) (w : World) (hv : RdL w v encTx vs) (hn : vs.length ≤ 9223372036854775807) :
    CallsV Try.prog 14 [v, (Value.string s)] w fun r w' => r = .bool true ∧ Sat w [] w' := by
  have hs0 := Sat.start w
  refine callsV_of Try.func14 rfl rfl ?_
  refine CW.seq ?_
  refine CW.region ?_
  refine RT.ev rfl rfl (Ev.assign rfl) ?_
  refine RT.nil ?_
  refine CW.seq ?_
  rcases Decidable.em (bldE vs = 0) with he | he
  · refine CW.region ?_
    refine RT.ev rfl rfl (Ev.move rfl) ?_
    refine RT.eff rfl rfl (OpE.call ent32 rfl ((lbuild_good (hv.ext hs0.ext) he).mono fun r_1 w_1 h_1 => ?_))
    obtain ⟨lg_1, lvw_1, lvc_1, lvo_1, lvn_1, rfl, hp_1⟩ := h_1
    have hs_1 : Sat w [cObj lg_1 92 [lvw_1, lvc_1, lvo_1], cL lvw_1 9 (encTx) (wordsN vs), cL lvc_1 3 (encN .i64) (countsN vs), cL lvo_1 3 (encN .i64) (ordN (wordsN vs)), cL lvn_1 3 (encN .i64) (vs.map (lbW (wordsN vs)))] _ := hs0.adds hp_1
    refine RT.ev rfl rfl (Ev.move rfl) ?_
    refine RT.ev rfl rfl (Ev.extract rfl rfl) ?_
    refine RT.ev rfl rfl (Ev.extract rfl rfl) ?_
    refine RT.ev rfl rfl (Ev.extract rfl rfl) ?_
    refine RT.ev rfl rfl (Ev.assign rfl) ?_
    refine RT.ev rfl rfl (Ev.assign rfl) ?_
    refine RT.ev rfl rfl (Ev.assign rfl) ?_
    refine RT.nil ?_
    refine CW.seq ?_
    refine CW.seq ?_
    refine CW.region ?_
    refine RT.ev rfl rfl (Ev.move rfl) ?_
    refine RT.eff rfl rfl (OpE.call ent35 rfl ((long_ok _ _ _ (hv.ext hs_1.ext) (hn)).mono fun r_2 w_2 h_2 => ?_))
    obtain ⟨⟨lb_1, rfl⟩, hp_2⟩ := h_2
    have hs_2 : Sat w [cObj lg_1 92 [lvw_1, lvc_1, lvo_1], cL lvw_1 9 (encTx) (wordsN vs), cL lvc_1 3 (encN .i64) (countsN vs), cL lvo_1 3 (encN .i64) (ordN (wordsN vs)), cL lvn_1 3 (encN .i64) (vs.map (lbW (wordsN vs)))] _ := hs_1.adds hp_2
    refine RT.ev rfl rfl (Ev.move rfl) ?_
    by_cases hg_1 : lb_1 = true
    · refine RT.no rfl rfl rfl (hg_1) rfl ?_
      refine RT.no rfl rfl rfl (hg_1) rfl ?_
      refine RT.ev rfl rfl (Ev.pickY rfl (hg_1) rfl) ?_
      refine RT.nil ?_
      refine CW.condT rfl (rfl) ?_
      refine CW.seq ?_
      refine CW.region ?_
      refine RT.ev rfl rfl (Ev.assign rfl) ?_
      refine RT.nil ?_
      refine CW.ret ?_
      show PostK _ _ _ _ _ _
      refine post1 rfl rfl ?_
      have hs_3 : Sat w [] w_2 := hs_2.sub ((.cons _ (.cons _ (.cons _ (.cons _ (.cons _ .slnil))))))
      exact ⟨rfl, hs_3⟩
    · refine RT.yes rfl rfl rfl (by simpa using hg_1) ?_
      refine RT.ev rfl rfl (Ev.move rfl) ?_
      refine RT.yes rfl rfl rfl (by simpa using hg_1) ?_
      refine RT.ev rfl rfl (Ev.neqN (a := 0) (b := 0) rfl rfl) ?_
      refine RT.ev rfl rfl (Ev.pickN rfl (by simpa using hg_1) rfl) ?_
      refine RT.nil ?_
      refine CW.condF rfl (rfl) ?_
      refine CW.skip ?_
      refine CW.seq ?_
      refine CW.seq ?_
      refine CW.region ?_
      refine RT.ev rfl rfl (Ev.move rfl) ?_
      refine RT.ev rfl rfl (Ev.eqlPt Try.underlying46 rfl rfl) ?_
      refine RT.ev rfl rfl (Ev.move rfl) ?_
      refine RT.yes rfl rfl rfl (rfl) ?_
      refine RT.ev rfl rfl (Ev.move rfl) ?_
      refine RT.yes rfl rfl rfl (rfl) ?_
      refine RT.eff rfl rfl (OpE.call ent34 rfl ((size_ok _ _ _ _ _ _ _ _ (hs_2.lexAt 0 1 2 3 rfl rfl rfl rfl)).mono fun r_3 w_3 h_3 => ?_))
      obtain ⟨rfl, hp_3⟩ := h_3
      have hs_4 : Sat w [cObj lg_1 92 [lvw_1, lvc_1, lvo_1], cL lvw_1 9 (encTx) (wordsN vs), cL lvc_1 3 (encN .i64) (countsN vs), cL lvo_1 3 (encN .i64) (ordN (wordsN vs)), cL lvn_1 3 (encN .i64) (vs.map (lbW (wordsN vs)))] _ := hs_2.adds hp_3
      refine RT.yes rfl rfl rfl (rfl) ?_
      refine RT.ev rfl rfl (Ev.move rfl) ?_
      refine RT.yes rfl rfl rfl (rfl) ?_
      refine RT.ev rfl rfl (Ev.lenL Try.underlying45 rfl (hv.ext hs_4.ext)) ?_
      refine RT.yes rfl rfl rfl (rfl) ?_
      refine RT.ev rfl rfl (Ev.gtrN rfl rfl) ?_
      refine RT.ev rfl rfl (Ev.pickN rfl (rfl) rfl) ?_
      refine RT.nil ?_
      refine CW.condF rfl (decide_eq_false (Nat.not_lt.2 (wordsN_length vs))) ?_
      refine CW.skip ?_
      refine CW.seq ?_
      refine CW.region ?_
      refine RT.ev rfl rfl (Ev.move rfl) ?_
      refine RT.ev rfl rfl (Ev.move rfl) ?_
      refine RT.eff rfl rfl (OpE.call ent41 rfl ((prefix_ok _ _ _ _ _ _ _ s _ (hs_4.lexAt 0 1 2 3 rfl rfl rfl rfl) (wordsN_asc vs) (by have := bld_len he; omega)).mono fun r_4 w_4 h_4 => ?_))
      obtain ⟨rfl, hp_4⟩ := h_4
      have hs_5 : Sat w [cObj lg_1 92 [lvw_1, lvc_1, lvo_1], cL lvw_1 9 (encTx) (wordsN vs), cL lvc_1 3 (encN .i64) (countsN vs), cL lvo_1 3 (encN .i64) (ordN (wordsN vs)), cL lvn_1 3 (encN .i64) (vs.map (lbW (wordsN vs)))] _ := hs_4.adds hp_4
      refine RT.ev rfl rfl (Ev.move rfl) ?_
      refine RT.ev rfl rfl (Ev.extract rfl rfl) ?_
      refine RT.ev rfl rfl (Ev.extract rfl rfl) ?_
      refine RT.ev rfl rfl (Ev.assign rfl) ?_
      refine RT.ev rfl rfl (Ev.assign rfl) ?_
      refine RT.nil ?_
      refine CW.seq ?_
      refine CW.region ?_
      refine RT.ev rfl rfl (Ev.move rfl) ?_
      refine RT.eff rfl rfl (OpE.call ent45 rfl ((byReverse_ok _ _ _ _ _ _ _ _ (hs_5.lexAt 0 1 2 3 rfl rfl rfl rfl) (ord_len he)).mono fun r_5 w_5 h_5 => ?_))
      have hp_5 := h_5
      have hs_6 : Sat w [cObj lg_1 92 [lvw_1, lvc_1, lvo_1], cL lvw_1 9 (encTx) (wordsN vs), cL lvc_1 3 (encN .i64) (countsN vs), cL lvo_1 3 (encN .i64) (ordN (wordsN vs)), cL lvn_1 3 (encN .i64) (vs.map (lbW (wordsN vs))), cL r_5 3 (encN .i64) (ordN (wordsN vs))] _ := hs_5.adds hp_5
      refine RT.ev rfl rfl (Ev.move rfl) ?_
      refine RT.ev rfl rfl (Ev.move rfl) ?_
      refine RT.eff rfl rfl (OpE.call ent43 rfl ((suffix_ok _ _ _ _ _ _ _ s _ (hs_6.lexAt 0 1 2 3 rfl rfl rfl rfl) (bld_ord) (bld_sz he) (ord_len he)).mono fun r_6 w_6 h_6 => ?_))
      have hp_6 := h_6
      have hs_7 : Sat w [cObj lg_1 92 [lvw_1, lvc_1, lvo_1], cL lvw_1 9 (encTx) (wordsN vs), cL lvc_1 3 (encN .i64) (countsN vs), cL lvo_1 3 (encN .i64) (ordN (wordsN vs)), cL lvn_1 3 (encN .i64) (vs.map (lbW (wordsN vs))), cL r_5 3 (encN .i64) (ordN (wordsN vs)), cL r_6 3 (encN .i64) (sufN (wordsN vs) (ordN (wordsN vs)) s)] _ := hs_6.adds hp_6
      refine RT.ev rfl rfl (Ev.assign rfl) ?_
      refine RT.ev rfl rfl (Ev.assign rfl) ?_
      refine RT.nil ?_
      refine CW.seq ?_
      refine CW.seq ?_
      refine CW.weaken [(0, _), (1, _), (4, _), (5, _), (7, _), (8, _), (9, _), (10, _), (11, _), (31, _), (40, _)] ⟨rfl, rfl, rfl, rfl, rfl, rfl, rfl, rfl, rfl, rfl, rfl, trivial⟩ ?_
      refine CW.region ?_
      refine RT.ev rfl rfl (Ev.move rfl) ?_
      refine RT.ev rfl rfl (Ev.lenL Try.underlying22 rfl (hs_7.rdL 5 rfl)) ?_
      refine RT.ev rfl rfl (Ev.move rfl) ?_
      refine RT.eff rfl rfl (OpE.call ent34 rfl ((size_ok _ _ _ _ _ _ _ _ (hs_7.lexAt 0 1 2 3 rfl rfl rfl rfl)).mono fun r_7 w_7 h_7 => ?_))
      obtain ⟨rfl, hp_7⟩ := h_7
      have hs_8 : Sat w [cObj lg_1 92 [lvw_1, lvc_1, lvo_1], cL lvw_1 9 (encTx) (wordsN vs), cL lvc_1 3 (encN .i64) (countsN vs), cL lvo_1 3 (encN .i64) (ordN (wordsN vs)), cL lvn_1 3 (encN .i64) (vs.map (lbW (wordsN vs))), cL r_5 3 (encN .i64) (ordN (wordsN vs)), cL r_6 3 (encN .i64) (sufN (wordsN vs) (ordN (wordsN vs)) s)] _ := hs_7.adds hp_7
      refine RT.ev rfl rfl (Ev.neqN rfl rfl) ?_
      refine RT.ev rfl rfl (Ev.move rfl) ?_
      refine RT.yes rfl rfl rfl (decide_eq_false (fun h9 => h9 (ordN_length _))) ?_
      refine RT.ev rfl rfl (Ev.move rfl) ?_
      refine RT.yes rfl rfl rfl (decide_eq_false (fun h9 => h9 (ordN_length _))) ?_
      refine RT.ev rfl rfl (Ev.lenL Try.underlying22 rfl (hs_8.rdL 6 rfl)) ?_
      refine RT.yes rfl rfl rfl (decide_eq_false (fun h9 => h9 (ordN_length _))) ?_
      refine RT.ev rfl rfl (Ev.move rfl) ?_
      refine RT.yes rfl rfl rfl (decide_eq_false (fun h9 => h9 (ordN_length _))) ?_
      refine RT.ev rfl rfl (Ev.lenL Try.underlying22 rfl (hs_8.rdL 5 rfl)) ?_
      refine RT.yes rfl rfl rfl (decide_eq_false (fun h9 => h9 (ordN_length _))) ?_
      refine RT.ev rfl rfl (Ev.gtrN rfl rfl) ?_
      refine RT.ev rfl rfl (Ev.pickN rfl (decide_eq_false (fun h9 => h9 (ordN_length _))) rfl) ?_
      refine RT.nil ?_
      refine CW.condF rfl (decide_eq_false (Nat.not_lt.2 (List.length_filter_le _ _))) ?_
      refine CW.skip ?_
      refine CW.seq ?_
      refine CW.region ?_
      refine RT.ev rfl rfl (Ev.assign rfl) ?_
      refine RT.ev rfl rfl (Ev.assign rfl) ?_
      refine RT.nil ?_
      refine CW.seq ?_
      refine CW.seq ?_
      have hol := ord_len he
      have hsl : (sufN (wordsN vs) (ordN (wordsN vs)) s).length ≤ (ordN (wordsN vs)).length := List.length_filter_le _ _
      refine CW.region ?_
      refine RT.ev rfl rfl (Ev.move rfl) ?_
      refine RT.ev rfl rfl (Ev.lenL Try.underlying22 rfl (hs_8.rdL 5 rfl)) ?_
      refine RT.ev rfl rfl (Ev.move rfl) ?_
      refine RT.nil ?_
      refine CW.block ?_
      refine CW.loop (α := Nat × ByteArray × Nat) (fun (k, pv, z) => [(1, (Value.string s)), (5, (Value.pointer (some ⟨lg_1, 0, none⟩))), (8, (Value.int .i64 (((prefN (wordsN vs) s).1 : Nat) : Int))), (9, (Value.int .i64 (((prefN (wordsN vs) s).2 : Nat) : Int))), (11, r_6), (12, (Value.string pv)), (13, (Value.int .i64 ((z : Nat) : Int))), (64, r_5), (65, (Value.int .i64 (((ordN (wordsN vs)).length : Nat) : Int))), (66, (Value.int .i64 ((k : Nat) : Int)))]) (fun (k, pv, z) w' => Sat w [cObj lg_1 92 [lvw_1, lvc_1, lvo_1], cL lvw_1 9 (encTx) (wordsN vs), cL lvc_1 3 (encN .i64) (countsN vs), cL lvo_1 3 (encN .i64) (ordN (wordsN vs)), cL lvn_1 3 (encN .i64) (vs.map (lbW (wordsN vs))), cL r_5 3 (encN .i64) (ordN (wordsN vs)), cL r_6 3 (encN .i64) (sufN (wordsN vs) (ordN (wordsN vs)) s)] w' ∧ (k ≤ (ordN (wordsN vs)).length) ∧ (z = (sufN (wordsN vs) ((ordN (wordsN vs)).take k) s).length) ∧ (0 < k → ∃ p, (ordN (wordsN vs))[k - 1]? = some p ∧ pv = rvN (wordsN vs) p)) (fun (k, pv, z) => (ordN (wordsN vs)).length - k) (0, (ByteArray.mk #[]), 0) ⟨rfl, rfl, rfl, rfl, rfl, rfl, rfl, rfl, rfl, rfl, trivial⟩ ⟨hs_8, Nat.zero_le _, rfl, fun h9 => absurd h9 (Nat.lt_irrefl 0)⟩ ?_
      rintro ⟨k, pv, z⟩ w_8 ⟨hs_9, hk, hz, hpv⟩
      show CW _ _ _ _ [(1, (Value.string s)), (5, (Value.pointer (some ⟨lg_1, 0, none⟩))), (8, (Value.int .i64 (((prefN (wordsN vs) s).1 : Nat) : Int))), (9, (Value.int .i64 (((prefN (wordsN vs) s).2 : Nat) : Int))), (11, r_6), (12, (Value.string pv)), (13, (Value.int .i64 ((z : Nat) : Int))), (64, r_5), (65, (Value.int .i64 (((ordN (wordsN vs)).length : Nat) : Int))), (66, (Value.int .i64 ((k : Nat) : Int)))] _
      refine CW.seq ?_
      refine CW.region ?_
      refine RT.ev rfl rfl (Ev.lssN rfl rfl) ?_
      refine RT.nil ?_
      refine CW.seq ?_
      refine CW.condD rfl (fun hc_1 => ?_) (fun hc_1 => ?_)
      · refine CW.skip ?_
        refine CW.seq ?_
        refine CW.block ?_
        refine CW.seq ?_
        obtain ⟨n_, hn_⟩ : ∃ n_, (ordN (wordsN vs))[k]? = some n_ := ⟨_, List.getElem?_eq_getElem hc_1⟩
        refine CW.region ?_
        refine RT.ev rfl rfl (Ev.move rfl) ?_
        refine RT.ev rfl rfl (Ev.idxL (E := encN .i64) sl22 rfl rfl (hs_9.rdL 5 rfl) (by omega)) ?_
        refine RT.ev rfl rfl (Ev.ldL (E := encN .i64) scal3 rfl (hs_9.rdL 5 rfl) hn_ (by decide) rfl) ?_
        refine RT.ev rfl rfl (Ev.assign rfl) ?_
        refine RT.ev rfl rfl (Ev.assign rfl) ?_
        refine RT.nil ?_
        refine CW.seq ?_
        have hnw := bld_ord n_ (List.mem_of_getElem? hn_)
        obtain ⟨x, hx⟩ : ∃ x, (wordsN vs)[n_]? = some x := ⟨_, List.getElem?_eq_getElem hnw⟩
        have hxs := bld_sz he x (List.mem_of_getElem? hx)
        have hst := sufN_snoc (s := s) hn_ hx
        have hrx : rvN (wordsN vs) n_ = revN x := by unfold rvN; rw [getD_of hx]
        refine CW.region ?_
        refine RT.ev rfl rfl (Ev.move rfl) ?_
        refine RT.ev rfl rfl (Ev.move rfl) ?_
        refine RT.eff rfl rfl (OpE.call ent39 rfl ((word_ok _ _ _ _ _ _ _ ((n_ : Nat) : Int) _ (hs_9.lexAt 0 1 2 3 rfl rfl rfl rfl)).mono fun r_8 w_9 h_8 => ?_))
        obtain ⟨rfl, hp_8⟩ := h_8
        have hs_10 : Sat w [cObj lg_1 92 [lvw_1, lvc_1, lvo_1], cL lvw_1 9 (encTx) (wordsN vs), cL lvc_1 3 (encN .i64) (countsN vs), cL lvo_1 3 (encN .i64) (ordN (wordsN vs)), cL lvn_1 3 (encN .i64) (vs.map (lbW (wordsN vs))), cL r_5 3 (encN .i64) (ordN (wordsN vs)), cL r_6 3 (encN .i64) (sufN (wordsN vs) (ordN (wordsN vs)) s)] _ := hs_9.adds hp_8
        refine RT.ev rfl rfl (Ev.move rfl) ?_
        refine RT.ev rfl rfl (Ev.extract rfl rfl) ?_
        refine RT.ev rfl rfl (Ev.extract rfl rfl) ?_
        refine RT.ev rfl rfl (Ev.assign rfl) ?_
        refine RT.ev rfl rfl (Ev.assign rfl) ?_
        refine RT.nil ?_
        refine CW.seq ?_
        refine CW.weaken [(1, _), (5, _), (8, _), (9, _), (11, _), (12, _), (13, _), (14, _), (15, _), (16, (Value.string x)), (17, _), (64, _), (65, _), (66, _), (67, _), (68, _), (69, _), (70, _), (71, _), (72, _), (73, _), (74, _), (75, _), (76, _)] ⟨rfl, rfl, rfl, rfl, rfl, rfl, rfl, rfl, rfl, congrArg some (congrArg (fun q : ByteArray × Bool => Value.string q.1) (wordAt_get hx)), rfl, rfl, rfl, rfl, rfl, rfl, rfl, rfl, rfl, rfl, rfl, rfl, rfl, rfl, trivial⟩ ?_
        refine CW.weaken [(1, _), (5, _), (8, _), (9, _), (11, _), (12, _), (13, _), (14, _), (15, _), (16, _), (17, (Value.bool true)), (64, _), (65, _), (66, _), (67, _), (68, _), (69, _), (70, _), (71, _), (72, _), (73, _), (74, _), (75, _), (76, _)] ⟨rfl, rfl, rfl, rfl, rfl, rfl, rfl, rfl, rfl, rfl, congrArg some (congrArg (fun q : ByteArray × Bool => Value.bool q.2) (wordAt_get hx)), rfl, rfl, rfl, rfl, rfl, rfl, rfl, rfl, rfl, rfl, rfl, rfl, rfl, trivial⟩ ?_
        refine CW.region ?_
        refine RT.ev rfl rfl (Ev.move rfl) ?_
        refine RT.eff rfl rfl (OpE.call ent46 rfl ((reverse_ok x _ (hxs)).mono fun r_9 w_10 h_9 => ?_))
        obtain ⟨rfl, hp_9⟩ := h_9
        have hs_11 : Sat w [cObj lg_1 92 [lvw_1, lvc_1, lvo_1], cL lvw_1 9 (encTx) (wordsN vs), cL lvc_1 3 (encN .i64) (countsN vs), cL lvo_1 3 (encN .i64) (ordN (wordsN vs)), cL lvn_1 3 (encN .i64) (vs.map (lbW (wordsN vs))), cL r_5 3 (encN .i64) (ordN (wordsN vs)), cL r_6 3 (encN .i64) (sufN (wordsN vs) (ordN (wordsN vs)) s)] _ := hs_10.adds hp_9
        refine RT.ev rfl rfl (Ev.assign rfl) ?_
        refine RT.nil ?_
        refine CW.seq ?_
        refine CW.seq ?_
        rcases Nat.eq_zero_or_pos k with hk0 | hk0
        · refine CW.region ?_
          refine RT.ev rfl rfl (Ev.move rfl) ?_
          refine RT.ev rfl rfl (Ev.notB rfl) ?_
          refine RT.ev rfl rfl (Ev.move rfl) ?_
          refine RT.yes rfl rfl rfl (rfl) ?_
          refine RT.ev rfl rfl (Ev.move rfl) ?_
          refine RT.yes rfl rfl rfl (rfl) ?_
          refine RT.ev rfl rfl (Ev.gtrN (b := 0) rfl rfl) ?_
          refine RT.yes rfl rfl rfl (rfl) ?_
          refine RT.ev rfl rfl (Ev.move rfl) ?_
          refine RT.no rfl rfl rfl (decide_eq_false (by omega)) rfl ?_
          refine RT.no rfl rfl rfl (decide_eq_false (by omega)) rfl ?_
          refine RT.no rfl rfl rfl (decide_eq_false (by omega)) rfl ?_
          refine RT.yes rfl rfl rfl (rfl) ?_
          refine RT.ev rfl rfl (Ev.pickN rfl (decide_eq_false (by omega)) rfl) ?_
          refine RT.ev rfl rfl (Ev.pickN rfl (rfl) rfl) ?_
          refine RT.nil ?_
          refine CW.condF rfl (rfl) ?_
          refine CW.skip ?_
          refine CW.seq ?_
          refine CW.region ?_
          refine RT.ev rfl rfl (Ev.move rfl) ?_
          refine RT.ev rfl rfl (Ev.assign rfl) ?_
          refine RT.nil ?_
          refine CW.seq ?_
          refine CW.seq ?_
          refine CW.mid (fun L' w' => Weak [(1, (Value.string s)), (5, (Value.pointer (some ⟨lg_1, 0, none⟩))), (8, (Value.int .i64 (((prefN (wordsN vs) s).1 : Nat) : Int))), (9, (Value.int .i64 (((prefN (wordsN vs) s).2 : Nat) : Int))), (11, r_6), (12, (Value.string (revN x))), (13, (Value.int .i64 ((z : Nat) : Int))), (14, (Value.int .i64 ((k : Nat) : Int))), (15, (Value.int .i64 ((n_ : Nat) : Int))), (16, (Value.string x)), (17, (Value.bool true)), (18, (Value.string (revN x))), (19, (Value.bool (decide ((s.size ≤ x.size) ∧ ((x.extract 0 s.size) = s))))), (64, r_5), (65, (Value.int .i64 (((ordN (wordsN vs)).length : Nat) : Int))), (66, (Value.int .i64 ((k : Nat) : Int))), (67, (Value.bool (decide (k < (ordN (wordsN vs)).length)))), (89, (Value.bool false))] L' ∧ Sat w [cObj lg_1 92 [lvw_1, lvc_1, lvo_1], cL lvw_1 9 (encTx) (wordsN vs), cL lvc_1 3 (encN .i64) (countsN vs), cL lvo_1 3 (encN .i64) (ordN (wordsN vs)), cL lvn_1 3 (encN .i64) (vs.map (lbW (wordsN vs))), cL r_5 3 (encN .i64) (ordN (wordsN vs)), cL r_6 3 (encN .i64) (sufN (wordsN vs) (ordN (wordsN vs)) s)] w') ?_ ?_
          · refine CW.region ?_
            refine RT.ev rfl rfl (Ev.move rfl) ?_
            refine RT.ev rfl rfl (Ev.lenStr Try.underlying9 rfl) ?_
            refine RT.ev rfl rfl (Ev.move rfl) ?_
            refine RT.ev rfl rfl (Ev.lenStr Try.underlying9 rfl) ?_
            refine RT.ev rfl rfl (Ev.geqN rfl rfl) ?_
            refine RT.ev rfl rfl (Ev.move rfl) ?_
            by_cases hg_2 : s.size ≤ x.size
            · refine RT.yes rfl rfl rfl (decide_eq_true hg_2) ?_
              refine RT.ev rfl rfl (Ev.move rfl) ?_
              refine RT.yes rfl rfl rfl (decide_eq_true hg_2) ?_
              refine RT.ev rfl rfl (Ev.move rfl) ?_
              refine RT.yes rfl rfl rfl (decide_eq_true hg_2) ?_
              refine RT.ev rfl rfl (Ev.lenStr Try.underlying9 rfl) ?_
              refine RT.yes rfl rfl rfl (decide_eq_true hg_2) ?_
              refine RT.ev rfl rfl (Ev.sliceStr (l := 0) (h := s.size) Try.underlying9 rfl rfl ⟨_, rfl⟩ (by omega) (by omega)) ?_
              refine RT.yes rfl rfl rfl (decide_eq_true hg_2) ?_
              refine RT.ev rfl rfl (Ev.move rfl) ?_
              refine RT.yes rfl rfl rfl (decide_eq_true hg_2) ?_
              refine RT.ev rfl rfl (Ev.strEql rfl rfl) ?_
              refine RT.ev rfl rfl (Ev.pickY rfl (decide_eq_true hg_2) rfl) ?_
              refine RT.ev rfl rfl (Ev.assign rfl) ?_
              refine RT.nil ?_
              exact ⟨⟨rfl, rfl, rfl, rfl, rfl, rfl, rfl, rfl, rfl, rfl, rfl, rfl, congrArg some (congrArg Value.bool (by simp [hg_2])), rfl, rfl, rfl, rfl, rfl, trivial⟩, hs_11⟩
            · refine RT.no rfl rfl rfl (decide_eq_false hg_2) rfl ?_
              refine RT.no rfl rfl rfl (decide_eq_false hg_2) rfl ?_
              refine RT.no rfl rfl rfl (decide_eq_false hg_2) rfl ?_
              refine RT.no rfl rfl rfl (decide_eq_false hg_2) rfl ?_
              refine RT.no rfl rfl rfl (decide_eq_false hg_2) rfl ?_
              refine RT.no rfl rfl rfl (decide_eq_false hg_2) rfl ?_
              refine RT.ev rfl rfl (Ev.pickN rfl (decide_eq_false hg_2) rfl) ?_
              refine RT.ev rfl rfl (Ev.assign rfl) ?_
              refine RT.nil ?_
              exact ⟨⟨rfl, rfl, rfl, rfl, rfl, rfl, rfl, rfl, rfl, rfl, rfl, rfl, congrArg some (congrArg Value.bool (by simp [hg_2])), rfl, rfl, rfl, rfl, rfl, trivial⟩, hs_11⟩
          · rintro L' w_11 ⟨hw_1, hs_12⟩
            refine CW.weaken _ hw_1 ?_
            refine CW.seq ?_
            rcases pref_ways (wordsN_asc vs) s hx with hpw | hpw | hpw
            · refine CW.weaken [(1, _), (5, _), (8, _), (9, _), (11, _), (12, _), (13, _), (14, _), (15, _), (16, _), (17, _), (18, _), (19, (Value.bool true)), (64, _), (65, _), (66, _), (67, _), (89, _)] ⟨rfl, rfl, rfl, rfl, rfl, rfl, rfl, rfl, rfl, rfl, rfl, rfl, congrArg some (congrArg Value.bool (decide_eq_true (pre_ext.2 hpw.1))), rfl, rfl, rfl, rfl, rfl, trivial⟩ ?_
              refine CW.region ?_
              refine RT.ev rfl rfl (Ev.move rfl) ?_
              refine RT.ev rfl rfl (Ev.move rfl) ?_
              refine RT.ev rfl rfl (Ev.move rfl) ?_
              refine RT.ev rfl rfl (Ev.geqN rfl rfl) ?_
              refine RT.ev rfl rfl (Ev.move rfl) ?_
              refine RT.yes rfl rfl rfl (decide_eq_true hpw.2.1) ?_
              refine RT.ev rfl rfl (Ev.move rfl) ?_
              refine RT.yes rfl rfl rfl (decide_eq_true hpw.2.1) ?_
              refine RT.ev rfl rfl (Ev.move rfl) ?_
              refine RT.yes rfl rfl rfl (decide_eq_true hpw.2.1) ?_
              refine RT.ev rfl rfl (Ev.lssN rfl rfl) ?_
              refine RT.ev rfl rfl (Ev.pickY rfl (decide_eq_true hpw.2.1) rfl) ?_
              refine RT.ev rfl rfl (Ev.neqB Try.underlying4 rfl rfl) ?_
              refine RT.nil ?_
              refine CW.condF rfl (bool_neq (rfl) (decide_eq_true hpw.2.2) rfl) ?_
              refine CW.skip ?_
              refine CW.seq ?_
              refine CW.mid (fun L' w' => Weak [(1, (Value.string s)), (5, (Value.pointer (some ⟨lg_1, 0, none⟩))), (8, (Value.int .i64 (((prefN (wordsN vs) s).1 : Nat) : Int))), (9, (Value.int .i64 (((prefN (wordsN vs) s).2 : Nat) : Int))), (11, r_6), (12, (Value.string (revN x))), (13, (Value.int .i64 ((z : Nat) : Int))), (14, (Value.int .i64 ((k : Nat) : Int))), (15, (Value.int .i64 ((n_ : Nat) : Int))), (16, (Value.string x)), (17, (Value.bool true)), (18, (Value.string (revN x))), (19, (Value.bool true)), (64, r_5), (65, (Value.int .i64 (((ordN (wordsN vs)).length : Nat) : Int))), (66, (Value.int .i64 ((k : Nat) : Int))), (67, (Value.bool (decide (k < (ordN (wordsN vs)).length)))), (89, (Value.bool false)), (113, (Value.bool (!(true == decide (n_ < (prefN (wordsN vs) s).2))))), (129, (Value.bool (decide ((s.size ≤ x.size) ∧ ((x.extract (x.size - s.size) x.size) = s)))))] L' ∧ Sat w [cObj lg_1 92 [lvw_1, lvc_1, lvo_1], cL lvw_1 9 (encTx) (wordsN vs), cL lvc_1 3 (encN .i64) (countsN vs), cL lvo_1 3 (encN .i64) (ordN (wordsN vs)), cL lvn_1 3 (encN .i64) (vs.map (lbW (wordsN vs))), cL r_5 3 (encN .i64) (ordN (wordsN vs)), cL r_6 3 (encN .i64) (sufN (wordsN vs) (ordN (wordsN vs)) s)] w') ?_ ?_
              · refine CW.region ?_
                refine RT.ev rfl rfl (Ev.move rfl) ?_
                refine RT.ev rfl rfl (Ev.lenStr Try.underlying9 rfl) ?_
                refine RT.ev rfl rfl (Ev.move rfl) ?_
                refine RT.ev rfl rfl (Ev.lenStr Try.underlying9 rfl) ?_
                refine RT.ev rfl rfl (Ev.geqN rfl rfl) ?_
                refine RT.ev rfl rfl (Ev.move rfl) ?_
                by_cases hg_3 : s.size ≤ x.size
                · refine RT.yes rfl rfl rfl (decide_eq_true hg_3) ?_
                  refine RT.ev rfl rfl (Ev.move rfl) ?_
                  refine RT.yes rfl rfl rfl (decide_eq_true hg_3) ?_
                  refine RT.ev rfl rfl (Ev.move rfl) ?_
                  refine RT.yes rfl rfl rfl (decide_eq_true hg_3) ?_
                  refine RT.ev rfl rfl (Ev.lenStr Try.underlying9 rfl) ?_
                  refine RT.yes rfl rfl rfl (decide_eq_true hg_3) ?_
                  refine RT.ev rfl rfl (Ev.move rfl) ?_
                  refine RT.yes rfl rfl rfl (decide_eq_true hg_3) ?_
                  refine RT.ev rfl rfl (Ev.lenStr Try.underlying9 rfl) ?_
                  refine RT.yes rfl rfl rfl (decide_eq_true hg_3) ?_
                  refine RT.ev rfl rfl (Ev.subI rfl rfl (by omega) (by omega)) ?_
                  refine RT.yes rfl rfl rfl (decide_eq_true hg_3) ?_
                  refine RT.ev rfl rfl (Ev.sliceStr (l := (x.size - s.size)) (h := x.size) Try.underlying9 rfl ⟨_, rfl⟩ rfl (by omega) (by omega)) ?_
                  refine RT.yes rfl rfl rfl (decide_eq_true hg_3) ?_
                  refine RT.ev rfl rfl (Ev.move rfl) ?_
                  refine RT.yes rfl rfl rfl (decide_eq_true hg_3) ?_
                  refine RT.ev rfl rfl (Ev.strEql rfl rfl) ?_
                  refine RT.ev rfl rfl (Ev.pickY rfl (decide_eq_true hg_3) rfl) ?_
                  refine RT.nil ?_
                  exact ⟨⟨rfl, rfl, rfl, rfl, rfl, rfl, rfl, rfl, rfl, rfl, rfl, rfl, rfl, rfl, rfl, rfl, rfl, rfl, rfl, congrArg some (congrArg Value.bool (by simp [hg_3])), trivial⟩, hs_12⟩
                · refine RT.no rfl rfl rfl (decide_eq_false hg_3) rfl ?_
                  refine RT.no rfl rfl rfl (decide_eq_false hg_3) rfl ?_
                  refine RT.no rfl rfl rfl (decide_eq_false hg_3) rfl ?_
                  refine RT.no rfl rfl rfl (decide_eq_false hg_3) rfl ?_
                  refine RT.no rfl rfl rfl (decide_eq_false hg_3) rfl ?_
                  refine RT.no rfl rfl rfl (decide_eq_false hg_3) rfl ?_
                  refine RT.no rfl rfl rfl (decide_eq_false hg_3) rfl ?_
                  refine RT.no rfl rfl rfl (decide_eq_false hg_3) rfl ?_
                  refine RT.no rfl rfl rfl (decide_eq_false hg_3) rfl ?_
                  refine RT.ev rfl rfl (Ev.pickN rfl (decide_eq_false hg_3) rfl) ?_
                  refine RT.nil ?_
                  exact ⟨⟨rfl, rfl, rfl, rfl, rfl, rfl, rfl, rfl, rfl, rfl, rfl, rfl, rfl, rfl, rfl, rfl, rfl, rfl, rfl, congrArg some (congrArg Value.bool (by simp [hg_3])), trivial⟩, hs_12⟩
              · rintro L' w_12 ⟨hw_2, hs_13⟩
                refine CW.weaken _ hw_2 ?_
                refine CW.condD rfl (fun hc_2 => ?_) (fun hc_2 => ?_)
                · refine CW.seq ?_
                  refine CW.seq ?_
                  have hsa := suf_at hn_ hx (suf_ext.1 hc_2)
                  rw [← hz] at hsa
                  have hzl := (List.getElem?_eq_some_iff.1 hsa).1
                  refine CW.region ?_
                  refine RT.ev rfl rfl (Ev.move rfl) ?_
                  refine RT.ev rfl rfl (Ev.move rfl) ?_
                  refine RT.ev rfl rfl (Ev.lenL Try.underlying22 rfl (hs_13.rdL 6 rfl)) ?_
                  refine RT.ev rfl rfl (Ev.geqN rfl rfl) ?_
                  refine RT.ev rfl rfl (Ev.move rfl) ?_
                  refine RT.yes rfl rfl rfl (decide_eq_false (by omega)) ?_
                  refine RT.ev rfl rfl (Ev.move rfl) ?_
                  refine RT.yes rfl rfl rfl (decide_eq_false (by omega)) ?_
                  refine RT.ev rfl rfl (Ev.move rfl) ?_
                  refine RT.yes rfl rfl rfl (decide_eq_false (by omega)) ?_
                  refine RT.ev rfl rfl (Ev.idxL (E := encN .i64) sl22 rfl rfl (hs_13.rdL 6 rfl) (by omega)) ?_
                  refine RT.yes rfl rfl rfl (decide_eq_false (by omega)) ?_
                  refine RT.ev rfl rfl (Ev.ldL (E := encN .i64) scal3 rfl (hs_13.rdL 6 rfl) hsa (by decide) rfl) ?_
                  refine RT.yes rfl rfl rfl (decide_eq_false (by omega)) ?_
                  refine RT.ev rfl rfl (Ev.move rfl) ?_
                  refine RT.yes rfl rfl rfl (decide_eq_false (by omega)) ?_
                  refine RT.ev rfl rfl (Ev.neqN rfl rfl) ?_
                  refine RT.ev rfl rfl (Ev.pickN rfl (decide_eq_false (by omega)) rfl) ?_
                  refine RT.nil ?_
                  refine CW.condF rfl (decide_eq_false (fun h9 => h9 rfl)) ?_
                  refine CW.skip ?_
                  refine CW.region ?_
                  refine RT.ev rfl rfl (Ev.move rfl) ?_
                  refine RT.ev rfl rfl (Ev.addI (b := 1) rfl rfl (by omega)) ?_
                  refine RT.ev rfl rfl (Ev.assign rfl) ?_
                  refine RT.nil ?_
                  refine CW.region ?_
                  refine RT.ev rfl rfl (Ev.addI (b := 1) rfl rfl (by omega)) ?_
                  refine RT.ev rfl rfl (Ev.move rfl) ?_
                  refine RT.nil ?_
                  exact ⟨(k + 1, (revN x), (z + 1)), ⟨rfl, rfl, rfl, rfl, rfl, rfl, rfl, rfl, rfl, rfl, trivial⟩, ⟨hs_13, by omega, by rw [hst, if_pos (suf_ext.1 hc_2), List.length_append, hz]; rfl, fun _ => ⟨n_, hn_, hrx.symm⟩⟩, (show ((ordN (wordsN vs)).length - (k + 1)) < ((ordN (wordsN vs)).length - k) from by omega)⟩
                · refine CW.skip ?_
                  refine CW.region ?_
                  refine RT.ev rfl rfl (Ev.addI (b := 1) rfl rfl (by omega)) ?_
                  refine RT.ev rfl rfl (Ev.move rfl) ?_
                  refine RT.nil ?_
                  exact ⟨(k + 1, (revN x), z), ⟨rfl, rfl, rfl, rfl, rfl, rfl, rfl, rfl, rfl, rfl, trivial⟩, ⟨hs_13, by omega, by rw [hst, if_neg (fun h9 => hc_2 (suf_ext.2 h9)), hz], fun _ => ⟨n_, hn_, hrx.symm⟩⟩, (show ((ordN (wordsN vs)).length - (k + 1)) < ((ordN (wordsN vs)).length - k) from by omega)⟩
            · refine CW.weaken [(1, _), (5, _), (8, _), (9, _), (11, _), (12, _), (13, _), (14, _), (15, _), (16, _), (17, _), (18, _), (19, (Value.bool false)), (64, _), (65, _), (66, _), (67, _), (89, _)] ⟨rfl, rfl, rfl, rfl, rfl, rfl, rfl, rfl, rfl, rfl, rfl, rfl, congrArg some (congrArg Value.bool (decide_eq_false (fun h9 => hpw.1 (pre_ext.1 h9)))), rfl, rfl, rfl, rfl, rfl, trivial⟩ ?_
              refine CW.region ?_
              refine RT.ev rfl rfl (Ev.move rfl) ?_
              refine RT.ev rfl rfl (Ev.move rfl) ?_
              refine RT.ev rfl rfl (Ev.move rfl) ?_
              refine RT.ev rfl rfl (Ev.geqN rfl rfl) ?_
              refine RT.ev rfl rfl (Ev.move rfl) ?_
              refine RT.no rfl rfl rfl (decide_eq_false hpw.2) rfl ?_
              refine RT.no rfl rfl rfl (decide_eq_false hpw.2) rfl ?_
              refine RT.no rfl rfl rfl (decide_eq_false hpw.2) rfl ?_
              refine RT.ev rfl rfl (Ev.pickN rfl (decide_eq_false hpw.2) rfl) ?_
              refine RT.ev rfl rfl (Ev.neqB Try.underlying4 rfl rfl) ?_
              refine RT.nil ?_
              refine CW.condF rfl (bool_neq (rfl) (rfl) rfl) ?_
              refine CW.skip ?_
              refine CW.seq ?_
              refine CW.mid (fun L' w' => Weak [(1, (Value.string s)), (5, (Value.pointer (some ⟨lg_1, 0, none⟩))), (8, (Value.int .i64 (((prefN (wordsN vs) s).1 : Nat) : Int))), (9, (Value.int .i64 (((prefN (wordsN vs) s).2 : Nat) : Int))), (11, r_6), (12, (Value.string (revN x))), (13, (Value.int .i64 ((z : Nat) : Int))), (14, (Value.int .i64 ((k : Nat) : Int))), (15, (Value.int .i64 ((n_ : Nat) : Int))), (16, (Value.string x)), (17, (Value.bool true)), (18, (Value.string (revN x))), (19, (Value.bool false)), (64, r_5), (65, (Value.int .i64 (((ordN (wordsN vs)).length : Nat) : Int))), (66, (Value.int .i64 ((k : Nat) : Int))), (67, (Value.bool (decide (k < (ordN (wordsN vs)).length)))), (89, (Value.bool false)), (113, (Value.bool (!(false == false)))), (129, (Value.bool (decide ((s.size ≤ x.size) ∧ ((x.extract (x.size - s.size) x.size) = s)))))] L' ∧ Sat w [cObj lg_1 92 [lvw_1, lvc_1, lvo_1], cL lvw_1 9 (encTx) (wordsN vs), cL lvc_1 3 (encN .i64) (countsN vs), cL lvo_1 3 (encN .i64) (ordN (wordsN vs)), cL lvn_1 3 (encN .i64) (vs.map (lbW (wordsN vs))), cL r_5 3 (encN .i64) (ordN (wordsN vs)), cL r_6 3 (encN .i64) (sufN (wordsN vs) (ordN (wordsN vs)) s)] w') ?_ ?_
              · refine CW.region ?_
                refine RT.ev rfl rfl (Ev.move rfl) ?_
                refine RT.ev rfl rfl (Ev.lenStr Try.underlying9 rfl) ?_
                refine RT.ev rfl rfl (Ev.move rfl) ?_
                refine RT.ev rfl rfl (Ev.lenStr Try.underlying9 rfl) ?_
                refine RT.ev rfl rfl (Ev.geqN rfl rfl) ?_
                refine RT.ev rfl rfl (Ev.move rfl) ?_
                by_cases hg_4 : s.size ≤ x.size
                · refine RT.yes rfl rfl rfl (decide_eq_true hg_4) ?_
                  refine RT.ev rfl rfl (Ev.move rfl) ?_
                  refine RT.yes rfl rfl rfl (decide_eq_true hg_4) ?_
                  refine RT.ev rfl rfl (Ev.move rfl) ?_
                  refine RT.yes rfl rfl rfl (decide_eq_true hg_4) ?_
                  refine RT.ev rfl rfl (Ev.lenStr Try.underlying9 rfl) ?_
                  refine RT.yes rfl rfl rfl (decide_eq_true hg_4) ?_
                  refine RT.ev rfl rfl (Ev.move rfl) ?_
                  refine RT.yes rfl rfl rfl (decide_eq_true hg_4) ?_
                  refine RT.ev rfl rfl (Ev.lenStr Try.underlying9 rfl) ?_
                  refine RT.yes rfl rfl rfl (decide_eq_true hg_4) ?_
                  refine RT.ev rfl rfl (Ev.subI rfl rfl (by omega) (by omega)) ?_
                  refine RT.yes rfl rfl rfl (decide_eq_true hg_4) ?_
                  refine RT.ev rfl rfl (Ev.sliceStr (l := (x.size - s.size)) (h := x.size) Try.underlying9 rfl ⟨_, rfl⟩ rfl (by omega) (by omega)) ?_
                  refine RT.yes rfl rfl rfl (decide_eq_true hg_4) ?_
                  refine RT.ev rfl rfl (Ev.move rfl) ?_
                  refine RT.yes rfl rfl rfl (decide_eq_true hg_4) ?_
                  refine RT.ev rfl rfl (Ev.strEql rfl rfl) ?_
                  refine RT.ev rfl rfl (Ev.pickY rfl (decide_eq_true hg_4) rfl) ?_
                  refine RT.nil ?_
                  exact ⟨⟨rfl, rfl, rfl, rfl, rfl, rfl, rfl, rfl, rfl, rfl, rfl, rfl, rfl, rfl, rfl, rfl, rfl, rfl, rfl, congrArg some (congrArg Value.bool (by simp [hg_4])), trivial⟩, hs_12⟩
                · refine RT.no rfl rfl rfl (decide_eq_false hg_4) rfl ?_
                  refine RT.no rfl rfl rfl (decide_eq_false hg_4) rfl ?_
                  refine RT.no rfl rfl rfl (decide_eq_false hg_4) rfl ?_
                  refine RT.no rfl rfl rfl (decide_eq_false hg_4) rfl ?_
                  refine RT.no rfl rfl rfl (decide_eq_false hg_4) rfl ?_
                  refine RT.no rfl rfl rfl (decide_eq_false hg_4) rfl ?_
                  refine RT.no rfl rfl rfl (decide_eq_false hg_4) rfl ?_
                  refine RT.no rfl rfl rfl (decide_eq_false hg_4) rfl ?_
                  refine RT.no rfl rfl rfl (decide_eq_false hg_4) rfl ?_
                  refine RT.ev rfl rfl (Ev.pickN rfl (decide_eq_false hg_4) rfl) ?_
                  refine RT.nil ?_
                  exact ⟨⟨rfl, rfl, rfl, rfl, rfl, rfl, rfl, rfl, rfl, rfl, rfl, rfl, rfl, rfl, rfl, rfl, rfl, rfl, rfl, congrArg some (congrArg Value.bool (by simp [hg_4])), trivial⟩, hs_12⟩
              · rintro L' w_13 ⟨hw_3, hs_14⟩
                refine CW.weaken _ hw_3 ?_
                refine CW.condD rfl (fun hc_3 => ?_) (fun hc_3 => ?_)
                · refine CW.seq ?_
                  refine CW.seq ?_
                  have hsa := suf_at hn_ hx (suf_ext.1 hc_3)
                  rw [← hz] at hsa
                  have hzl := (List.getElem?_eq_some_iff.1 hsa).1
                  refine CW.region ?_
                  refine RT.ev rfl rfl (Ev.move rfl) ?_
                  refine RT.ev rfl rfl (Ev.move rfl) ?_
                  refine RT.ev rfl rfl (Ev.lenL Try.underlying22 rfl (hs_14.rdL 6 rfl)) ?_
                  refine RT.ev rfl rfl (Ev.geqN rfl rfl) ?_
                  refine RT.ev rfl rfl (Ev.move rfl) ?_
                  refine RT.yes rfl rfl rfl (decide_eq_false (by omega)) ?_
                  refine RT.ev rfl rfl (Ev.move rfl) ?_
                  refine RT.yes rfl rfl rfl (decide_eq_false (by omega)) ?_
                  refine RT.ev rfl rfl (Ev.move rfl) ?_
                  refine RT.yes rfl rfl rfl (decide_eq_false (by omega)) ?_
                  refine RT.ev rfl rfl (Ev.idxL (E := encN .i64) sl22 rfl rfl (hs_14.rdL 6 rfl) (by omega)) ?_
                  refine RT.yes rfl rfl rfl (decide_eq_false (by omega)) ?_
                  refine RT.ev rfl rfl (Ev.ldL (E := encN .i64) scal3 rfl (hs_14.rdL 6 rfl) hsa (by decide) rfl) ?_
                  refine RT.yes rfl rfl rfl (decide_eq_false (by omega)) ?_
                  refine RT.ev rfl rfl (Ev.move rfl) ?_
                  refine RT.yes rfl rfl rfl (decide_eq_false (by omega)) ?_
                  refine RT.ev rfl rfl (Ev.neqN rfl rfl) ?_
                  refine RT.ev rfl rfl (Ev.pickN rfl (decide_eq_false (by omega)) rfl) ?_
                  refine RT.nil ?_
                  refine CW.condF rfl (decide_eq_false (fun h9 => h9 rfl)) ?_
                  refine CW.skip ?_
                  refine CW.region ?_
                  refine RT.ev rfl rfl (Ev.move rfl) ?_
                  refine RT.ev rfl rfl (Ev.addI (b := 1) rfl rfl (by omega)) ?_
                  refine RT.ev rfl rfl (Ev.assign rfl) ?_
                  refine RT.nil ?_
                  refine CW.region ?_
                  refine RT.ev rfl rfl (Ev.addI (b := 1) rfl rfl (by omega)) ?_
                  refine RT.ev rfl rfl (Ev.move rfl) ?_
                  refine RT.nil ?_
                  exact ⟨(k + 1, (revN x), (z + 1)), ⟨rfl, rfl, rfl, rfl, rfl, rfl, rfl, rfl, rfl, rfl, trivial⟩, ⟨hs_14, by omega, by rw [hst, if_pos (suf_ext.1 hc_3), List.length_append, hz]; rfl, fun _ => ⟨n_, hn_, hrx.symm⟩⟩, (show ((ordN (wordsN vs)).length - (k + 1)) < ((ordN (wordsN vs)).length - k) from by omega)⟩
                · refine CW.skip ?_
                  refine CW.region ?_
                  refine RT.ev rfl rfl (Ev.addI (b := 1) rfl rfl (by omega)) ?_
                  refine RT.ev rfl rfl (Ev.move rfl) ?_
                  refine RT.nil ?_
                  exact ⟨(k + 1, (revN x), z), ⟨rfl, rfl, rfl, rfl, rfl, rfl, rfl, rfl, rfl, rfl, trivial⟩, ⟨hs_14, by omega, by rw [hst, if_neg (fun h9 => hc_3 (suf_ext.2 h9)), hz], fun _ => ⟨n_, hn_, hrx.symm⟩⟩, (show ((ordN (wordsN vs)).length - (k + 1)) < ((ordN (wordsN vs)).length - k) from by omega)⟩
            · refine CW.weaken [(1, _), (5, _), (8, _), (9, _), (11, _), (12, _), (13, _), (14, _), (15, _), (16, _), (17, _), (18, _), (19, (Value.bool false)), (64, _), (65, _), (66, _), (67, _), (89, _)] ⟨rfl, rfl, rfl, rfl, rfl, rfl, rfl, rfl, rfl, rfl, rfl, rfl, congrArg some (congrArg Value.bool (decide_eq_false (fun h9 => hpw.1 (pre_ext.1 h9)))), rfl, rfl, rfl, rfl, rfl, trivial⟩ ?_
              refine CW.region ?_
              refine RT.ev rfl rfl (Ev.move rfl) ?_
              refine RT.ev rfl rfl (Ev.move rfl) ?_
              refine RT.ev rfl rfl (Ev.move rfl) ?_
              refine RT.ev rfl rfl (Ev.geqN rfl rfl) ?_
              refine RT.ev rfl rfl (Ev.move rfl) ?_
              refine RT.yes rfl rfl rfl (decide_eq_true hpw.2.1) ?_
              refine RT.ev rfl rfl (Ev.move rfl) ?_
              refine RT.yes rfl rfl rfl (decide_eq_true hpw.2.1) ?_
              refine RT.ev rfl rfl (Ev.move rfl) ?_
              refine RT.yes rfl rfl rfl (decide_eq_true hpw.2.1) ?_
              refine RT.ev rfl rfl (Ev.lssN rfl rfl) ?_
              refine RT.ev rfl rfl (Ev.pickY rfl (decide_eq_true hpw.2.1) rfl) ?_
              refine RT.ev rfl rfl (Ev.neqB Try.underlying4 rfl rfl) ?_
              refine RT.nil ?_
              refine CW.condF rfl (bool_neq (rfl) (decide_eq_false hpw.2.2) rfl) ?_
              refine CW.skip ?_
              refine CW.seq ?_
              refine CW.mid (fun L' w' => Weak [(1, (Value.string s)), (5, (Value.pointer (some ⟨lg_1, 0, none⟩))), (8, (Value.int .i64 (((prefN (wordsN vs) s).1 : Nat) : Int))), (9, (Value.int .i64 (((prefN (wordsN vs) s).2 : Nat) : Int))), (11, r_6), (12, (Value.string (revN x))), (13, (Value.int .i64 ((z : Nat) : Int))), (14, (Value.int .i64 ((k : Nat) : Int))), (15, (Value.int .i64 ((n_ : Nat) : Int))), (16, (Value.string x)), (17, (Value.bool true)), (18, (Value.string (revN x))), (19, (Value.bool false)), (64, r_5), (65, (Value.int .i64 (((ordN (wordsN vs)).length : Nat) : Int))), (66, (Value.int .i64 ((k : Nat) : Int))), (67, (Value.bool (decide (k < (ordN (wordsN vs)).length)))), (89, (Value.bool false)), (113, (Value.bool (!(false == decide (n_ < (prefN (wordsN vs) s).2))))), (129, (Value.bool (decide ((s.size ≤ x.size) ∧ ((x.extract (x.size - s.size) x.size) = s)))))] L' ∧ Sat w [cObj lg_1 92 [lvw_1, lvc_1, lvo_1], cL lvw_1 9 (encTx) (wordsN vs), cL lvc_1 3 (encN .i64) (countsN vs), cL lvo_1 3 (encN .i64) (ordN (wordsN vs)), cL lvn_1 3 (encN .i64) (vs.map (lbW (wordsN vs))), cL r_5 3 (encN .i64) (ordN (wordsN vs)), cL r_6 3 (encN .i64) (sufN (wordsN vs) (ordN (wordsN vs)) s)] w') ?_ ?_
              · refine CW.region ?_
                refine RT.ev rfl rfl (Ev.move rfl) ?_
                refine RT.ev rfl rfl (Ev.lenStr Try.underlying9 rfl) ?_
                refine RT.ev rfl rfl (Ev.move rfl) ?_
                refine RT.ev rfl rfl (Ev.lenStr Try.underlying9 rfl) ?_
                refine RT.ev rfl rfl (Ev.geqN rfl rfl) ?_
                refine RT.ev rfl rfl (Ev.move rfl) ?_
                by_cases hg_5 : s.size ≤ x.size
                · refine RT.yes rfl rfl rfl (decide_eq_true hg_5) ?_
                  refine RT.ev rfl rfl (Ev.move rfl) ?_
                  refine RT.yes rfl rfl rfl (decide_eq_true hg_5) ?_
                  refine RT.ev rfl rfl (Ev.move rfl) ?_
                  refine RT.yes rfl rfl rfl (decide_eq_true hg_5) ?_
                  refine RT.ev rfl rfl (Ev.lenStr Try.underlying9 rfl) ?_
                  refine RT.yes rfl rfl rfl (decide_eq_true hg_5) ?_
                  refine RT.ev rfl rfl (Ev.move rfl) ?_
                  refine RT.yes rfl rfl rfl (decide_eq_true hg_5) ?_
                  refine RT.ev rfl rfl (Ev.lenStr Try.underlying9 rfl) ?_
                  refine RT.yes rfl rfl rfl (decide_eq_true hg_5) ?_
                  refine RT.ev rfl rfl (Ev.subI rfl rfl (by omega) (by omega)) ?_
                  refine RT.yes rfl rfl rfl (decide_eq_true hg_5) ?_
                  refine RT.ev rfl rfl (Ev.sliceStr (l := (x.size - s.size)) (h := x.size) Try.underlying9 rfl ⟨_, rfl⟩ rfl (by omega) (by omega)) ?_
                  refine RT.yes rfl rfl rfl (decide_eq_true hg_5) ?_
                  refine RT.ev rfl rfl (Ev.move rfl) ?_
                  refine RT.yes rfl rfl rfl (decide_eq_true hg_5) ?_
                  refine RT.ev rfl rfl (Ev.strEql rfl rfl) ?_
                  refine RT.ev rfl rfl (Ev.pickY rfl (decide_eq_true hg_5) rfl) ?_
                  refine RT.nil ?_
                  exact ⟨⟨rfl, rfl, rfl, rfl, rfl, rfl, rfl, rfl, rfl, rfl, rfl, rfl, rfl, rfl, rfl, rfl, rfl, rfl, rfl, congrArg some (congrArg Value.bool (by simp [hg_5])), trivial⟩, hs_12⟩
                · refine RT.no rfl rfl rfl (decide_eq_false hg_5) rfl ?_
                  refine RT.no rfl rfl rfl (decide_eq_false hg_5) rfl ?_
                  refine RT.no rfl rfl rfl (decide_eq_false hg_5) rfl ?_
                  refine RT.no rfl rfl rfl (decide_eq_false hg_5) rfl ?_
                  refine RT.no rfl rfl rfl (decide_eq_false hg_5) rfl ?_
                  refine RT.no rfl rfl rfl (decide_eq_false hg_5) rfl ?_
                  refine RT.no rfl rfl rfl (decide_eq_false hg_5) rfl ?_
                  refine RT.no rfl rfl rfl (decide_eq_false hg_5) rfl ?_
                  refine RT.no rfl rfl rfl (decide_eq_false hg_5) rfl ?_
                  refine RT.ev rfl rfl (Ev.pickN rfl (decide_eq_false hg_5) rfl) ?_
                  refine RT.nil ?_
                  exact ⟨⟨rfl, rfl, rfl, rfl, rfl, rfl, rfl, rfl, rfl, rfl, rfl, rfl, rfl, rfl, rfl, rfl, rfl, rfl, rfl, congrArg some (congrArg Value.bool (by simp [hg_5])), trivial⟩, hs_12⟩
              · rintro L' w_14 ⟨hw_4, hs_15⟩
                refine CW.weaken _ hw_4 ?_
                refine CW.condD rfl (fun hc_4 => ?_) (fun hc_4 => ?_)
                · refine CW.seq ?_
                  refine CW.seq ?_
                  have hsa := suf_at hn_ hx (suf_ext.1 hc_4)
                  rw [← hz] at hsa
                  have hzl := (List.getElem?_eq_some_iff.1 hsa).1
                  refine CW.region ?_
                  refine RT.ev rfl rfl (Ev.move rfl) ?_
                  refine RT.ev rfl rfl (Ev.move rfl) ?_
                  refine RT.ev rfl rfl (Ev.lenL Try.underlying22 rfl (hs_15.rdL 6 rfl)) ?_
                  refine RT.ev rfl rfl (Ev.geqN rfl rfl) ?_
                  refine RT.ev rfl rfl (Ev.move rfl) ?_
                  refine RT.yes rfl rfl rfl (decide_eq_false (by omega)) ?_
                  refine RT.ev rfl rfl (Ev.move rfl) ?_
                  refine RT.yes rfl rfl rfl (decide_eq_false (by omega)) ?_
                  refine RT.ev rfl rfl (Ev.move rfl) ?_
                  refine RT.yes rfl rfl rfl (decide_eq_false (by omega)) ?_
                  refine RT.ev rfl rfl (Ev.idxL (E := encN .i64) sl22 rfl rfl (hs_15.rdL 6 rfl) (by omega)) ?_
                  refine RT.yes rfl rfl rfl (decide_eq_false (by omega)) ?_
                  refine RT.ev rfl rfl (Ev.ldL (E := encN .i64) scal3 rfl (hs_15.rdL 6 rfl) hsa (by decide) rfl) ?_
                  refine RT.yes rfl rfl rfl (decide_eq_false (by omega)) ?_
                  refine RT.ev rfl rfl (Ev.move rfl) ?_
                  refine RT.yes rfl rfl rfl (decide_eq_false (by omega)) ?_
                  refine RT.ev rfl rfl (Ev.neqN rfl rfl) ?_
                  refine RT.ev rfl rfl (Ev.pickN rfl (decide_eq_false (by omega)) rfl) ?_
                  refine RT.nil ?_
                  refine CW.condF rfl (decide_eq_false (fun h9 => h9 rfl)) ?_
                  refine CW.skip ?_
                  refine CW.region ?_
                  refine RT.ev rfl rfl (Ev.move rfl) ?_
                  refine RT.ev rfl rfl (Ev.addI (b := 1) rfl rfl (by omega)) ?_
                  refine RT.ev rfl rfl (Ev.assign rfl) ?_
                  refine RT.nil ?_
                  refine CW.region ?_
                  refine RT.ev rfl rfl (Ev.addI (b := 1) rfl rfl (by omega)) ?_
                  refine RT.ev rfl rfl (Ev.move rfl) ?_
                  refine RT.nil ?_
                  exact ⟨(k + 1, (revN x), (z + 1)), ⟨rfl, rfl, rfl, rfl, rfl, rfl, rfl, rfl, rfl, rfl, trivial⟩, ⟨hs_15, by omega, by rw [hst, if_pos (suf_ext.1 hc_4), List.length_append, hz]; rfl, fun _ => ⟨n_, hn_, hrx.symm⟩⟩, (show ((ordN (wordsN vs)).length - (k + 1)) < ((ordN (wordsN vs)).length - k) from by omega)⟩
                · refine CW.skip ?_
                  refine CW.region ?_
                  refine RT.ev rfl rfl (Ev.addI (b := 1) rfl rfl (by omega)) ?_
                  refine RT.ev rfl rfl (Ev.move rfl) ?_
                  refine RT.nil ?_
                  exact ⟨(k + 1, (revN x), z), ⟨rfl, rfl, rfl, rfl, rfl, rfl, rfl, rfl, rfl, rfl, trivial⟩, ⟨hs_15, by omega, by rw [hst, if_neg (fun h9 => hc_4 (suf_ext.2 h9)), hz], fun _ => ⟨n_, hn_, hrx.symm⟩⟩, (show ((ordN (wordsN vs)).length - (k + 1)) < ((ordN (wordsN vs)).length - k) from by omega)⟩
        · obtain ⟨p, hp, rfl⟩ := hpv hk0
          have hlt := ord_lt he hp hn_ (by omega)
          rw [hrx] at hlt
          refine CW.region ?_
          refine RT.ev rfl rfl (Ev.move rfl) ?_
          refine RT.ev rfl rfl (Ev.notB rfl) ?_
          refine RT.ev rfl rfl (Ev.move rfl) ?_
          refine RT.yes rfl rfl rfl (rfl) ?_
          refine RT.ev rfl rfl (Ev.move rfl) ?_
          refine RT.yes rfl rfl rfl (rfl) ?_
          refine RT.ev rfl rfl (Ev.gtrN (b := 0) rfl rfl) ?_
          refine RT.yes rfl rfl rfl (rfl) ?_
          refine RT.ev rfl rfl (Ev.move rfl) ?_
          refine RT.yes rfl rfl rfl (decide_eq_true (by omega)) ?_
          refine RT.ev rfl rfl (Ev.move rfl) ?_
          refine RT.yes rfl rfl rfl (decide_eq_true (by omega)) ?_
          refine RT.ev rfl rfl (Ev.move rfl) ?_
          refine RT.yes rfl rfl rfl (decide_eq_true (by omega)) ?_
          refine RT.ev rfl rfl (Ev.strLeq rfl rfl) ?_
          refine RT.yes rfl rfl rfl (rfl) ?_
          refine RT.ev rfl rfl (Ev.pickY rfl (decide_eq_true (by omega)) rfl) ?_
          refine RT.ev rfl rfl (Ev.pickN rfl (rfl) rfl) ?_
          refine RT.nil ?_
          refine CW.condF rfl (decide_eq_false (fun h9 => h9 hlt)) ?_
          refine CW.skip ?_
          refine CW.seq ?_
          refine CW.region ?_
          refine RT.ev rfl rfl (Ev.move rfl) ?_
          refine RT.ev rfl rfl (Ev.assign rfl) ?_
          refine RT.nil ?_
          refine CW.seq ?_
          refine CW.seq ?_
          refine CW.mid (fun L' w' => Weak [(1, (Value.string s)), (5, (Value.pointer (some ⟨lg_1, 0, none⟩))), (8, (Value.int .i64 (((prefN (wordsN vs) s).1 : Nat) : Int))), (9, (Value.int .i64 (((prefN (wordsN vs) s).2 : Nat) : Int))), (11, r_6), (12, (Value.string (revN x))), (13, (Value.int .i64 ((z : Nat) : Int))), (14, (Value.int .i64 ((k : Nat) : Int))), (15, (Value.int .i64 ((n_ : Nat) : Int))), (16, (Value.string x)), (17, (Value.bool true)), (18, (Value.string (revN x))), (19, (Value.bool (decide ((s.size ≤ x.size) ∧ ((x.extract 0 s.size) = s))))), (64, r_5), (65, (Value.int .i64 (((ordN (wordsN vs)).length : Nat) : Int))), (66, (Value.int .i64 ((k : Nat) : Int))), (67, (Value.bool (decide (k < (ordN (wordsN vs)).length)))), (89, (Value.bool (decide (¬ SLt (rvN (wordsN vs) p) (revN x)))))] L' ∧ Sat w [cObj lg_1 92 [lvw_1, lvc_1, lvo_1], cL lvw_1 9 (encTx) (wordsN vs), cL lvc_1 3 (encN .i64) (countsN vs), cL lvo_1 3 (encN .i64) (ordN (wordsN vs)), cL lvn_1 3 (encN .i64) (vs.map (lbW (wordsN vs))), cL r_5 3 (encN .i64) (ordN (wordsN vs)), cL r_6 3 (encN .i64) (sufN (wordsN vs) (ordN (wordsN vs)) s)] w') ?_ ?_
          · refine CW.region ?_
            refine RT.ev rfl rfl (Ev.move rfl) ?_
            refine RT.ev rfl rfl (Ev.lenStr Try.underlying9 rfl) ?_
            refine RT.ev rfl rfl (Ev.move rfl) ?_
            refine RT.ev rfl rfl (Ev.lenStr Try.underlying9 rfl) ?_
            refine RT.ev rfl rfl (Ev.geqN rfl rfl) ?_
            refine RT.ev rfl rfl (Ev.move rfl) ?_
            by_cases hg_6 : s.size ≤ x.size
            · refine RT.yes rfl rfl rfl (decide_eq_true hg_6) ?_
              refine RT.ev rfl rfl (Ev.move rfl) ?_
              refine RT.yes rfl rfl rfl (decide_eq_true hg_6) ?_
              refine RT.ev rfl rfl (Ev.move rfl) ?_
              refine RT.yes rfl rfl rfl (decide_eq_true hg_6) ?_
              refine RT.ev rfl rfl (Ev.lenStr Try.underlying9 rfl) ?_
              refine RT.yes rfl rfl rfl (decide_eq_true hg_6) ?_
              refine RT.ev rfl rfl (Ev.sliceStr (l := 0) (h := s.size) Try.underlying9 rfl rfl ⟨_, rfl⟩ (by omega) (by omega)) ?_
              refine RT.yes rfl rfl rfl (decide_eq_true hg_6) ?_
              refine RT.ev rfl rfl (Ev.move rfl) ?_
              refine RT.yes rfl rfl rfl (decide_eq_true hg_6) ?_
              refine RT.ev rfl rfl (Ev.strEql rfl rfl) ?_
              refine RT.ev rfl rfl (Ev.pickY rfl (decide_eq_true hg_6) rfl) ?_
              refine RT.ev rfl rfl (Ev.assign rfl) ?_
              refine RT.nil ?_
              exact ⟨⟨rfl, rfl, rfl, rfl, rfl, rfl, rfl, rfl, rfl, rfl, rfl, rfl, congrArg some (congrArg Value.bool (by simp [hg_6])), rfl, rfl, rfl, rfl, rfl, trivial⟩, hs_11⟩
            · refine RT.no rfl rfl rfl (decide_eq_false hg_6) rfl ?_
              refine RT.no rfl rfl rfl (decide_eq_false hg_6) rfl ?_
              refine RT.no rfl rfl rfl (decide_eq_false hg_6) rfl ?_
              refine RT.no rfl rfl rfl (decide_eq_false hg_6) rfl ?_
              refine RT.no rfl rfl rfl (decide_eq_false hg_6) rfl ?_
              refine RT.no rfl rfl rfl (decide_eq_false hg_6) rfl ?_
              refine RT.ev rfl rfl (Ev.pickN rfl (decide_eq_false hg_6) rfl) ?_
              refine RT.ev rfl rfl (Ev.assign rfl) ?_
              refine RT.nil ?_
              exact ⟨⟨rfl, rfl, rfl, rfl, rfl, rfl, rfl, rfl, rfl, rfl, rfl, rfl, congrArg some (congrArg Value.bool (by simp [hg_6])), rfl, rfl, rfl, rfl, rfl, trivial⟩, hs_11⟩
          · rintro L' w_15 ⟨hw_5, hs_16⟩
            refine CW.weaken _ hw_5 ?_
            refine CW.seq ?_
            rcases pref_ways (wordsN_asc vs) s hx with hpw | hpw | hpw
            · refine CW.weaken [(1, _), (5, _), (8, _), (9, _), (11, _), (12, _), (13, _), (14, _), (15, _), (16, _), (17, _), (18, _), (19, (Value.bool true)), (64, _), (65, _), (66, _), (67, _), (89, _)] ⟨rfl, rfl, rfl, rfl, rfl, rfl, rfl, rfl, rfl, rfl, rfl, rfl, congrArg some (congrArg Value.bool (decide_eq_true (pre_ext.2 hpw.1))), rfl, rfl, rfl, rfl, rfl, trivial⟩ ?_
              refine CW.region ?_
              refine RT.ev rfl rfl (Ev.move rfl) ?_
              refine RT.ev rfl rfl (Ev.move rfl) ?_
              refine RT.ev rfl rfl (Ev.move rfl) ?_
              refine RT.ev rfl rfl (Ev.geqN rfl rfl) ?_
              refine RT.ev rfl rfl (Ev.move rfl) ?_
              refine RT.yes rfl rfl rfl (decide_eq_true hpw.2.1) ?_
              refine RT.ev rfl rfl (Ev.move rfl) ?_
              refine RT.yes rfl rfl rfl (decide_eq_true hpw.2.1) ?_
              refine RT.ev rfl rfl (Ev.move rfl) ?_
              refine RT.yes rfl rfl rfl (decide_eq_true hpw.2.1) ?_
              refine RT.ev rfl rfl (Ev.lssN rfl rfl) ?_
              refine RT.ev rfl rfl (Ev.pickY rfl (decide_eq_true hpw.2.1) rfl) ?_
              refine RT.ev rfl rfl (Ev.neqB Try.underlying4 rfl rfl) ?_
              refine RT.nil ?_
              refine CW.condF rfl (bool_neq (rfl) (decide_eq_true hpw.2.2) rfl) ?_
              refine CW.skip ?_
              refine CW.seq ?_
              refine CW.mid (fun L' w' => Weak [(1, (Value.string s)), (5, (Value.pointer (some ⟨lg_1, 0, none⟩))), (8, (Value.int .i64 (((prefN (wordsN vs) s).1 : Nat) : Int))), (9, (Value.int .i64 (((prefN (wordsN vs) s).2 : Nat) : Int))), (11, r_6), (12, (Value.string (revN x))), (13, (Value.int .i64 ((z : Nat) : Int))), (14, (Value.int .i64 ((k : Nat) : Int))), (15, (Value.int .i64 ((n_ : Nat) : Int))), (16, (Value.string x)), (17, (Value.bool true)), (18, (Value.string (revN x))), (19, (Value.bool true)), (64, r_5), (65, (Value.int .i64 (((ordN (wordsN vs)).length : Nat) : Int))), (66, (Value.int .i64 ((k : Nat) : Int))), (67, (Value.bool (decide (k < (ordN (wordsN vs)).length)))), (89, (Value.bool (decide (¬ SLt (rvN (wordsN vs) p) (revN x))))), (113, (Value.bool (!(true == decide (n_ < (prefN (wordsN vs) s).2))))), (129, (Value.bool (decide ((s.size ≤ x.size) ∧ ((x.extract (x.size - s.size) x.size) = s)))))] L' ∧ Sat w [cObj lg_1 92 [lvw_1, lvc_1, lvo_1], cL lvw_1 9 (encTx) (wordsN vs), cL lvc_1 3 (encN .i64) (countsN vs), cL lvo_1 3 (encN .i64) (ordN (wordsN vs)), cL lvn_1 3 (encN .i64) (vs.map (lbW (wordsN vs))), cL r_5 3 (encN .i64) (ordN (wordsN vs)), cL r_6 3 (encN .i64) (sufN (wordsN vs) (ordN (wordsN vs)) s)] w') ?_ ?_
              · refine CW.region ?_
                refine RT.ev rfl rfl (Ev.move rfl) ?_
                refine RT.ev rfl rfl (Ev.lenStr Try.underlying9 rfl) ?_
                refine RT.ev rfl rfl (Ev.move rfl) ?_
                refine RT.ev rfl rfl (Ev.lenStr Try.underlying9 rfl) ?_
                refine RT.ev rfl rfl (Ev.geqN rfl rfl) ?_
                refine RT.ev rfl rfl (Ev.move rfl) ?_
                by_cases hg_7 : s.size ≤ x.size
                · refine RT.yes rfl rfl rfl (decide_eq_true hg_7) ?_
                  refine RT.ev rfl rfl (Ev.move rfl) ?_
                  refine RT.yes rfl rfl rfl (decide_eq_true hg_7) ?_
                  refine RT.ev rfl rfl (Ev.move rfl) ?_
                  refine RT.yes rfl rfl rfl (decide_eq_true hg_7) ?_
                  refine RT.ev rfl rfl (Ev.lenStr Try.underlying9 rfl) ?_
                  refine RT.yes rfl rfl rfl (decide_eq_true hg_7) ?_
                  refine RT.ev rfl rfl (Ev.move rfl) ?_
                  refine RT.yes rfl rfl rfl (decide_eq_true hg_7) ?_
                  refine RT.ev rfl rfl (Ev.lenStr Try.underlying9 rfl) ?_
                  refine RT.yes rfl rfl rfl (decide_eq_true hg_7) ?_
                  refine RT.ev rfl rfl (Ev.subI rfl rfl (by omega) (by omega)) ?_
                  refine RT.yes rfl rfl rfl (decide_eq_true hg_7) ?_
                  refine RT.ev rfl rfl (Ev.sliceStr (l := (x.size - s.size)) (h := x.size) Try.underlying9 rfl ⟨_, rfl⟩ rfl (by omega) (by omega)) ?_
                  refine RT.yes rfl rfl rfl (decide_eq_true hg_7) ?_
                  refine RT.ev rfl rfl (Ev.move rfl) ?_
                  refine RT.yes rfl rfl rfl (decide_eq_true hg_7) ?_
                  refine RT.ev rfl rfl (Ev.strEql rfl rfl) ?_
                  refine RT.ev rfl rfl (Ev.pickY rfl (decide_eq_true hg_7) rfl) ?_
                  refine RT.nil ?_
                  exact ⟨⟨rfl, rfl, rfl, rfl, rfl, rfl, rfl, rfl, rfl, rfl, rfl, rfl, rfl, rfl, rfl, rfl, rfl, rfl, rfl, congrArg some (congrArg Value.bool (by simp [hg_7])), trivial⟩, hs_16⟩
                · refine RT.no rfl rfl rfl (decide_eq_false hg_7) rfl ?_
                  refine RT.no rfl rfl rfl (decide_eq_false hg_7) rfl ?_
                  refine RT.no rfl rfl rfl (decide_eq_false hg_7) rfl ?_
                  refine RT.no rfl rfl rfl (decide_eq_false hg_7) rfl ?_
                  refine RT.no rfl rfl rfl (decide_eq_false hg_7) rfl ?_
                  refine RT.no rfl rfl rfl (decide_eq_false hg_7) rfl ?_
                  refine RT.no rfl rfl rfl (decide_eq_false hg_7) rfl ?_
                  refine RT.no rfl rfl rfl (decide_eq_false hg_7) rfl ?_
                  refine RT.no rfl rfl rfl (decide_eq_false hg_7) rfl ?_
                  refine RT.ev rfl rfl (Ev.pickN rfl (decide_eq_false hg_7) rfl) ?_
                  refine RT.nil ?_
                  exact ⟨⟨rfl, rfl, rfl, rfl, rfl, rfl, rfl, rfl, rfl, rfl, rfl, rfl, rfl, rfl, rfl, rfl, rfl, rfl, rfl, congrArg some (congrArg Value.bool (by simp [hg_7])), trivial⟩, hs_16⟩
              · rintro L' w_16 ⟨hw_6, hs_17⟩
                refine CW.weaken _ hw_6 ?_
                refine CW.condD rfl (fun hc_5 => ?_) (fun hc_5 => ?_)
                · refine CW.seq ?_
                  refine CW.seq ?_
                  have hsa := suf_at hn_ hx (suf_ext.1 hc_5)
                  rw [← hz] at hsa
                  have hzl := (List.getElem?_eq_some_iff.1 hsa).1
                  refine CW.region ?_
                  refine RT.ev rfl rfl (Ev.move rfl) ?_
                  refine RT.ev rfl rfl (Ev.move rfl) ?_
                  refine RT.ev rfl rfl (Ev.lenL Try.underlying22 rfl (hs_17.rdL 6 rfl)) ?_
                  refine RT.ev rfl rfl (Ev.geqN rfl rfl) ?_
                  refine RT.ev rfl rfl (Ev.move rfl) ?_
                  refine RT.yes rfl rfl rfl (decide_eq_false (by omega)) ?_
                  refine RT.ev rfl rfl (Ev.move rfl) ?_
                  refine RT.yes rfl rfl rfl (decide_eq_false (by omega)) ?_
                  refine RT.ev rfl rfl (Ev.move rfl) ?_
                  refine RT.yes rfl rfl rfl (decide_eq_false (by omega)) ?_
                  refine RT.ev rfl rfl (Ev.idxL (E := encN .i64) sl22 rfl rfl (hs_17.rdL 6 rfl) (by omega)) ?_
                  refine RT.yes rfl rfl rfl (decide_eq_false (by omega)) ?_
                  refine RT.ev rfl rfl (Ev.ldL (E := encN .i64) scal3 rfl (hs_17.rdL 6 rfl) hsa (by decide) rfl) ?_
                  refine RT.yes rfl rfl rfl (decide_eq_false (by omega)) ?_
                  refine RT.ev rfl rfl (Ev.move rfl) ?_
                  refine RT.yes rfl rfl rfl (decide_eq_false (by omega)) ?_
                  refine RT.ev rfl rfl (Ev.neqN rfl rfl) ?_
                  refine RT.ev rfl rfl (Ev.pickN rfl (decide_eq_false (by omega)) rfl) ?_
                  refine RT.nil ?_
                  refine CW.condF rfl (decide_eq_false (fun h9 => h9 rfl)) ?_
                  refine CW.skip ?_
                  refine CW.region ?_
                  refine RT.ev rfl rfl (Ev.move rfl) ?_
                  refine RT.ev rfl rfl (Ev.addI (b := 1) rfl rfl (by omega)) ?_
                  refine RT.ev rfl rfl (Ev.assign rfl) ?_
                  refine RT.nil ?_
                  refine CW.region ?_
                  refine RT.ev rfl rfl (Ev.addI (b := 1) rfl rfl (by omega)) ?_
                  refine RT.ev rfl rfl (Ev.move rfl) ?_
                  refine RT.nil ?_
                  exact ⟨(k + 1, (revN x), (z + 1)), ⟨rfl, rfl, rfl, rfl, rfl, rfl, rfl, rfl, rfl, rfl, trivial⟩, ⟨hs_17, by omega, by rw [hst, if_pos (suf_ext.1 hc_5), List.length_append, hz]; rfl, fun _ => ⟨n_, hn_, hrx.symm⟩⟩, (show ((ordN (wordsN vs)).length - (k + 1)) < ((ordN (wordsN vs)).length - k) from by omega)⟩
                · refine CW.skip ?_
                  refine CW.region ?_
                  refine RT.ev rfl rfl (Ev.addI (b := 1) rfl rfl (by omega)) ?_
                  refine RT.ev rfl rfl (Ev.move rfl) ?_
                  refine RT.nil ?_
                  exact ⟨(k + 1, (revN x), z), ⟨rfl, rfl, rfl, rfl, rfl, rfl, rfl, rfl, rfl, rfl, trivial⟩, ⟨hs_17, by omega, by rw [hst, if_neg (fun h9 => hc_5 (suf_ext.2 h9)), hz], fun _ => ⟨n_, hn_, hrx.symm⟩⟩, (show ((ordN (wordsN vs)).length - (k + 1)) < ((ordN (wordsN vs)).length - k) from by omega)⟩
            · refine CW.weaken [(1, _), (5, _), (8, _), (9, _), (11, _), (12, _), (13, _), (14, _), (15, _), (16, _), (17, _), (18, _), (19, (Value.bool false)), (64, _), (65, _), (66, _), (67, _), (89, _)] ⟨rfl, rfl, rfl, rfl, rfl, rfl, rfl, rfl, rfl, rfl, rfl, rfl, congrArg some (congrArg Value.bool (decide_eq_false (fun h9 => hpw.1 (pre_ext.1 h9)))), rfl, rfl, rfl, rfl, rfl, trivial⟩ ?_
              refine CW.region ?_
              refine RT.ev rfl rfl (Ev.move rfl) ?_
              refine RT.ev rfl rfl (Ev.move rfl) ?_
              refine RT.ev rfl rfl (Ev.move rfl) ?_
              refine RT.ev rfl rfl (Ev.geqN rfl rfl) ?_
              refine RT.ev rfl rfl (Ev.move rfl) ?_
              refine RT.no rfl rfl rfl (decide_eq_false hpw.2) rfl ?_
              refine RT.no rfl rfl rfl (decide_eq_false hpw.2) rfl ?_
              refine RT.no rfl rfl rfl (decide_eq_false hpw.2) rfl ?_
              refine RT.ev rfl rfl (Ev.pickN rfl (decide_eq_false hpw.2) rfl) ?_
              refine RT.ev rfl rfl (Ev.neqB Try.underlying4 rfl rfl) ?_
              refine RT.nil ?_
              refine CW.condF rfl (bool_neq (rfl) (rfl) rfl) ?_
              refine CW.skip ?_
              refine CW.seq ?_
              refine CW.mid (fun L' w' => Weak [(1, (Value.string s)), (5, (Value.pointer (some ⟨lg_1, 0, none⟩))), (8, (Value.int .i64 (((prefN (wordsN vs) s).1 : Nat) : Int))), (9, (Value.int .i64 (((prefN (wordsN vs) s).2 : Nat) : Int))), (11, r_6), (12, (Value.string (revN x))), (13, (Value.int .i64 ((z : Nat) : Int))), (14, (Value.int .i64 ((k : Nat) : Int))), (15, (Value.int .i64 ((n_ : Nat) : Int))), (16, (Value.string x)), (17, (Value.bool true)), (18, (Value.string (revN x))), (19, (Value.bool false)), (64, r_5), (65, (Value.int .i64 (((ordN (wordsN vs)).length : Nat) : Int))), (66, (Value.int .i64 ((k : Nat) : Int))), (67, (Value.bool (decide (k < (ordN (wordsN vs)).length)))), (89, (Value.bool (decide (¬ SLt (rvN (wordsN vs) p) (revN x))))), (113, (Value.bool (!(false == false)))), (129, (Value.bool (decide ((s.size ≤ x.size) ∧ ((x.extract (x.size - s.size) x.size) = s)))))] L' ∧ Sat w [cObj lg_1 92 [lvw_1, lvc_1, lvo_1], cL lvw_1 9 (encTx) (wordsN vs), cL lvc_1 3 (encN .i64) (countsN vs), cL lvo_1 3 (encN .i64) (ordN (wordsN vs)), cL lvn_1 3 (encN .i64) (vs.map (lbW (wordsN vs))), cL r_5 3 (encN .i64) (ordN (wordsN vs)), cL r_6 3 (encN .i64) (sufN (wordsN vs) (ordN (wordsN vs)) s)] w') ?_ ?_
              · refine CW.region ?_
                refine RT.ev rfl rfl (Ev.move rfl) ?_
                refine RT.ev rfl rfl (Ev.lenStr Try.underlying9 rfl) ?_
                refine RT.ev rfl rfl (Ev.move rfl) ?_
                refine RT.ev rfl rfl (Ev.lenStr Try.underlying9 rfl) ?_
                refine RT.ev rfl rfl (Ev.geqN rfl rfl) ?_
                refine RT.ev rfl rfl (Ev.move rfl) ?_
                by_cases hg_8 : s.size ≤ x.size
                · refine RT.yes rfl rfl rfl (decide_eq_true hg_8) ?_
                  refine RT.ev rfl rfl (Ev.move rfl) ?_
                  refine RT.yes rfl rfl rfl (decide_eq_true hg_8) ?_
                  refine RT.ev rfl rfl (Ev.move rfl) ?_
                  refine RT.yes rfl rfl rfl (decide_eq_true hg_8) ?_
                  refine RT.ev rfl rfl (Ev.lenStr Try.underlying9 rfl) ?_
                  refine RT.yes rfl rfl rfl (decide_eq_true hg_8) ?_
                  refine RT.ev rfl rfl (Ev.move rfl) ?_
                  refine RT.yes rfl rfl rfl (decide_eq_true hg_8) ?_
                  refine RT.ev rfl rfl (Ev.lenStr Try.underlying9 rfl) ?_
                  refine RT.yes rfl rfl rfl (decide_eq_true hg_8) ?_
                  refine RT.ev rfl rfl (Ev.subI rfl rfl (by omega) (by omega)) ?_
                  refine RT.yes rfl rfl rfl (decide_eq_true hg_8) ?_
                  refine RT.ev rfl rfl (Ev.sliceStr (l := (x.size - s.size)) (h := x.size) Try.underlying9 rfl ⟨_, rfl⟩ rfl (by omega) (by omega)) ?_
                  refine RT.yes rfl rfl rfl (decide_eq_true hg_8) ?_
                  refine RT.ev rfl rfl (Ev.move rfl) ?_
                  refine RT.yes rfl rfl rfl (decide_eq_true hg_8) ?_
                  refine RT.ev rfl rfl (Ev.strEql rfl rfl) ?_
                  refine RT.ev rfl rfl (Ev.pickY rfl (decide_eq_true hg_8) rfl) ?_
                  refine RT.nil ?_
                  exact ⟨⟨rfl, rfl, rfl, rfl, rfl, rfl, rfl, rfl, rfl, rfl, rfl, rfl, rfl, rfl, rfl, rfl, rfl, rfl, rfl, congrArg some (congrArg Value.bool (by simp [hg_8])), trivial⟩, hs_16⟩
                · refine RT.no rfl rfl rfl (decide_eq_false hg_8) rfl ?_
                  refine RT.no rfl rfl rfl (decide_eq_false hg_8) rfl ?_
                  refine RT.no rfl rfl rfl (decide_eq_false hg_8) rfl ?_
                  refine RT.no rfl rfl rfl (decide_eq_false hg_8) rfl ?_
                  refine RT.no rfl rfl rfl (decide_eq_false hg_8) rfl ?_
                  refine RT.no rfl rfl rfl (decide_eq_false hg_8) rfl ?_
                  refine RT.no rfl rfl rfl (decide_eq_false hg_8) rfl ?_
                  refine RT.no rfl rfl rfl (decide_eq_false hg_8) rfl ?_
                  refine RT.no rfl rfl rfl (decide_eq_false hg_8) rfl ?_
                  refine RT.ev rfl rfl (Ev.pickN rfl (decide_eq_false hg_8) rfl) ?_
                  refine RT.nil ?_
                  exact ⟨⟨rfl, rfl, rfl, rfl, rfl, rfl, rfl, rfl, rfl, rfl, rfl, rfl, rfl, rfl, rfl, rfl, rfl, rfl, rfl, congrArg some (congrArg Value.bool (by simp [hg_8])), trivial⟩, hs_16⟩
              · rintro L' w_17 ⟨hw_7, hs_18⟩
                refine CW.weaken _ hw_7 ?_
                refine CW.condD rfl (fun hc_6 => ?_) (fun hc_6 => ?_)
                · refine CW.seq ?_
                  refine CW.seq ?_
                  have hsa := suf_at hn_ hx (suf_ext.1 hc_6)
                  rw [← hz] at hsa
                  have hzl := (List.getElem?_eq_some_iff.1 hsa).1
                  refine CW.region ?_
                  refine RT.ev rfl rfl (Ev.move rfl) ?_
                  refine RT.ev rfl rfl (Ev.move rfl) ?_
                  refine RT.ev rfl rfl (Ev.lenL Try.underlying22 rfl (hs_18.rdL 6 rfl)) ?_
                  refine RT.ev rfl rfl (Ev.geqN rfl rfl) ?_
                  refine RT.ev rfl rfl (Ev.move rfl) ?_
                  refine RT.yes rfl rfl rfl (decide_eq_false (by omega)) ?_
                  refine RT.ev rfl rfl (Ev.move rfl) ?_
                  refine RT.yes rfl rfl rfl (decide_eq_false (by omega)) ?_
                  refine RT.ev rfl rfl (Ev.move rfl) ?_
                  refine RT.yes rfl rfl rfl (decide_eq_false (by omega)) ?_
                  refine RT.ev rfl rfl (Ev.idxL (E := encN .i64) sl22 rfl rfl (hs_18.rdL 6 rfl) (by omega)) ?_
                  refine RT.yes rfl rfl rfl (decide_eq_false (by omega)) ?_
                  refine RT.ev rfl rfl (Ev.ldL (E := encN .i64) scal3 rfl (hs_18.rdL 6 rfl) hsa (by decide) rfl) ?_
                  refine RT.yes rfl rfl rfl (decide_eq_false (by omega)) ?_
                  refine RT.ev rfl rfl (Ev.move rfl) ?_
                  refine RT.yes rfl rfl rfl (decide_eq_false (by omega)) ?_
                  refine RT.ev rfl rfl (Ev.neqN rfl rfl) ?_
                  refine RT.ev rfl rfl (Ev.pickN rfl (decide_eq_false (by omega)) rfl) ?_
                  refine RT.nil ?_
                  refine CW.condF rfl (decide_eq_false (fun h9 => h9 rfl)) ?_
                  refine CW.skip ?_
                  refine CW.region ?_
                  refine RT.ev rfl rfl (Ev.move rfl) ?_
                  refine RT.ev rfl rfl (Ev.addI (b := 1) rfl rfl (by omega)) ?_
                  refine RT.ev rfl rfl (Ev.assign rfl) ?_
                  refine RT.nil ?_
                  refine CW.region ?_
                  refine RT.ev rfl rfl (Ev.addI (b := 1) rfl rfl (by omega)) ?_
                  refine RT.ev rfl rfl (Ev.move rfl) ?_
                  refine RT.nil ?_
                  exact ⟨(k + 1, (revN x), (z + 1)), ⟨rfl, rfl, rfl, rfl, rfl, rfl, rfl, rfl, rfl, rfl, trivial⟩, ⟨hs_18, by omega, by rw [hst, if_pos (suf_ext.1 hc_6), List.length_append, hz]; rfl, fun _ => ⟨n_, hn_, hrx.symm⟩⟩, (show ((ordN (wordsN vs)).length - (k + 1)) < ((ordN (wordsN vs)).length - k) from by omega)⟩
                · refine CW.skip ?_
                  refine CW.region ?_
                  refine RT.ev rfl rfl (Ev.addI (b := 1) rfl rfl (by omega)) ?_
                  refine RT.ev rfl rfl (Ev.move rfl) ?_
                  refine RT.nil ?_
                  exact ⟨(k + 1, (revN x), z), ⟨rfl, rfl, rfl, rfl, rfl, rfl, rfl, rfl, rfl, rfl, trivial⟩, ⟨hs_18, by omega, by rw [hst, if_neg (fun h9 => hc_6 (suf_ext.2 h9)), hz], fun _ => ⟨n_, hn_, hrx.symm⟩⟩, (show ((ordN (wordsN vs)).length - (k + 1)) < ((ordN (wordsN vs)).length - k) from by omega)⟩
            · refine CW.weaken [(1, _), (5, _), (8, _), (9, _), (11, _), (12, _), (13, _), (14, _), (15, _), (16, _), (17, _), (18, _), (19, (Value.bool false)), (64, _), (65, _), (66, _), (67, _), (89, _)] ⟨rfl, rfl, rfl, rfl, rfl, rfl, rfl, rfl, rfl, rfl, rfl, rfl, congrArg some (congrArg Value.bool (decide_eq_false (fun h9 => hpw.1 (pre_ext.1 h9)))), rfl, rfl, rfl, rfl, rfl, trivial⟩ ?_
              refine CW.region ?_
              refine RT.ev rfl rfl (Ev.move rfl) ?_
              refine RT.ev rfl rfl (Ev.move rfl) ?_
              refine RT.ev rfl rfl (Ev.move rfl) ?_
              refine RT.ev rfl rfl (Ev.geqN rfl rfl) ?_
              refine RT.ev rfl rfl (Ev.move rfl) ?_
              refine RT.yes rfl rfl rfl (decide_eq_true hpw.2.1) ?_
              refine RT.ev rfl rfl (Ev.move rfl) ?_
              refine RT.yes rfl rfl rfl (decide_eq_true hpw.2.1) ?_
              refine RT.ev rfl rfl (Ev.move rfl) ?_
              refine RT.yes rfl rfl rfl (decide_eq_true hpw.2.1) ?_
              refine RT.ev rfl rfl (Ev.lssN rfl rfl) ?_
              refine RT.ev rfl rfl (Ev.pickY rfl (decide_eq_true hpw.2.1) rfl) ?_
              refine RT.ev rfl rfl (Ev.neqB Try.underlying4 rfl rfl) ?_
              refine RT.nil ?_
              refine CW.condF rfl (bool_neq (rfl) (decide_eq_false hpw.2.2) rfl) ?_
              refine CW.skip ?_
              refine CW.seq ?_
              refine CW.mid (fun L' w' => Weak [(1, (Value.string s)), (5, (Value.pointer (some ⟨lg_1, 0, none⟩))), (8, (Value.int .i64 (((prefN (wordsN vs) s).1 : Nat) : Int))), (9, (Value.int .i64 (((prefN (wordsN vs) s).2 : Nat) : Int))), (11, r_6), (12, (Value.string (revN x))), (13, (Value.int .i64 ((z : Nat) : Int))), (14, (Value.int .i64 ((k : Nat) : Int))), (15, (Value.int .i64 ((n_ : Nat) : Int))), (16, (Value.string x)), (17, (Value.bool true)), (18, (Value.string (revN x))), (19, (Value.bool false)), (64, r_5), (65, (Value.int .i64 (((ordN (wordsN vs)).length : Nat) : Int))), (66, (Value.int .i64 ((k : Nat) : Int))), (67, (Value.bool (decide (k < (ordN (wordsN vs)).length)))), (89, (Value.bool (decide (¬ SLt (rvN (wordsN vs) p) (revN x))))), (113, (Value.bool (!(false == decide (n_ < (prefN (wordsN vs) s).2))))), (129, (Value.bool (decide ((s.size ≤ x.size) ∧ ((x.extract (x.size - s.size) x.size) = s)))))] L' ∧ Sat w [cObj lg_1 92 [lvw_1, lvc_1, lvo_1], cL lvw_1 9 (encTx) (wordsN vs), cL lvc_1 3 (encN .i64) (countsN vs), cL lvo_1 3 (encN .i64) (ordN (wordsN vs)), cL lvn_1 3 (encN .i64) (vs.map (lbW (wordsN vs))), cL r_5 3 (encN .i64) (ordN (wordsN vs)), cL r_6 3 (encN .i64) (sufN (wordsN vs) (ordN (wordsN vs)) s)] w') ?_ ?_
              · refine CW.region ?_
                refine RT.ev rfl rfl (Ev.move rfl) ?_
                refine RT.ev rfl rfl (Ev.lenStr Try.underlying9 rfl) ?_
                refine RT.ev rfl rfl (Ev.move rfl) ?_
                refine RT.ev rfl rfl (Ev.lenStr Try.underlying9 rfl) ?_
                refine RT.ev rfl rfl (Ev.geqN rfl rfl) ?_
                refine RT.ev rfl rfl (Ev.move rfl) ?_
                by_cases hg_9 : s.size ≤ x.size
                · refine RT.yes rfl rfl rfl (decide_eq_true hg_9) ?_
                  refine RT.ev rfl rfl (Ev.move rfl) ?_
                  refine RT.yes rfl rfl rfl (decide_eq_true hg_9) ?_
                  refine RT.ev rfl rfl (Ev.move rfl) ?_
                  refine RT.yes rfl rfl rfl (decide_eq_true hg_9) ?_
                  refine RT.ev rfl rfl (Ev.lenStr Try.underlying9 rfl) ?_
                  refine RT.yes rfl rfl rfl (decide_eq_true hg_9) ?_
                  refine RT.ev rfl rfl (Ev.move rfl) ?_
                  refine RT.yes rfl rfl rfl (decide_eq_true hg_9) ?_
                  refine RT.ev rfl rfl (Ev.lenStr Try.underlying9 rfl) ?_
                  refine RT.yes rfl rfl rfl (decide_eq_true hg_9) ?_
                  refine RT.ev rfl rfl (Ev.subI rfl rfl (by omega) (by omega)) ?_
                  refine RT.yes rfl rfl rfl (decide_eq_true hg_9) ?_
                  refine RT.ev rfl rfl (Ev.sliceStr (l := (x.size - s.size)) (h := x.size) Try.underlying9 rfl ⟨_, rfl⟩ rfl (by omega) (by omega)) ?_
                  refine RT.yes rfl rfl rfl (decide_eq_true hg_9) ?_
                  refine RT.ev rfl rfl (Ev.move rfl) ?_
                  refine RT.yes rfl rfl rfl (decide_eq_true hg_9) ?_
                  refine RT.ev rfl rfl (Ev.strEql rfl rfl) ?_
                  refine RT.ev rfl rfl (Ev.pickY rfl (decide_eq_true hg_9) rfl) ?_
                  refine RT.nil ?_
                  exact ⟨⟨rfl, rfl, rfl, rfl, rfl, rfl, rfl, rfl, rfl, rfl, rfl, rfl, rfl, rfl, rfl, rfl, rfl, rfl, rfl, congrArg some (congrArg Value.bool (by simp [hg_9])), trivial⟩, hs_16⟩
                · refine RT.no rfl rfl rfl (decide_eq_false hg_9) rfl ?_
                  refine RT.no rfl rfl rfl (decide_eq_false hg_9) rfl ?_
                  refine RT.no rfl rfl rfl (decide_eq_false hg_9) rfl ?_
                  refine RT.no rfl rfl rfl (decide_eq_false hg_9) rfl ?_
                  refine RT.no rfl rfl rfl (decide_eq_false hg_9) rfl ?_
                  refine RT.no rfl rfl rfl (decide_eq_false hg_9) rfl ?_
                  refine RT.no rfl rfl rfl (decide_eq_false hg_9) rfl ?_
                  refine RT.no rfl rfl rfl (decide_eq_false hg_9) rfl ?_
                  refine RT.no rfl rfl rfl (decide_eq_false hg_9) rfl ?_
                  refine RT.ev rfl rfl (Ev.pickN rfl (decide_eq_false hg_9) rfl) ?_
                  refine RT.nil ?_
                  exact ⟨⟨rfl, rfl, rfl, rfl, rfl, rfl, rfl, rfl, rfl, rfl, rfl, rfl, rfl, rfl, rfl, rfl, rfl, rfl, rfl, congrArg some (congrArg Value.bool (by simp [hg_9])), trivial⟩, hs_16⟩
              · rintro L' w_18 ⟨hw_8, hs_19⟩
                refine CW.weaken _ hw_8 ?_
                refine CW.condD rfl (fun hc_7 => ?_) (fun hc_7 => ?_)
                · refine CW.seq ?_
                  refine CW.seq ?_
                  have hsa := suf_at hn_ hx (suf_ext.1 hc_7)
                  rw [← hz] at hsa
                  have hzl := (List.getElem?_eq_some_iff.1 hsa).1
                  refine CW.region ?_
                  refine RT.ev rfl rfl (Ev.move rfl) ?_
                  refine RT.ev rfl rfl (Ev.move rfl) ?_
                  refine RT.ev rfl rfl (Ev.lenL Try.underlying22 rfl (hs_19.rdL 6 rfl)) ?_
                  refine RT.ev rfl rfl (Ev.geqN rfl rfl) ?_
                  refine RT.ev rfl rfl (Ev.move rfl) ?_
                  refine RT.yes rfl rfl rfl (decide_eq_false (by omega)) ?_
                  refine RT.ev rfl rfl (Ev.move rfl) ?_
                  refine RT.yes rfl rfl rfl (decide_eq_false (by omega)) ?_
                  refine RT.ev rfl rfl (Ev.move rfl) ?_
                  refine RT.yes rfl rfl rfl (decide_eq_false (by omega)) ?_
                  refine RT.ev rfl rfl (Ev.idxL (E := encN .i64) sl22 rfl rfl (hs_19.rdL 6 rfl) (by omega)) ?_
                  refine RT.yes rfl rfl rfl (decide_eq_false (by omega)) ?_
                  refine RT.ev rfl rfl (Ev.ldL (E := encN .i64) scal3 rfl (hs_19.rdL 6 rfl) hsa (by decide) rfl) ?_
                  refine RT.yes rfl rfl rfl (decide_eq_false (by omega)) ?_
                  refine RT.ev rfl rfl (Ev.move rfl) ?_
                  refine RT.yes rfl rfl rfl (decide_eq_false (by omega)) ?_
                  refine RT.ev rfl rfl (Ev.neqN rfl rfl) ?_
                  refine RT.ev rfl rfl (Ev.pickN rfl (decide_eq_false (by omega)) rfl) ?_
                  refine RT.nil ?_
                  refine CW.condF rfl (decide_eq_false (fun h9 => h9 rfl)) ?_
                  refine CW.skip ?_
                  refine CW.region ?_
                  refine RT.ev rfl rfl (Ev.move rfl) ?_
                  refine RT.ev rfl rfl (Ev.addI (b := 1) rfl rfl (by omega)) ?_
                  refine RT.ev rfl rfl (Ev.assign rfl) ?_
                  refine RT.nil ?_
                  refine CW.region ?_
                  refine RT.ev rfl rfl (Ev.addI (b := 1) rfl rfl (by omega)) ?_
                  refine RT.ev rfl rfl (Ev.move rfl) ?_
                  refine RT.nil ?_
                  exact ⟨(k + 1, (revN x), (z + 1)), ⟨rfl, rfl, rfl, rfl, rfl, rfl, rfl, rfl, rfl, rfl, trivial⟩, ⟨hs_19, by omega, by rw [hst, if_pos (suf_ext.1 hc_7), List.length_append, hz]; rfl, fun _ => ⟨n_, hn_, hrx.symm⟩⟩, (show ((ordN (wordsN vs)).length - (k + 1)) < ((ordN (wordsN vs)).length - k) from by omega)⟩
                · refine CW.skip ?_
                  refine CW.region ?_
                  refine RT.ev rfl rfl (Ev.addI (b := 1) rfl rfl (by omega)) ?_
                  refine RT.ev rfl rfl (Ev.move rfl) ?_
                  refine RT.nil ?_
                  exact ⟨(k + 1, (revN x), z), ⟨rfl, rfl, rfl, rfl, rfl, rfl, rfl, rfl, rfl, rfl, trivial⟩, ⟨hs_19, by omega, by rw [hst, if_neg (fun h9 => hc_7 (suf_ext.2 h9)), hz], fun _ => ⟨n_, hn_, hrx.symm⟩⟩, (show ((ordN (wordsN vs)).length - (k + 1)) < ((ordN (wordsN vs)).length - k) from by omega)⟩
      · refine CW.exit0 ?_
        refine CW.seq ?_
        refine CW.region ?_
        refine RT.ev rfl rfl (Ev.move rfl) ?_
        refine RT.ev rfl rfl (Ev.move rfl) ?_
        refine RT.ev rfl rfl (Ev.lenL Try.underlying22 rfl (hs_9.rdL 6 rfl)) ?_
        refine RT.ev rfl rfl (Ev.eqlN rfl rfl) ?_
        refine RT.ev rfl rfl (Ev.move rfl) ?_
        refine RT.yes rfl rfl rfl (decide_eq_true (by rw [hz, show k = (ordN (wordsN vs)).length by omega, List.take_length])) ?_
        refine RT.eff rfl rfl (OpE.call ent33 rfl ((lawake_ok _).mono fun r_10 w_19 h_10 => ?_))
        obtain ⟨rfl, hp_10⟩ := h_10
        have hs_20 : Sat w [cObj lg_1 92 [lvw_1, lvc_1, lvo_1], cL lvw_1 9 (encTx) (wordsN vs), cL lvc_1 3 (encN .i64) (countsN vs), cL lvo_1 3 (encN .i64) (ordN (wordsN vs)), cL lvn_1 3 (encN .i64) (vs.map (lbW (wordsN vs))), cL r_5 3 (encN .i64) (ordN (wordsN vs)), cL r_6 3 (encN .i64) (sufN (wordsN vs) (ordN (wordsN vs)) s)] _ := hs_9.adds hp_10
        refine RT.ev rfl rfl (Ev.pickY rfl (decide_eq_true (by rw [hz, show k = (ordN (wordsN vs)).length by omega, List.take_length])) rfl) ?_
        refine RT.ev rfl rfl (Ev.assign rfl) ?_
        refine RT.nil ?_
        refine CW.ret ?_
        show PostK _ _ _ _ _ _
        refine post1 rfl rfl ?_
        have hs_21 : Sat w [] w_19 := hs_20.sub ((.cons _ (.cons _ (.cons _ (.cons _ (.cons _ (.cons _ (.cons _ .slnil))))))))
        exact ⟨rfl, hs_21⟩
  · refine CW.region ?_
    refine RT.ev rfl rfl (Ev.move rfl) ?_
    refine RT.eff rfl rfl (OpE.call ent32 rfl ((lbuild_err (hv.ext hs0.ext) he).mono fun r_11 w_20 h_11 => ?_))
    obtain ⟨rfl, hp_11⟩ := h_11
    have hs_22 : Sat w [] _ := hs0.adds hp_11
    refine RT.ev rfl rfl (Ev.move rfl) ?_
    refine RT.ev rfl rfl (Ev.extract rfl rfl) ?_
    refine RT.ev rfl rfl (Ev.extract rfl rfl) ?_
    refine RT.ev rfl rfl (Ev.extract rfl rfl) ?_
    refine RT.ev rfl rfl (Ev.assign rfl) ?_
    refine RT.ev rfl rfl (Ev.assign rfl) ?_
    refine RT.ev rfl rfl (Ev.assign rfl) ?_
    refine RT.nil ?_
    refine CW.seq ?_
    refine CW.seq ?_
    refine CW.region ?_
    refine RT.ev rfl rfl (Ev.move rfl) ?_
    refine RT.eff rfl rfl (OpE.call ent35 rfl ((long_ok _ _ _ (hv.ext hs_22.ext) (hn)).mono fun r_12 w_21 h_12 => ?_))
    obtain ⟨⟨lb_2, rfl⟩, hp_12⟩ := h_12
    have hs_23 : Sat w [] _ := hs_22.adds hp_12
    refine RT.ev rfl rfl (Ev.move rfl) ?_
    by_cases hg_10 : lb_2 = true
    · refine RT.no rfl rfl rfl (hg_10) rfl ?_
      refine RT.no rfl rfl rfl (hg_10) rfl ?_
      refine RT.ev rfl rfl (Ev.pickY rfl (hg_10) rfl) ?_
      refine RT.nil ?_
      refine CW.condT rfl (rfl) ?_
      refine CW.seq ?_
      refine CW.region ?_
      refine RT.ev rfl rfl (Ev.assign rfl) ?_
      refine RT.nil ?_
      refine CW.ret ?_
      show PostK _ _ _ _ _ _
      refine post1 rfl rfl ?_
      have hs_24 : Sat w [] w_21 := hs_23.sub (.slnil)
      exact ⟨rfl, hs_24⟩
    · refine RT.yes rfl rfl rfl (by simpa using hg_10) ?_
      refine RT.ev rfl rfl (Ev.move rfl) ?_
      refine RT.yes rfl rfl rfl (by simpa using hg_10) ?_
      refine RT.ev rfl rfl (Ev.neqN (b := 0) rfl rfl) ?_
      refine RT.ev rfl rfl (Ev.pickN rfl (by simpa using hg_10) rfl) ?_
      refine RT.nil ?_
      refine CW.condT rfl (decide_eq_true (fun h9 => he (by omega))) ?_
      refine CW.seq ?_
      refine CW.region ?_
      refine RT.ev rfl rfl (Ev.assign rfl) ?_
      refine RT.nil ?_
      refine CW.ret ?_
      show PostK _ _ _ _ _ _
      refine post1 rfl rfl ?_
      have hs_25 : Sat w [] w_21 := hs_23.sub (.slnil)
      exact ⟨rfl, hs_25⟩

end Go.Proofs.Ytfhbflhnelbkfaa
