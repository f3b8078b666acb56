/- The walks of the functions of F13l, printed by our own program (kwgen.py) out of our descriptions (base.py). -/
import Derived.Test.YtfhbflhnelbkfaaF13b
import Derived.Test.YtfhbflhnelbkfaaF13r
import Derived.Test.YtfhbflhnelbkfaaF12
import Derived.Test.YtfhbflhnelbkfaaTab
namespace Go.Proofs.Ytfhbflhnelbkfaa
open Go.RowKit Go.Kw
set_option maxRecDepth 100000
set_option linter.unusedVariables false
set_option linter.unusedSimpArgs false
theorem wordAt_get {W : List ByteArray} {k : Nat} {x : ByteArray} (h : W[k]? = some x) : wordAt W (k : Int) = (x, true) := by
  have := (List.getElem?_eq_some_iff.1 h).1
  unfold wordAt; rw [if_pos (by omega), Int.toNat_natCast, getD_of h]
theorem countAt_get {C : List Nat} {k : Nat} {x : Nat} (h : C[k]? = some x) : countAt C (k : Int) = x := by
  have := (List.getElem?_eq_some_iff.1 h).1
  unfold countAt; rw [if_pos (by omega), Int.toNat_natCast, getD_of h]

theorem long_ok (v : Value) (vs : List ByteArray) (w : World) (hv : RdL w v encTx vs) (hn : vs.length ≤ 9223372036854775807) :
    CallsV Try.prog 35 [v] w fun r w' => (∃ b, r = .bool b) ∧ Sat w [] w' := by
  have hs0 := Sat.start w
  refine callsV_of Try.func35 rfl rfl ?_
  refine CW.seq ?_
  refine CW.region ?_
  refine RT.ev rfl rfl (Ev.assign rfl) ?_
  refine RT.nil ?_
  refine CW.seq ?_
  refine CW.region ?_
  refine RT.ev rfl rfl (Ev.assign rfl) ?_
  refine RT.nil ?_
  refine CW.seq ?_
  refine CW.seq ?_
  refine CW.region ?_
  refine RT.ev rfl rfl (Ev.move rfl) ?_
  refine RT.ev rfl rfl (Ev.lenL Try.underlying45 rfl (hv.ext hs0.ext)) ?_
  refine RT.ev rfl rfl (Ev.move rfl) ?_
  refine RT.nil ?_
  refine CW.block ?_
  refine CW.loop (α := Nat × Int) (fun (k, z) => [(0, v), (3, (Value.int .i64 (z))), (6, v), (7, (Value.int .i64 ((vs.length : Nat) : Int))), (8, (Value.int .i64 ((k : Nat) : Int)))]) (fun (k, z) w' => Sat w [] w' ∧ (k ≤ vs.length)) (fun (k, z) => vs.length - k) (0, 0) ⟨rfl, rfl, rfl, rfl, rfl, trivial⟩ ⟨hs0, Nat.zero_le _⟩ ?_
  rintro ⟨k, z⟩ w_1 ⟨hs_1, hk⟩
  show CW _ _ _ _ [(0, v), (3, (Value.int .i64 (z))), (6, v), (7, (Value.int .i64 ((vs.length : Nat) : Int))), (8, (Value.int .i64 ((k : Nat) : Int)))] _
  refine CW.seq ?_
  refine CW.region ?_
  refine RT.ev rfl rfl (Ev.lssN rfl rfl) ?_
  refine RT.nil ?_
  refine CW.seq ?_
  refine CW.condD rfl (fun hc_1 => ?_) (fun hc_1 => ?_)
  · refine CW.skip ?_
    refine CW.seq ?_
    refine CW.block ?_
    refine CW.seq ?_
    obtain ⟨x, hx⟩ : ∃ x, (vs)[k]? = some x := ⟨_, List.getElem?_eq_getElem hc_1⟩
    refine CW.region ?_
    refine RT.ev rfl rfl (Ev.idxL (E := encTx) sl45 rfl rfl (hv.ext hs_1.ext) (by omega)) ?_
    refine RT.ev rfl rfl (Ev.ldL (E := encTx) scal9 rfl (hv.ext hs_1.ext) hx (by decide) rfl) ?_
    refine RT.ev rfl rfl (Ev.assign rfl) ?_
    refine RT.nil ?_
    refine CW.seq ?_
    refine CW.region ?_
    refine RT.ev rfl rfl (Ev.move rfl) ?_
    refine RT.ev rfl rfl (Ev.move rfl) ?_
    refine RT.ev rfl rfl (Ev.lenStr Try.underlying9 rfl) ?_
    refine RT.ev rfl rfl (Ev.addW (a := z) (b := ((x.size : Nat) : Int)) rfl rfl) ?_
    refine RT.ev rfl rfl (Ev.assign rfl) ?_
    refine RT.nil ?_
    refine CW.seq ?_
    refine CW.region ?_
    refine RT.ev rfl rfl (Ev.move rfl) ?_
    refine RT.ev rfl rfl (Ev.gtr rfl rfl) ?_
    refine RT.nil ?_
    refine CW.condD rfl (fun hc_2 => ?_) (fun hc_2 => ?_)
    · refine CW.seq ?_
      refine CW.region ?_
      refine RT.ev rfl rfl (Ev.assign rfl) ?_
      refine RT.nil ?_
      refine CW.ret ?_
      show PostK _ _ _ _ _ _
      refine post1 rfl rfl ?_
      exact ⟨⟨_, rfl⟩, hs_1⟩
    · refine CW.skip ?_
      refine CW.region ?_
      refine RT.ev rfl rfl (Ev.addI (b := 1) rfl rfl (by omega)) ?_
      refine RT.ev rfl rfl (Ev.move rfl) ?_
      refine RT.nil ?_
      exact ⟨(k + 1, (IntKind.i64.wrap (z + ((x.size : Nat) : Int)))), ⟨rfl, rfl, rfl, rfl, rfl, trivial⟩, ⟨hs_1, by omega⟩, (show (vs.length - (k + 1)) < (vs.length - k) from by omega)⟩
  · refine CW.exit0 ?_
    refine CW.seq ?_
    refine CW.region ?_
    refine RT.ev rfl rfl (Ev.move rfl) ?_
    refine RT.ev rfl rfl (Ev.lenL Try.underlying45 rfl (hv.ext hs_1.ext)) ?_
    refine RT.ev rfl rfl (Ev.gtrN (b := 80) rfl rfl) ?_
    refine RT.ev rfl rfl (Ev.assign rfl) ?_
    refine RT.nil ?_
    refine CW.ret ?_
    show PostK _ _ _ _ _ _
    refine post1 rfl rfl ?_
    exact ⟨⟨_, rfl⟩, hs_1⟩

theorem lsame_ok (g : Nat) (vw vc vo : Value) (W : List ByteArray) (C O : List Nat) (rw_ rc : Value) (w : World) (h : LexAt w g vw vc vo W C O) (hrw : RdL w rw_ encTx W) (hrc : RdL w rc (encN .i64) C) (hCl : C.length = W.length) (hn : W.length ≤ 1000000) :
    CallsV Try.prog 49 [(Value.pointer (some ⟨g, 0, none⟩)), (Value.agg #[rw_, rc])] w fun r w' => r = .bool true ∧ Sat w [] w' := by
  have hs0 := Sat.start w
  refine callsV_of Try.func49 rfl rfl ?_
  refine CW.seq ?_
  refine CW.region ?_
  refine RT.eff rfl rfl (OpE.box hs0 rfl fun b_1 w_1 hs_1 hch_1 hb_1 => ?_)
  have hs_1d : Sat w [cObj b_1 51 [rw_, rc]] _ := hs_1
  refine RT.ev rfl rfl (Ev.assign rfl) ?_
  refine RT.nil ?_
  refine CW.seq ?_
  refine CW.seq ?_
  refine CW.draw (fun w' => Sat w [cObj b_1 51 [rw_, rc]] w') (.free 0 (.free 1 (.free 2 (.free 3 (.free 5 (.free 6 (.free 7 (.one 4 (.free 8 (.free 9 .fin)))))))))) mixed (by kernel_rfl) ?_
  have hs_2 := hs_1d.drew
  refine RP.ev rfl rfl rfl (fun w' hS' => Ev.move rfl) hs_2 ?_
  refine RP.ev rfl rfl rfl (fun w' hS' => Ev.eqlPt Try.underlying46 rfl rfl) hs_2 ?_
  refine RP.ev rfl rfl rfl (fun w' hS' => Ev.move rfl) hs_2 ?_
  refine RP.evYes rfl rfl rfl rfl (rfl) rfl (fun w' hS' => Ev.move rfl) hs_2 ?_
  refine RP.evYes rfl rfl rfl rfl (rfl) rfl (fun w' hS' => Ev.fieldAddr fld51_0 rfl rfl) hs_2 ?_
  refine RP.evYes rfl rfl rfl rfl (rfl) rfl (fun w' hS' => Ev.load scal45 rfl (hS'.cell (i := 0) (j := 0) rfl rfl)) hs_2 ?_
  refine RP.evYes rfl rfl rfl rfl (rfl) rfl (fun w' hS' => Ev.lenL Try.underlying45 rfl (hrw.ext hS'.ext)) hs_2 ?_
  refine RP.effYes rfl rfl rfl rfl (rfl) rfl (OpE.call ent34 rfl ((size_ok _ _ _ _ _ _ _ _ (h.ext hs_2.ext)).mono fun r_1 w_2 h_1 => ?_))
  obtain ⟨rfl, hp_1⟩ := h_1
  have hs_3 : Sat w [cObj b_1 51 [rw_, rc]] _ := hs_2.adds hp_1
  have hS_1 : Sat w [cObj b_1 51 [rw_, rc]] _ := hs_3.sub ((.cons_cons _ .slnil))
  refine ⟨hS_1, ?_⟩
  refine RP.evYes rfl rfl rfl rfl (rfl) rfl (fun w' hS' => Ev.neqN rfl rfl) hS_1 ?_
  refine RP.ev rfl rfl rfl (fun w' hS' => Ev.pickN rfl (rfl) rfl) hS_1 ?_
  refine RP.fin ?_
  refine CW.condF rfl (decide_eq_false (fun h9 => h9 rfl)) ?_
  refine CW.skip ?_
  refine CW.seq ?_
  refine CW.seq ?_
  refine CW.region ?_
  refine RT.ev rfl rfl (Ev.fieldAddr fld51_0 rfl rfl) ?_
  refine RT.ev rfl rfl (Ev.load scal45 rfl (hs_3.cell (i := 0) (j := 0) rfl rfl)) ?_
  refine RT.ev rfl rfl (Ev.lenL Try.underlying45 rfl (hrw.ext hs_3.ext)) ?_
  refine RT.ev rfl rfl (Ev.move rfl) ?_
  refine RT.nil ?_
  refine CW.block ?_
  refine CW.loop (α := Nat) (fun k => [(0, (Value.pointer (some ⟨g, 0, none⟩))), (3, (Value.pointer (some ⟨b_1, 0, none⟩))), (20, rw_), (21, (Value.int .i64 ((W.length : Nat) : Int))), (22, (Value.int .i64 ((k : Nat) : Int)))]) (fun k w' => Sat w [cObj b_1 51 [rw_, rc]] w' ∧ (k ≤ W.length)) (fun k => W.length - k) 0 ⟨rfl, rfl, rfl, rfl, rfl, trivial⟩ ⟨hs_3, Nat.zero_le _⟩ ?_
  rintro k w_3 ⟨hs_4, hk⟩
  show CW _ _ _ _ [(0, (Value.pointer (some ⟨g, 0, none⟩))), (3, (Value.pointer (some ⟨b_1, 0, none⟩))), (20, rw_), (21, (Value.int .i64 ((W.length : Nat) : Int))), (22, (Value.int .i64 ((k : Nat) : Int)))] _
  refine CW.seq ?_
  refine CW.region ?_
  refine RT.ev rfl rfl (Ev.lssN rfl rfl) ?_
  refine RT.nil ?_
  refine CW.seq ?_
  refine CW.condD rfl (fun hc_1 => ?_) (fun hc_1 => ?_)
  · refine CW.skip ?_
    refine CW.seq ?_
    refine CW.block ?_
    refine CW.seq ?_
    obtain ⟨x, hx⟩ : ∃ x, (W)[k]? = some x := ⟨_, List.getElem?_eq_getElem hc_1⟩
    refine CW.region ?_
    refine RT.ev rfl rfl (Ev.move rfl) ?_
    refine RT.ev rfl rfl (Ev.idxL (E := encTx) sl45 rfl rfl (hrw.ext hs_4.ext) (by omega)) ?_
    refine RT.ev rfl rfl (Ev.ldL (E := encTx) scal9 rfl (hrw.ext hs_4.ext) hx (by decide) rfl) ?_
    refine RT.ev rfl rfl (Ev.assign rfl) ?_
    refine RT.ev rfl rfl (Ev.assign rfl) ?_
    refine RT.nil ?_
    refine CW.seq ?_
    refine CW.region ?_
    refine RT.ev rfl rfl (Ev.move rfl) ?_
    refine RT.ev rfl rfl (Ev.move rfl) ?_
    refine RT.eff rfl rfl (OpE.call ent39 rfl ((word_ok _ _ _ _ _ _ _ ((k : Nat) : Int) _ (h.ext hs_4.ext)).mono fun r_2 w_4 h_2 => ?_))
    obtain ⟨rfl, hp_2⟩ := h_2
    have hs_5 : Sat w [cObj b_1 51 [rw_, rc]] _ := hs_4.adds hp_2
    refine RT.ev rfl rfl (Ev.move rfl) ?_
    refine RT.ev rfl rfl (Ev.extract rfl rfl) ?_
    refine RT.ev rfl rfl (Ev.extract rfl rfl) ?_
    refine RT.ev rfl rfl (Ev.assign rfl) ?_
    refine RT.ev rfl rfl (Ev.assign rfl) ?_
    refine RT.nil ?_
    refine CW.seq ?_
    refine CW.weaken [(0, _), (3, _), (5, _), (6, _), (7, (Value.string x)), (8, _), (20, _), (21, _), (22, _), (23, _), (24, _), (25, _), (26, _), (27, _), (28, _), (29, _), (30, _), (31, _), (32, _)] ⟨rfl, rfl, rfl, rfl, congrArg some (congrArg Value.string (by rw [wordAt_get hx])), rfl, rfl, rfl, rfl, rfl, rfl, rfl, rfl, rfl, rfl, rfl, rfl, rfl, rfl, trivial⟩ ?_
    refine CW.weaken [(0, _), (3, _), (5, _), (6, _), (7, _), (8, (Value.bool true)), (20, _), (21, _), (22, _), (23, _), (24, _), (25, _), (26, _), (27, _), (28, _), (29, _), (30, _), (31, _), (32, _)] ⟨rfl, rfl, rfl, rfl, rfl, congrArg some (congrArg Value.bool (by rw [wordAt_get hx])), rfl, rfl, rfl, rfl, rfl, rfl, rfl, rfl, rfl, rfl, rfl, rfl, rfl, trivial⟩ ?_
    obtain ⟨c, hc⟩ : ∃ c, C[k]? = some c := ⟨_, List.getElem?_eq_getElem (by omega)⟩
    refine CW.draw (fun w' => Sat w [cObj b_1 51 [rw_, rc]] w') (.free 0 (.free 1 (.free 2 (.free 3 (.free 4 (.free 5 (.free 6 (.free 7 (.free 8 (.free 9 (.free 11 (.free 12 (.free 13 (.free 14 (.free 15 (.one 10 (.free 16 (.free 17 .fin)))))))))))))))))) mixed (by kernel_rfl) ?_
    have hs_6 := hs_5.drew
    refine RP.ev rfl rfl rfl (fun w' hS' => Ev.move rfl) hs_6 ?_
    refine RP.ev rfl rfl rfl (fun w' hS' => Ev.notB rfl) hs_6 ?_
    refine RP.ev rfl rfl rfl (fun w' hS' => Ev.move rfl) hs_6 ?_
    refine RP.evYes rfl rfl rfl rfl (rfl) rfl (fun w' hS' => Ev.move rfl) hs_6 ?_
    refine RP.evYes rfl rfl rfl rfl (rfl) rfl (fun w' hS' => Ev.move rfl) hs_6 ?_
    refine RP.evYes rfl rfl rfl rfl (rfl) rfl (fun w' hS' => Ev.strNeq rfl rfl) hs_6 ?_
    refine RP.ev rfl rfl rfl (fun w' hS' => Ev.pickN rfl (rfl) rfl) hs_6 ?_
    refine RP.ev rfl rfl rfl (fun w' hS' => Ev.move rfl) hs_6 ?_
    refine RP.evYes rfl rfl rfl rfl (decide_eq_false (fun h9 => h9 rfl)) rfl (fun w' hS' => Ev.move rfl) hs_6 ?_
    refine RP.evYes rfl rfl rfl rfl (decide_eq_false (fun h9 => h9 rfl)) rfl (fun w' hS' => Ev.move rfl) hs_6 ?_
    refine RP.evYes rfl rfl rfl rfl (decide_eq_false (fun h9 => h9 rfl)) rfl (fun w' hS' => Ev.fieldAddr fld51_1 rfl rfl) hs_6 ?_
    refine RP.evYes rfl rfl rfl rfl (decide_eq_false (fun h9 => h9 rfl)) rfl (fun w' hS' => Ev.load scal22 rfl (hS'.cell (i := 0) (j := 1) rfl rfl)) hs_6 ?_
    refine RP.evYes rfl rfl rfl rfl (decide_eq_false (fun h9 => h9 rfl)) rfl (fun w' hS' => Ev.move rfl) hs_6 ?_
    refine RP.evYes rfl rfl rfl rfl (decide_eq_false (fun h9 => h9 rfl)) rfl (fun w' hS' => Ev.idxL (E := encN .i64) sl22 rfl rfl (hrc.ext hS'.ext) (by omega)) hs_6 ?_
    refine RP.evYes rfl rfl rfl rfl (decide_eq_false (fun h9 => h9 rfl)) rfl (fun w' hS' => Ev.ldL (E := encN .i64) scal3 rfl (hrc.ext hS'.ext) hc (by decide) rfl) hs_6 ?_
    refine RP.effYes rfl rfl rfl rfl (decide_eq_false (fun h9 => h9 rfl)) rfl (OpE.call ent40 rfl ((count_ok _ _ _ _ _ _ _ ((k : Nat) : Int) _ (h.ext hs_6.ext)).mono fun r_3 w_5 h_3 => ?_))
    obtain ⟨rfl, hp_3⟩ := h_3
    have hs_7 : Sat w [cObj b_1 51 [rw_, rc]] _ := hs_6.adds hp_3
    have hS_2 : Sat w [cObj b_1 51 [rw_, rc]] _ := hs_7.sub ((.cons_cons _ .slnil))
    refine ⟨hS_2, ?_⟩
    refine RP.evYes rfl rfl rfl rfl (decide_eq_false (fun h9 => h9 rfl)) rfl (fun w' hS' => Ev.neqN rfl rfl) hS_2 ?_
    refine RP.ev rfl rfl rfl (fun w' hS' => Ev.pickN rfl (decide_eq_false (fun h9 => h9 rfl)) rfl) hS_2 ?_
    refine RP.fin ?_
    refine CW.condF rfl (decide_eq_false (fun h9 => h9 (congrArg Nat.cast (countAt_get hc)))) ?_
    refine CW.skip ?_
    refine CW.region ?_
    refine RT.ev rfl rfl (Ev.addI (b := 1) rfl rfl (by omega)) ?_
    refine RT.ev rfl rfl (Ev.move rfl) ?_
    refine RT.nil ?_
    have hs_8 : Sat w [cObj b_1 51 [rw_, rc]] w_5 := hs_7.sub ((.cons_cons _ .slnil))
    exact ⟨k + 1, ⟨rfl, rfl, rfl, rfl, rfl, trivial⟩, ⟨hs_8, by omega⟩, (show (W.length - (k + 1)) < (W.length - k) from by omega)⟩
  · refine CW.exit0 ?_
    refine CW.seq ?_
    refine CW.region ?_
    refine RT.ev rfl rfl (Ev.assign rfl) ?_
    refine RT.nil ?_
    refine CW.ret ?_
    show PostK _ _ _ _ _ _
    refine post1 rfl rfl ?_
    have hs_9 : Sat w [] w_3 := hs_4.sub ((.cons _ .slnil))
    exact ⟨rfl, hs_9⟩

theorem lbuild_err {v : Value} {vs : List ByteArray} {w : World} (hv : RdL w v encTx vs) (h : bldE vs ≠ 0) : CallsV Try.prog 32 [v] w fun r w' => r = .tuple #[.pointer none, .slice none 0 0, .int .i64 ((bldE vs : Nat) : Int)] ∧ Sat w [] w' :=
  (lbuild_ok v vs w hv).mono fun r w' hq => by rcases hq with ⟨_, h1, h2⟩ | ⟨h0, _⟩; exact ⟨h1, h2⟩; exact absurd h0 h
theorem lbuild_good {v : Value} {vs : List ByteArray} {w : World} (hv : RdL w v encTx vs) (h : bldE vs = 0) : CallsV Try.prog 32 [v] w fun r w' => ∃ g vw vc vo vn, r = .tuple #[.pointer (some ⟨g, 0, none⟩), vn, .int .i64 0] ∧ Sat w [cObj g 92 [vw, vc, vo], cL vw 9 encTx (wordsN vs), cL vc 3 (encN .i64) (countsN vs), cL vo 3 (encN .i64) (ordN (wordsN vs)), cL vn 3 (encN .i64) (vs.map (lbW (wordsN vs)))] w' :=
  (lbuild_ok v vs w hv).mono fun r w' hq => by rcases hq with ⟨h0, _⟩ | ⟨_, h1⟩; exact absurd h h0; exact h1
theorem rbuild_err {v : Value} {vs : List ByteArray} {w : World} (hv : RdL w v encTx vs) (h : bldE vs ≠ 0) : CallsV Try.prog 72 [v] w fun r w' => r = .tuple #[.agg #[.slice none 0 0, .slice none 0 0], .slice none 0 0, .int .i64 ((bldE vs : Nat) : Int)] ∧ Sat w [] w' :=
  (rbuild_ok v vs w hv).mono fun r w' hq => by rcases hq with ⟨_, h1, h2⟩ | ⟨h0, _⟩; exact ⟨h1, h2⟩; exact absurd h0 h
theorem rbuild_good {v : Value} {vs : List ByteArray} {w : World} (hv : RdL w v encTx vs) (h : bldE vs = 0) : CallsV Try.prog 72 [v] w fun r w' => ∃ vw vc vn, r = .tuple #[.agg #[vw, vc], vn, .int .i64 0] ∧ Sat w [cL vw 9 encTx (wordsN vs), cL vc 3 (encN .i64) (countsN vs), cL vn 3 (encN .i64) (vs.map (lbW (wordsN vs)))] w' :=
  (rbuild_ok v vs w hv).mono fun r w' hq => by rcases hq with ⟨h0, _⟩ | ⟨_, h1⟩; exact absurd h h0; exact h1
theorem bld_vlen {vs : List ByteArray} (h : bldE vs = 0) : vs.length ≤ 4096 := by
  unfold bldE at h
  split at h
  · cases h
  · omega
theorem bld_len {vs : List ByteArray} (h : bldE vs = 0) : (wordsN vs).length ≤ 1000000 := by
  have := wordsN_length vs
  unfold bldE at h
  split at h
  · cases h
  · omega

theorem built_err (v : Value) (vs : List ByteArray) (w : World) (hv : RdL w v encTx vs) (he : bldE vs ≠ 0) :
    CallsV Try.prog 36 [v] w fun r w' => r = .tuple #[.pointer none, .agg #[.slice none 0 0, .slice none 0 0], .bool true] ∧ Sat w [] w' := by
  have hs0 := Sat.start w
  refine callsV_of Try.func36 rfl rfl ?_
  refine CW.seq ?_
  refine CW.region ?_
  refine RT.ev rfl rfl (Ev.assign rfl) ?_
  refine RT.eff rfl rfl (OpE.alloc hs0 zero51 fun b_1 w_1 hs_1 hch_1 hb_1 => ?_)
  have hs_1d : Sat w [cObj b_1 51 [(Value.slice none 0 0), (Value.slice none 0 0)]] _ := hs_1
  refine RT.ev rfl rfl (Ev.assign rfl) ?_
  refine RT.nil ?_
  refine CW.seq ?_
  refine CW.region ?_
  refine RT.ev rfl rfl (Ev.move rfl) ?_
  refine RT.eff rfl rfl (OpE.call ent32 rfl ((lbuild_err (hv.ext hs_1d.ext) he).mono fun r_1 w_2 h_1 => ?_))
  obtain ⟨rfl, hp_1⟩ := h_1
  have hs_2 : Sat w [cObj b_1 51 [(Value.slice none 0 0), (Value.slice none 0 0)]] _ := hs_1d.adds hp_1
  refine RT.ev rfl rfl (Ev.move rfl) ?_
  refine RT.ev rfl rfl (Ev.extract rfl rfl) ?_
  refine RT.ev rfl rfl (Ev.extract rfl rfl) ?_
  refine RT.ev rfl rfl (Ev.extract rfl rfl) ?_
  refine RT.ev rfl rfl (Ev.assign rfl) ?_
  refine RT.ev rfl rfl (Ev.assign rfl) ?_
  refine RT.ev rfl rfl (Ev.assign rfl) ?_
  refine RT.nil ?_
  refine CW.seq ?_
  refine CW.region ?_
  refine RT.ev rfl rfl (Ev.move rfl) ?_
  refine RT.eff rfl rfl (OpE.call ent72 rfl ((rbuild_err (hv.ext hs_2.ext) he).mono fun r_2 w_3 h_2 => ?_))
  obtain ⟨rfl, hp_2⟩ := h_2
  have hs_3 : Sat w [cObj b_1 51 [(Value.slice none 0 0), (Value.slice none 0 0)]] _ := hs_2.adds hp_2
  refine RT.ev rfl rfl (Ev.move rfl) ?_
  refine RT.ev rfl rfl (Ev.extract rfl rfl) ?_
  refine RT.ev rfl rfl (Ev.extract rfl rfl) ?_
  refine RT.ev rfl rfl (Ev.extract rfl rfl) ?_
  refine RT.eff rfl rfl (OpE.alloc hs_3 zero51 fun b_2 w_4 hs_4 hch_2 hb_2 => ?_)
  have hs_4d : Sat w [cObj b_1 51 [(Value.slice none 0 0), (Value.slice none 0 0)], cObj b_2 51 [(Value.slice none 0 0), (Value.slice none 0 0)]] _ := hs_4
  refine RT.eff rfl rfl (OpE.storeObjA (vs := [(Value.slice none 0 0), (Value.slice none 0 0)]) agg51 hs_4d (i := 1) rfl rfl rfl rfl (fun v h => by simp only [List.mem_cons, List.not_mem_nil, or_false] at h; rcases h with rfl | rfl; exact rfl; exact rfl) fun w_5 hs_5 hch_3 => ?_)
  have hs_5d : Sat w [cObj b_1 51 [(Value.slice none 0 0), (Value.slice none 0 0)], cObj b_2 51 [(Value.slice none 0 0), (Value.slice none 0 0)]] _ := hs_5
  refine RT.ev rfl rfl (Ev.assign rfl) ?_
  refine RT.ev rfl rfl (Ev.assign rfl) ?_
  refine RT.nil ?_
  refine CW.seq ?_
  refine CW.seq ?_
  refine CW.region ?_
  refine RT.ev rfl rfl (Ev.move rfl) ?_
  refine RT.ev rfl rfl (Ev.move rfl) ?_
  refine RT.ev rfl rfl (Ev.neqN rfl rfl) ?_
  refine RT.ev rfl rfl (Ev.move rfl) ?_
  refine RT.yes rfl rfl rfl (decide_eq_false (fun h9 => h9 rfl)) ?_
  refine RT.ev rfl rfl (Ev.move rfl) ?_
  refine RT.yes rfl rfl rfl (decide_eq_false (fun h9 => h9 rfl)) ?_
  refine RT.ev rfl rfl (Ev.move rfl) ?_
  refine RT.yes rfl rfl rfl (decide_eq_false (fun h9 => h9 rfl)) ?_
  refine RT.eff rfl rfl (OpE.call ent26 rfl ((same_ok _ _ ([]) ([]) _ (RdL.nil _ _) (RdL.nil _ _) (by simp)).mono fun r_3 w_6 h_3 => ?_))
  obtain ⟨rfl, hp_3⟩ := h_3
  have hs_6 : Sat w [cObj b_1 51 [(Value.slice none 0 0), (Value.slice none 0 0)], cObj b_2 51 [(Value.slice none 0 0), (Value.slice none 0 0)]] _ := hs_5d.adds hp_3
  refine RT.yes rfl rfl rfl (decide_eq_false (fun h9 => h9 rfl)) ?_
  refine RT.ev rfl rfl (Ev.notP rfl) ?_
  refine RT.ev rfl rfl (Ev.pickN rfl (decide_eq_false (fun h9 => h9 rfl)) rfl) ?_
  refine RT.nil ?_
  refine CW.condF rfl (decide_eq_false (fun h9 => h9 rfl)) ?_
  refine CW.skip ?_
  refine CW.seq ?_
  refine CW.seq ?_
  refine CW.region ?_
  refine RT.ev rfl rfl (Ev.move rfl) ?_
  refine RT.ev rfl rfl (Ev.neqN (b := 0) rfl rfl) ?_
  refine RT.nil ?_
  refine CW.condT rfl (decide_eq_true (fun h9 => he (by omega))) ?_
  refine CW.seq ?_
  refine CW.draw (fun w' => Sat w [cObj b_2 51 [(Value.slice none 0 0), (Value.slice none 0 0)]] w') (.free 0 (.free 1 (.free 2 (.free 3 (.one 4 (.free 5 .fin)))))) mixed (by kernel_rfl) ?_
  have hs_7 := hs_6.drew
  have hS_1 : Sat w [cObj b_2 51 [(Value.slice none 0 0), (Value.slice none 0 0)]] _ := hs_7.sub ((.cons _ (.cons_cons _ .slnil)))
  refine RP.ev rfl rfl rfl (fun w' hS' => Ev.ldObj agg51 rfl hS' (i := 0) rfl rfl) hS_1 ?_
  refine RP.ev rfl rfl rfl (fun w' hS' => Ev.move rfl) hS_1 ?_
  refine RP.ev rfl rfl rfl (fun w' hS' => Ev.eqlPt Try.underlying46 rfl rfl) hS_1 ?_
  refine RP.ev rfl rfl rfl (fun w' hS' => Ev.assign rfl) hS_1 ?_
  refine RP.eff rfl rfl rfl (OpE.storeObjA (vs := [(Value.slice none 0 0), (Value.slice none 0 0)]) agg51 hs_7 (i := 0) rfl rfl rfl rfl (fun v h => by simp only [List.mem_cons, List.not_mem_nil, or_false] at h; rcases h with rfl | rfl; exact rfl; exact rfl) fun w_7 hs_8 hch_4 => ?_)
  have hs_8d : Sat w [cObj b_1 51 [(Value.slice none 0 0), (Value.slice none 0 0)], cObj b_2 51 [(Value.slice none 0 0), (Value.slice none 0 0)]] _ := hs_8
  have hS_2 : Sat w [cObj b_2 51 [(Value.slice none 0 0), (Value.slice none 0 0)]] _ := hs_8d.sub ((.cons _ (.cons_cons _ .slnil)))
  refine ⟨hS_2, ?_⟩
  refine RP.ev rfl rfl rfl (fun w' hS' => Ev.assign rfl) hS_2 ?_
  refine RP.fin ?_
  refine CW.ret ?_
  show PostK _ _ _ _ _ _
  refine post3m (vs := [(Value.slice none 0 0), (Value.slice none 0 0)]) rfl rfl rfl rfl agg51 (fun j u hu => hs_8d.cell (i := 0) rfl hu) ?_
  have hs_9 : Sat w [] w_7 := hs_8d.sub ((.cons _ (.cons _ .slnil)))
  exact ⟨rfl, hs_9⟩

theorem built_good (v : Value) (vs : List ByteArray) (w : World) (hv : RdL w v encTx vs) (he : bldE vs = 0) :
    CallsV Try.prog 36 [v] w fun r w' => ∃ g vw vc vo rw_ rc, r = .tuple #[.pointer (some ⟨g, 0, none⟩), .agg #[rw_, rc], .bool true] ∧ Sat w [cObj g 92 [vw, vc, vo], cL vw 9 encTx (wordsN vs), cL vc 3 (encN .i64) (countsN vs), cL vo 3 (encN .i64) (ordN (wordsN vs)), cL rw_ 9 encTx (wordsN vs), cL rc 3 (encN .i64) (countsN vs)] w' := by
  have hs0 := Sat.start w
  refine callsV_of Try.func36 rfl rfl ?_
  refine CW.seq ?_
  refine CW.region ?_
  refine RT.ev rfl rfl (Ev.assign rfl) ?_
  refine RT.eff rfl rfl (OpE.alloc hs0 zero51 fun b_1 w_1 hs_1 hch_1 hb_1 => ?_)
  have hs_1d : Sat w [cObj b_1 51 [(Value.slice none 0 0), (Value.slice none 0 0)]] _ := hs_1
  refine RT.ev rfl rfl (Ev.assign rfl) ?_
  refine RT.nil ?_
  refine CW.seq ?_
  refine CW.region ?_
  refine RT.ev rfl rfl (Ev.move rfl) ?_
  refine RT.eff rfl rfl (OpE.call ent32 rfl ((lbuild_good (hv.ext hs_1d.ext) he).mono fun r_1 w_2 h_1 => ?_))
  obtain ⟨lg_1, lvw_1, lvc_1, lvo_1, lvn_1, rfl, hp_1⟩ := h_1
  have hs_2 : Sat w [cObj b_1 51 [(Value.slice none 0 0), (Value.slice none 0 0)], cObj lg_1 92 [lvw_1, lvc_1, lvo_1], cL lvw_1 9 (encTx) (wordsN vs), cL lvc_1 3 (encN .i64) (countsN vs), cL lvo_1 3 (encN .i64) (ordN (wordsN vs)), cL lvn_1 3 (encN .i64) (vs.map (lbW (wordsN vs)))] _ := hs_1d.adds hp_1
  refine RT.ev rfl rfl (Ev.move rfl) ?_
  refine RT.ev rfl rfl (Ev.extract rfl rfl) ?_
  refine RT.ev rfl rfl (Ev.extract rfl rfl) ?_
  refine RT.ev rfl rfl (Ev.extract rfl rfl) ?_
  refine RT.ev rfl rfl (Ev.assign rfl) ?_
  refine RT.ev rfl rfl (Ev.assign rfl) ?_
  refine RT.ev rfl rfl (Ev.assign rfl) ?_
  refine RT.nil ?_
  refine CW.seq ?_
  refine CW.region ?_
  refine RT.ev rfl rfl (Ev.move rfl) ?_
  refine RT.eff rfl rfl (OpE.call ent72 rfl ((rbuild_good (hv.ext hs_2.ext) he).mono fun r_2 w_3 h_2 => ?_))
  obtain ⟨rvw_1, rvc_1, rvn_1, rfl, hp_2⟩ := h_2
  have hs_3 : Sat w [cObj b_1 51 [(Value.slice none 0 0), (Value.slice none 0 0)], cObj lg_1 92 [lvw_1, lvc_1, lvo_1], cL lvw_1 9 (encTx) (wordsN vs), cL lvc_1 3 (encN .i64) (countsN vs), cL lvo_1 3 (encN .i64) (ordN (wordsN vs)), cL lvn_1 3 (encN .i64) (vs.map (lbW (wordsN vs))), cL rvw_1 9 (encTx) (wordsN vs), cL rvc_1 3 (encN .i64) (countsN vs), cL rvn_1 3 (encN .i64) (vs.map (lbW (wordsN vs)))] _ := hs_2.adds hp_2
  refine RT.ev rfl rfl (Ev.move rfl) ?_
  refine RT.ev rfl rfl (Ev.extract rfl rfl) ?_
  refine RT.ev rfl rfl (Ev.extract rfl rfl) ?_
  refine RT.ev rfl rfl (Ev.extract rfl rfl) ?_
  refine RT.eff rfl rfl (OpE.alloc hs_3 zero51 fun b_2 w_4 hs_4 hch_2 hb_2 => ?_)
  have hs_4d : Sat w [cObj b_1 51 [(Value.slice none 0 0), (Value.slice none 0 0)], cObj lg_1 92 [lvw_1, lvc_1, lvo_1], cL lvw_1 9 (encTx) (wordsN vs), cL lvc_1 3 (encN .i64) (countsN vs), cL lvo_1 3 (encN .i64) (ordN (wordsN vs)), cL lvn_1 3 (encN .i64) (vs.map (lbW (wordsN vs))), cL rvw_1 9 (encTx) (wordsN vs), cL rvc_1 3 (encN .i64) (countsN vs), cL rvn_1 3 (encN .i64) (vs.map (lbW (wordsN vs))), cObj b_2 51 [(Value.slice none 0 0), (Value.slice none 0 0)]] _ := hs_4
  refine RT.eff rfl rfl (OpE.storeObjA (vs := [rvw_1, rvc_1]) agg51 hs_4d (i := 9) rfl rfl rfl rfl (fun v h => by simp only [List.mem_cons, List.not_mem_nil, or_false] at h; rcases h with rfl | rfl; exact (hs_4d.rdL 6 rfl).oneCell; exact (hs_4d.rdL 7 rfl).oneCell) fun w_5 hs_5 hch_3 => ?_)
  have hs_5d : Sat w [cObj b_1 51 [(Value.slice none 0 0), (Value.slice none 0 0)], cObj lg_1 92 [lvw_1, lvc_1, lvo_1], cL lvw_1 9 (encTx) (wordsN vs), cL lvc_1 3 (encN .i64) (countsN vs), cL lvo_1 3 (encN .i64) (ordN (wordsN vs)), cL lvn_1 3 (encN .i64) (vs.map (lbW (wordsN vs))), cL rvw_1 9 (encTx) (wordsN vs), cL rvc_1 3 (encN .i64) (countsN vs), cL rvn_1 3 (encN .i64) (vs.map (lbW (wordsN vs))), cObj b_2 51 [rvw_1, rvc_1]] _ := hs_5
  refine RT.ev rfl rfl (Ev.assign rfl) ?_
  refine RT.ev rfl rfl (Ev.assign rfl) ?_
  refine RT.nil ?_
  refine CW.seq ?_
  refine CW.seq ?_
  refine CW.region ?_
  refine RT.ev rfl rfl (Ev.move rfl) ?_
  refine RT.ev rfl rfl (Ev.move rfl) ?_
  refine RT.ev rfl rfl (Ev.neqN (a := 0) (b := 0) rfl rfl) ?_
  refine RT.ev rfl rfl (Ev.move rfl) ?_
  refine RT.yes rfl rfl rfl (decide_eq_false (fun h9 => h9 rfl)) ?_
  refine RT.ev rfl rfl (Ev.move rfl) ?_
  refine RT.yes rfl rfl rfl (decide_eq_false (fun h9 => h9 rfl)) ?_
  refine RT.ev rfl rfl (Ev.move rfl) ?_
  refine RT.yes rfl rfl rfl (decide_eq_false (fun h9 => h9 rfl)) ?_
  refine RT.eff rfl rfl (OpE.call ent26 rfl ((same_ok _ _ (vs.map (lbW (wordsN vs))) (vs.map (lbW (wordsN vs))) _ (hs_5d.rdL 5 rfl) (hs_5d.rdL 8 rfl) (by have := bld_vlen he; rw [List.length_map]; omega)).mono fun r_3 w_6 h_3 => ?_))
  obtain ⟨rfl, hp_3⟩ := h_3
  have hs_6 : Sat w [cObj b_1 51 [(Value.slice none 0 0), (Value.slice none 0 0)], cObj lg_1 92 [lvw_1, lvc_1, lvo_1], cL lvw_1 9 (encTx) (wordsN vs), cL lvc_1 3 (encN .i64) (countsN vs), cL lvo_1 3 (encN .i64) (ordN (wordsN vs)), cL lvn_1 3 (encN .i64) (vs.map (lbW (wordsN vs))), cL rvw_1 9 (encTx) (wordsN vs), cL rvc_1 3 (encN .i64) (countsN vs), cL rvn_1 3 (encN .i64) (vs.map (lbW (wordsN vs))), cObj b_2 51 [rvw_1, rvc_1]] _ := hs_5d.adds hp_3
  refine RT.yes rfl rfl rfl (decide_eq_false (fun h9 => h9 rfl)) ?_
  refine RT.ev rfl rfl (Ev.notP rfl) ?_
  refine RT.ev rfl rfl (Ev.pickN rfl (decide_eq_false (fun h9 => h9 rfl)) rfl) ?_
  refine RT.nil ?_
  refine CW.condF rfl (decide_eq_false (fun h9 => h9 rfl)) ?_
  refine CW.skip ?_
  refine CW.seq ?_
  refine CW.seq ?_
  refine CW.region ?_
  refine RT.ev rfl rfl (Ev.move rfl) ?_
  refine RT.ev rfl rfl (Ev.neqN (a := 0) (b := 0) rfl rfl) ?_
  refine RT.nil ?_
  refine CW.condF rfl (rfl) ?_
  refine CW.skip ?_
  refine CW.seq ?_
  refine CW.draw (fun w' => Sat w [cObj lg_1 92 [lvw_1, lvc_1, lvo_1], cL lvw_1 9 (encTx) (wordsN vs), cL lvc_1 3 (encN .i64) (countsN vs), cL lvo_1 3 (encN .i64) (ordN (wordsN vs)), cL lvn_1 3 (encN .i64) (vs.map (lbW (wordsN vs))), cL rvw_1 9 (encTx) (wordsN vs), cL rvc_1 3 (encN .i64) (countsN vs), cL rvn_1 3 (encN .i64) (vs.map (lbW (wordsN vs))), cObj b_2 51 [rvw_1, rvc_1]] w') (.free 0 (.free 1 (.free 2 (.free 3 (.one 4 (.free 5 (.one 6 (.free 7 .fin)))))))) mixed (by kernel_rfl) ?_
  have hs_7 := hs_6.drew
  have hS_1 : Sat w [cObj lg_1 92 [lvw_1, lvc_1, lvo_1], cL lvw_1 9 (encTx) (wordsN vs), cL lvc_1 3 (encN .i64) (countsN vs), cL lvo_1 3 (encN .i64) (ordN (wordsN vs)), cL lvn_1 3 (encN .i64) (vs.map (lbW (wordsN vs))), cL rvw_1 9 (encTx) (wordsN vs), cL rvc_1 3 (encN .i64) (countsN vs), cL rvn_1 3 (encN .i64) (vs.map (lbW (wordsN vs))), cObj b_2 51 [rvw_1, rvc_1]] _ := hs_7.sub ((.cons _ (.cons_cons _ (.cons_cons _ (.cons_cons _ (.cons_cons _ (.cons_cons _ (.cons_cons _ (.cons_cons _ (.cons_cons _ (.cons_cons _ .slnil)))))))))))
  refine RP.ev rfl rfl rfl (fun w' hS' => Ev.move rfl) hS_1 ?_
  refine RP.ev rfl rfl rfl (fun w' hS' => Ev.ldObj agg51 rfl hS' (i := 8) rfl rfl) hS_1 ?_
  refine RP.ev rfl rfl rfl (fun w' hS' => Ev.move rfl) hS_1 ?_
  refine RP.ev rfl rfl rfl (fun w' hS' => Ev.ldObj agg51 rfl hS' (i := 8) rfl rfl) hS_1 ?_
  refine RP.eff rfl rfl rfl (OpE.call ent49 rfl ((lsame_ok _ _ _ _ _ _ _ _ _ _ (hs_7.lexAt 1 2 3 4 rfl rfl rfl rfl) (hs_7.rdL 6 rfl) (hs_7.rdL 7 rfl) (countsN_length vs) (bld_len he)).mono fun r_4 w_7 h_4 => ?_))
  obtain ⟨rfl, hp_4⟩ := h_4
  have hs_8 : Sat w [cObj b_1 51 [(Value.slice none 0 0), (Value.slice none 0 0)], cObj lg_1 92 [lvw_1, lvc_1, lvo_1], cL lvw_1 9 (encTx) (wordsN vs), cL lvc_1 3 (encN .i64) (countsN vs), cL lvo_1 3 (encN .i64) (ordN (wordsN vs)), cL lvn_1 3 (encN .i64) (vs.map (lbW (wordsN vs))), cL rvw_1 9 (encTx) (wordsN vs), cL rvc_1 3 (encN .i64) (countsN vs), cL rvn_1 3 (encN .i64) (vs.map (lbW (wordsN vs))), cObj b_2 51 [rvw_1, rvc_1]] _ := hs_7.adds hp_4
  have hS_2 : Sat w [cObj lg_1 92 [lvw_1, lvc_1, lvo_1], cL lvw_1 9 (encTx) (wordsN vs), cL lvc_1 3 (encN .i64) (countsN vs), cL lvo_1 3 (encN .i64) (ordN (wordsN vs)), cL lvn_1 3 (encN .i64) (vs.map (lbW (wordsN vs))), cL rvw_1 9 (encTx) (wordsN vs), cL rvc_1 3 (encN .i64) (countsN vs), cL rvn_1 3 (encN .i64) (vs.map (lbW (wordsN vs))), cObj b_2 51 [rvw_1, rvc_1]] _ := hs_8.sub ((.cons _ (.cons_cons _ (.cons_cons _ (.cons_cons _ (.cons_cons _ (.cons_cons _ (.cons_cons _ (.cons_cons _ (.cons_cons _ (.cons_cons _ .slnil)))))))))))
  refine ⟨hS_2, ?_⟩
  refine RP.ev rfl rfl rfl (fun w' hS' => Ev.assign rfl) hS_2 ?_
  refine RP.eff rfl rfl rfl (OpE.storeObjA (vs := [rvw_1, rvc_1]) agg51 hs_8 (i := 0) rfl rfl rfl rfl (fun v h => by simp only [List.mem_cons, List.not_mem_nil, or_false] at h; rcases h with rfl | rfl; exact (hs_8.rdL 6 rfl).oneCell; exact (hs_8.rdL 7 rfl).oneCell) fun w_8 hs_9 hch_4 => ?_)
  have hs_9d : Sat w [cObj b_1 51 [rvw_1, rvc_1], cObj lg_1 92 [lvw_1, lvc_1, lvo_1], cL lvw_1 9 (encTx) (wordsN vs), cL lvc_1 3 (encN .i64) (countsN vs), cL lvo_1 3 (encN .i64) (ordN (wordsN vs)), cL lvn_1 3 (encN .i64) (vs.map (lbW (wordsN vs))), cL rvw_1 9 (encTx) (wordsN vs), cL rvc_1 3 (encN .i64) (countsN vs), cL rvn_1 3 (encN .i64) (vs.map (lbW (wordsN vs))), cObj b_2 51 [rvw_1, rvc_1]] _ := hs_9
  have hS_3 : Sat w [cObj lg_1 92 [lvw_1, lvc_1, lvo_1], cL lvw_1 9 (encTx) (wordsN vs), cL lvc_1 3 (encN .i64) (countsN vs), cL lvo_1 3 (encN .i64) (ordN (wordsN vs)), cL lvn_1 3 (encN .i64) (vs.map (lbW (wordsN vs))), cL rvw_1 9 (encTx) (wordsN vs), cL rvc_1 3 (encN .i64) (countsN vs), cL rvn_1 3 (encN .i64) (vs.map (lbW (wordsN vs))), cObj b_2 51 [rvw_1, rvc_1]] _ := hs_9d.sub ((.cons _ (.cons_cons _ (.cons_cons _ (.cons_cons _ (.cons_cons _ (.cons_cons _ (.cons_cons _ (.cons_cons _ (.cons_cons _ (.cons_cons _ .slnil)))))))))))
  refine ⟨hS_3, ?_⟩
  refine RP.ev rfl rfl rfl (fun w' hS' => Ev.assign rfl) hS_3 ?_
  refine RP.fin ?_
  refine CW.ret ?_
  show PostK _ _ _ _ _ _
  refine post3m (vs := [rvw_1, rvc_1]) rfl rfl rfl rfl agg51 (fun j u hu => hs_9d.cell (i := 0) rfl hu) ?_
  have hs_10 : Sat w [cObj lg_1 92 [lvw_1, lvc_1, lvo_1], cL lvw_1 9 (encTx) (wordsN vs), cL lvc_1 3 (encN .i64) (countsN vs), cL lvo_1 3 (encN .i64) (ordN (wordsN vs)), cL rvw_1 9 (encTx) (wordsN vs), cL rvc_1 3 (encN .i64) (countsN vs)] w_8 := hs_9d.sub ((.cons _ (.cons_cons _ (.cons_cons _ (.cons_cons _ (.cons_cons _ (.cons _ (.cons_cons _ (.cons_cons _ (.cons _ (.cons _ .slnil)))))))))))
  exact ⟨_, _, _, _, _, _, rfl, hs_10⟩

def awV : List ByteArray := [⟨#[98]⟩, ⟨#[97]⟩, ⟨#[97, 98]⟩, ⟨#[97]⟩]
theorem aw_words : wordsN awV = [⟨#[97]⟩, ⟨#[97, 98]⟩, ⟨#[98]⟩] := by decide +kernel
theorem aw_bld : bldE awV = 0 := by decide +kernel
theorem aw_nums : awV.map (lbW (wordsN awV)) = [2, 0, 1, 0] := by decide +kernel
theorem aw_pref : prefN (wordsN awV) ⟨#[97]⟩ = (0, 2) := by decide +kernel
theorem aw_ord : ordN (wordsN awV) = [0, 2, 1] := by decide +kernel
theorem aw_suf : sufN (wordsN awV) (ordN (wordsN awV)) ⟨#[98]⟩ = [2, 1] := by decide +kernel
theorem aw_cnt : countAt (countsN awV) ((0 : Nat) : Int) = 2 := by decide +kernel

theorem lawake_ok (w : World) :
    CallsV Try.prog 33 [] w fun r w' => r = .bool true ∧ Sat w [] w' := by
  have hs0 := Sat.start w
  refine callsV_of Try.func33 rfl rfl ?_
  refine CW.seq ?_
  refine CW.region ?_
  refine RT.ev rfl rfl (Ev.assign rfl) ?_
  refine RT.nil ?_
  refine CW.seq ?_
  refine CW.region ?_
  refine RT.eff rfl rfl (OpE.litN (encTx) [(ByteArray.mk #[98]), (ByteArray.mk #[97]), (ByteArray.mk #[97, 98]), (ByteArray.mk #[97])] sl45 rfl ⟨rfl, rfl, rfl, rfl, trivial⟩ rfl rfl rfl rfl (by decide) (by decide) hs0 fun v_1 w_1 hs_1 hch_1 => ?_)
  have hs_1d : Sat w [cL v_1 9 (encTx) ([(ByteArray.mk #[98]), (ByteArray.mk #[97]), (ByteArray.mk #[97, 98]), (ByteArray.mk #[97])])] _ := hs_1
  refine RT.eff rfl rfl (OpE.call ent32 rfl ((lbuild_good (hs_1d.rdL 0 rfl) aw_bld).mono fun r_1 w_2 h_1 => ?_))
  obtain ⟨lg_1, lvw_1, lvc_1, lvo_1, lvn_1, rfl, hp_1⟩ := h_1
  have hs_2 : Sat w [cL v_1 9 (encTx) ([(ByteArray.mk #[98]), (ByteArray.mk #[97]), (ByteArray.mk #[97, 98]), (ByteArray.mk #[97])]), cObj lg_1 92 [lvw_1, lvc_1, lvo_1], cL lvw_1 9 (encTx) (wordsN awV), cL lvc_1 3 (encN .i64) (countsN awV), cL lvo_1 3 (encN .i64) (ordN (wordsN awV)), cL lvn_1 3 (encN .i64) (awV.map (lbW (wordsN awV)))] _ := hs_1d.adds hp_1
  refine RT.ev rfl rfl (Ev.move rfl) ?_
  refine RT.ev rfl rfl (Ev.extract rfl rfl) ?_
  refine RT.ev rfl rfl (Ev.extract rfl rfl) ?_
  refine RT.ev rfl rfl (Ev.extract rfl rfl) ?_
  refine RT.ev rfl rfl (Ev.assign rfl) ?_
  refine RT.ev rfl rfl (Ev.assign rfl) ?_
  refine RT.ev rfl rfl (Ev.assign rfl) ?_
  refine RT.nil ?_
  refine CW.seq ?_
  refine CW.seq ?_
  refine CW.region ?_
  refine RT.ev rfl rfl (Ev.move rfl) ?_
  refine RT.ev rfl rfl (Ev.neqN (a := 0) (b := 0) rfl rfl) ?_
  refine RT.ev rfl rfl (Ev.move rfl) ?_
  refine RT.yes rfl rfl rfl (rfl) ?_
  refine RT.ev rfl rfl (Ev.move rfl) ?_
  refine RT.yes rfl rfl rfl (rfl) ?_
  refine RT.ev rfl rfl (Ev.eqlPt Try.underlying46 rfl rfl) ?_
  refine RT.ev rfl rfl (Ev.pickN rfl (rfl) rfl) ?_
  refine RT.ev rfl rfl (Ev.move rfl) ?_
  refine RT.yes rfl rfl rfl (rfl) ?_
  refine RT.ev rfl rfl (Ev.move rfl) ?_
  refine RT.yes rfl rfl rfl (rfl) ?_
  refine RT.eff rfl rfl (OpE.litN (encN .i64) [2, 0, 1, 0] sl22 rfl ⟨rfl, rfl, rfl, rfl, trivial⟩ rfl rfl rfl rfl (by decide) (by decide) hs_2 fun v_2 w_3 hs_3 hch_2 => ?_)
  have hs_3d : Sat w [cL v_1 9 (encTx) ([(ByteArray.mk #[98]), (ByteArray.mk #[97]), (ByteArray.mk #[97, 98]), (ByteArray.mk #[97])]), cObj lg_1 92 [lvw_1, lvc_1, lvo_1], cL lvw_1 9 (encTx) (wordsN awV), cL lvc_1 3 (encN .i64) (countsN awV), cL lvo_1 3 (encN .i64) (ordN (wordsN awV)), cL lvn_1 3 (encN .i64) (awV.map (lbW (wordsN awV))), cL v_2 3 (encN .i64) ([2, 0, 1, 0])] _ := hs_3
  refine RT.yes rfl rfl rfl (rfl) ?_
  refine RT.eff rfl rfl (OpE.call ent26 rfl ((same_ok _ _ (awV.map (lbW (wordsN awV))) ([2, 0, 1, 0]) _ (hs_3d.rdL 5 rfl) (hs_3d.rdL 6 rfl) (by first | decide | (rw [aw_nums]; decide) | (rw [aw_ord]; decide) | (rw [aw_suf]; decide))).mono fun r_2 w_4 h_2 => ?_))
  obtain ⟨rfl, hp_2⟩ := h_2
  have hs_4 : Sat w [cL v_1 9 (encTx) ([(ByteArray.mk #[98]), (ByteArray.mk #[97]), (ByteArray.mk #[97, 98]), (ByteArray.mk #[97])]), cObj lg_1 92 [lvw_1, lvc_1, lvo_1], cL lvw_1 9 (encTx) (wordsN awV), cL lvc_1 3 (encN .i64) (countsN awV), cL lvo_1 3 (encN .i64) (ordN (wordsN awV)), cL lvn_1 3 (encN .i64) (awV.map (lbW (wordsN awV))), cL v_2 3 (encN .i64) ([2, 0, 1, 0])] _ := hs_3d.adds hp_2
  refine RT.yes rfl rfl rfl (rfl) ?_
  refine RT.ev rfl rfl (Ev.notP rfl) ?_
  refine RT.ev rfl rfl (Ev.pickN rfl (rfl) rfl) ?_
  refine RT.nil ?_
  refine CW.condF rfl (decide_eq_false (fun h9 => h9 aw_nums)) ?_
  refine CW.skip ?_
  refine CW.seq ?_
  refine CW.region ?_
  refine RT.ev rfl rfl (Ev.move rfl) ?_
  refine RT.eff rfl rfl (OpE.call ent41 rfl ((prefix_ok _ _ _ _ _ _ _ (ByteArray.mk #[97]) _ (hs_4.lexAt 1 2 3 4 rfl rfl rfl rfl) (wordsN_asc awV) (by rw [aw_words]; decide)).mono fun r_3 w_5 h_3 => ?_))
  obtain ⟨rfl, hp_3⟩ := h_3
  have hs_5 : Sat w [cL v_1 9 (encTx) ([(ByteArray.mk #[98]), (ByteArray.mk #[97]), (ByteArray.mk #[97, 98]), (ByteArray.mk #[97])]), cObj lg_1 92 [lvw_1, lvc_1, lvo_1], cL lvw_1 9 (encTx) (wordsN awV), cL lvc_1 3 (encN .i64) (countsN awV), cL lvo_1 3 (encN .i64) (ordN (wordsN awV)), cL lvn_1 3 (encN .i64) (awV.map (lbW (wordsN awV))), cL v_2 3 (encN .i64) ([2, 0, 1, 0])] _ := hs_4.adds hp_3
  refine RT.ev rfl rfl (Ev.move rfl) ?_
  refine RT.ev rfl rfl (Ev.extract rfl rfl) ?_
  refine RT.ev rfl rfl (Ev.extract rfl rfl) ?_
  refine RT.ev rfl rfl (Ev.assign rfl) ?_
  refine RT.ev rfl rfl (Ev.assign rfl) ?_
  refine RT.nil ?_
  refine CW.seq ?_
  refine CW.region ?_
  refine RT.ev rfl rfl (Ev.move rfl) ?_
  refine RT.ev rfl rfl (Ev.eqlN (b := 0) rfl rfl) ?_
  refine RT.ev rfl rfl (Ev.move rfl) ?_
  refine RT.yes rfl rfl rfl (decide_eq_true (by rw [aw_pref])) ?_
  refine RT.ev rfl rfl (Ev.move rfl) ?_
  refine RT.yes rfl rfl rfl (decide_eq_true (by rw [aw_pref])) ?_
  refine RT.ev rfl rfl (Ev.eqlN (b := 2) rfl rfl) ?_
  refine RT.ev rfl rfl (Ev.pickY rfl (decide_eq_true (by rw [aw_pref])) rfl) ?_
  refine RT.ev rfl rfl (Ev.move rfl) ?_
  refine RT.yes rfl rfl rfl (decide_eq_true (by rw [aw_pref])) ?_
  refine RT.ev rfl rfl (Ev.move rfl) ?_
  refine RT.yes rfl rfl rfl (decide_eq_true (by rw [aw_pref])) ?_
  refine RT.eff rfl rfl (OpE.call ent45 rfl ((byReverse_ok _ _ _ _ _ _ _ _ (hs_5.lexAt 1 2 3 4 rfl rfl rfl rfl) (by rw [aw_ord]; decide)).mono fun r_4 w_6 h_4 => ?_))
  have hp_4 := h_4
  have hs_6 : Sat w [cL v_1 9 (encTx) ([(ByteArray.mk #[98]), (ByteArray.mk #[97]), (ByteArray.mk #[97, 98]), (ByteArray.mk #[97])]), cObj lg_1 92 [lvw_1, lvc_1, lvo_1], cL lvw_1 9 (encTx) (wordsN awV), cL lvc_1 3 (encN .i64) (countsN awV), cL lvo_1 3 (encN .i64) (ordN (wordsN awV)), cL lvn_1 3 (encN .i64) (awV.map (lbW (wordsN awV))), cL v_2 3 (encN .i64) ([2, 0, 1, 0]), cL r_4 3 (encN .i64) (ordN (wordsN awV))] _ := hs_5.adds hp_4
  refine RT.yes rfl rfl rfl (decide_eq_true (by rw [aw_pref])) ?_
  refine RT.eff rfl rfl (OpE.litN (encN .i64) [0, 2, 1] sl22 rfl ⟨rfl, rfl, rfl, trivial⟩ rfl rfl rfl rfl (by decide) (by decide) hs_6 fun v_3 w_7 hs_7 hch_3 => ?_)
  have hs_7d : Sat w [cL v_1 9 (encTx) ([(ByteArray.mk #[98]), (ByteArray.mk #[97]), (ByteArray.mk #[97, 98]), (ByteArray.mk #[97])]), cObj lg_1 92 [lvw_1, lvc_1, lvo_1], cL lvw_1 9 (encTx) (wordsN awV), cL lvc_1 3 (encN .i64) (countsN awV), cL lvo_1 3 (encN .i64) (ordN (wordsN awV)), cL lvn_1 3 (encN .i64) (awV.map (lbW (wordsN awV))), cL v_2 3 (encN .i64) ([2, 0, 1, 0]), cL r_4 3 (encN .i64) (ordN (wordsN awV)), cL v_3 3 (encN .i64) ([0, 2, 1])] _ := hs_7
  refine RT.yes rfl rfl rfl (decide_eq_true (by rw [aw_pref])) ?_
  refine RT.eff rfl rfl (OpE.call ent26 rfl ((same_ok _ _ (ordN (wordsN awV)) ([0, 2, 1]) _ (hs_7d.rdL 7 rfl) (hs_7d.rdL 8 rfl) (by first | decide | (rw [aw_nums]; decide) | (rw [aw_ord]; decide) | (rw [aw_suf]; decide))).mono fun r_5 w_8 h_5 => ?_))
  obtain ⟨rfl, hp_5⟩ := h_5
  have hs_8 : Sat w [cL v_1 9 (encTx) ([(ByteArray.mk #[98]), (ByteArray.mk #[97]), (ByteArray.mk #[97, 98]), (ByteArray.mk #[97])]), cObj lg_1 92 [lvw_1, lvc_1, lvo_1], cL lvw_1 9 (encTx) (wordsN awV), cL lvc_1 3 (encN .i64) (countsN awV), cL lvo_1 3 (encN .i64) (ordN (wordsN awV)), cL lvn_1 3 (encN .i64) (awV.map (lbW (wordsN awV))), cL v_2 3 (encN .i64) ([2, 0, 1, 0]), cL r_4 3 (encN .i64) (ordN (wordsN awV)), cL v_3 3 (encN .i64) ([0, 2, 1])] _ := hs_7d.adds hp_5
  refine RT.ev rfl rfl (Ev.pickY rfl (decide_eq_true (by rw [aw_pref])) rfl) ?_
  refine RT.ev rfl rfl (Ev.move rfl) ?_
  refine RT.yes rfl rfl rfl (decide_eq_true aw_ord) ?_
  refine RT.ev rfl rfl (Ev.move rfl) ?_
  refine RT.yes rfl rfl rfl (decide_eq_true aw_ord) ?_
  refine RT.eff rfl rfl (OpE.call ent43 rfl ((suffix_ok _ _ _ _ _ _ _ (ByteArray.mk #[98]) _ (hs_8.lexAt 1 2 3 4 rfl rfl rfl rfl) (by rw [aw_ord, aw_words]; decide) (by rw [aw_words]; decide) (by rw [aw_ord]; decide)).mono fun r_6 w_9 h_6 => ?_))
  have hp_6 := h_6
  have hs_9 : Sat w [cL v_1 9 (encTx) ([(ByteArray.mk #[98]), (ByteArray.mk #[97]), (ByteArray.mk #[97, 98]), (ByteArray.mk #[97])]), cObj lg_1 92 [lvw_1, lvc_1, lvo_1], cL lvw_1 9 (encTx) (wordsN awV), cL lvc_1 3 (encN .i64) (countsN awV), cL lvo_1 3 (encN .i64) (ordN (wordsN awV)), cL lvn_1 3 (encN .i64) (awV.map (lbW (wordsN awV))), cL v_2 3 (encN .i64) ([2, 0, 1, 0]), cL r_4 3 (encN .i64) (ordN (wordsN awV)), cL v_3 3 (encN .i64) ([0, 2, 1]), cL r_6 3 (encN .i64) (sufN (wordsN awV) (ordN (wordsN awV)) (ByteArray.mk #[98]))] _ := hs_8.adds hp_6
  refine RT.yes rfl rfl rfl (decide_eq_true aw_ord) ?_
  refine RT.eff rfl rfl (OpE.litN (encN .i64) [2, 1] sl22 rfl ⟨rfl, rfl, trivial⟩ rfl rfl rfl rfl (by decide) (by decide) hs_9 fun v_4 w_10 hs_10 hch_4 => ?_)
  have hs_10d : Sat w [cL v_1 9 (encTx) ([(ByteArray.mk #[98]), (ByteArray.mk #[97]), (ByteArray.mk #[97, 98]), (ByteArray.mk #[97])]), cObj lg_1 92 [lvw_1, lvc_1, lvo_1], cL lvw_1 9 (encTx) (wordsN awV), cL lvc_1 3 (encN .i64) (countsN awV), cL lvo_1 3 (encN .i64) (ordN (wordsN awV)), cL lvn_1 3 (encN .i64) (awV.map (lbW (wordsN awV))), cL v_2 3 (encN .i64) ([2, 0, 1, 0]), cL r_4 3 (encN .i64) (ordN (wordsN awV)), cL v_3 3 (encN .i64) ([0, 2, 1]), cL r_6 3 (encN .i64) (sufN (wordsN awV) (ordN (wordsN awV)) (ByteArray.mk #[98])), cL v_4 3 (encN .i64) ([2, 1])] _ := hs_10
  refine RT.yes rfl rfl rfl (decide_eq_true aw_ord) ?_
  refine RT.eff rfl rfl (OpE.call ent26 rfl ((same_ok _ _ (sufN (wordsN awV) (ordN (wordsN awV)) (ByteArray.mk #[98])) ([2, 1]) _ (hs_10d.rdL 9 rfl) (hs_10d.rdL 10 rfl) (by first | decide | (rw [aw_nums]; decide) | (rw [aw_ord]; decide) | (rw [aw_suf]; decide))).mono fun r_7 w_11 h_7 => ?_))
  obtain ⟨rfl, hp_7⟩ := h_7
  have hs_11 : Sat w [cL v_1 9 (encTx) ([(ByteArray.mk #[98]), (ByteArray.mk #[97]), (ByteArray.mk #[97, 98]), (ByteArray.mk #[97])]), cObj lg_1 92 [lvw_1, lvc_1, lvo_1], cL lvw_1 9 (encTx) (wordsN awV), cL lvc_1 3 (encN .i64) (countsN awV), cL lvo_1 3 (encN .i64) (ordN (wordsN awV)), cL lvn_1 3 (encN .i64) (awV.map (lbW (wordsN awV))), cL v_2 3 (encN .i64) ([2, 0, 1, 0]), cL r_4 3 (encN .i64) (ordN (wordsN awV)), cL v_3 3 (encN .i64) ([0, 2, 1]), cL r_6 3 (encN .i64) (sufN (wordsN awV) (ordN (wordsN awV)) (ByteArray.mk #[98])), cL v_4 3 (encN .i64) ([2, 1])] _ := hs_10d.adds hp_7
  refine RT.ev rfl rfl (Ev.pickY rfl (decide_eq_true aw_ord) rfl) ?_
  refine RT.ev rfl rfl (Ev.move rfl) ?_
  refine RT.yes rfl rfl rfl (decide_eq_true aw_suf) ?_
  refine RT.ev rfl rfl (Ev.move rfl) ?_
  refine RT.yes rfl rfl rfl (decide_eq_true aw_suf) ?_
  refine RT.eff rfl rfl (OpE.call ent40 rfl ((count_ok _ _ _ _ _ _ _ ((0 : Nat) : Int) _ (hs_11.lexAt 1 2 3 4 rfl rfl rfl rfl)).mono fun r_8 w_12 h_8 => ?_))
  obtain ⟨rfl, hp_8⟩ := h_8
  have hs_12 : Sat w [cL v_1 9 (encTx) ([(ByteArray.mk #[98]), (ByteArray.mk #[97]), (ByteArray.mk #[97, 98]), (ByteArray.mk #[97])]), cObj lg_1 92 [lvw_1, lvc_1, lvo_1], cL lvw_1 9 (encTx) (wordsN awV), cL lvc_1 3 (encN .i64) (countsN awV), cL lvo_1 3 (encN .i64) (ordN (wordsN awV)), cL lvn_1 3 (encN .i64) (awV.map (lbW (wordsN awV))), cL v_2 3 (encN .i64) ([2, 0, 1, 0]), cL r_4 3 (encN .i64) (ordN (wordsN awV)), cL v_3 3 (encN .i64) ([0, 2, 1]), cL r_6 3 (encN .i64) (sufN (wordsN awV) (ordN (wordsN awV)) (ByteArray.mk #[98])), cL v_4 3 (encN .i64) ([2, 1])] _ := hs_11.adds hp_8
  refine RT.yes rfl rfl rfl (decide_eq_true aw_suf) ?_
  refine RT.ev rfl rfl (Ev.eqlN (b := 2) rfl rfl) ?_
  refine RT.ev rfl rfl (Ev.pickY rfl (decide_eq_true aw_suf) rfl) ?_
  refine RT.ev rfl rfl (Ev.assign rfl) ?_
  refine RT.nil ?_
  refine CW.ret ?_
  show PostK _ _ _ _ _ _
  refine post1 rfl rfl ?_
  have hs_13 : Sat w [] w_12 := hs_12.sub ((.cons _ (.cons _ (.cons _ (.cons _ (.cons _ (.cons _ (.cons _ (.cons _ (.cons _ (.cons _ (.cons _ .slnil))))))))))))
  exact ⟨congrArg Value.bool (decide_eq_true aw_cnt), hs_13⟩

end Go.Proofs.Ytfhbflhnelbkfaa
