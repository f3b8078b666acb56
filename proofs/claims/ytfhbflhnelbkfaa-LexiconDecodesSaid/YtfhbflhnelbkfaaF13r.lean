/- The walks of the functions of F13r, printed by our own program (kwgen.py) out of our descriptions (base.py). -/
import Derived.Test.YtfhbflhnelbkfaaF13
import Derived.Test.YtfhbflhnelbkfaaKx
import Derived.Test.YtfhbflhnelbkfaaTab
namespace Go.Proofs.Ytfhbflhnelbkfaa
open Go.RowKit Go.Kw
set_option maxRecDepth 100000
set_option linter.unusedVariables false
set_option linter.unusedSimpArgs false
theorem counts_le {l : List ByteArray} {i c : Nat} (h : (countsN l)[i]? = some c) : c ≤ l.length := by
  unfold countsN at h
  rw [List.getElem?_map] at h
  obtain ⟨y, _, rfl⟩ := Option.map_eq_some_iff.1 h
  exact cnt_le l y
theorem new_get {C : List Nat} {b : Nat} (h : b ≤ C.length) : (((C.take b).drop 0 ++ [0]) ++ (C.take C.length).drop b)[b]? = some 0 := by
  have h1 : (C.take b).length = b := List.length_take_of_le h
  rw [List.drop_zero, List.append_assoc, List.getElem?_append_right (by omega), h1, Nat.sub_self]; rfl
theorem new_set {C : List Nat} {b : Nat} (h : b ≤ C.length) : (((C.take b).drop 0 ++ [0]) ++ (C.take C.length).drop b).set b (0 + 1) = C.take b ++ 1 :: C.drop b := by
  have h1 : (C.take b).length = b := List.length_take_of_le h
  rw [List.drop_zero, List.append_assoc, List.set_append_right _ _ (by omega), h1, Nat.sub_self, List.take_length]; rfl

theorem rfind_ok (vw vc : Value) (W : List ByteArray) (s : ByteArray) (w : World) (hv : RdL w vw encTx W) (hvc : vc.oneCell' = true) (hn : W.length ≤ 1000000) :
    CallsV Try.prog 38 [(Value.agg #[vw, vc]), (Value.string s)] w fun r w' => r = .tuple #[.int .i64 ((lbW W s : Nat) : Int), .bool (decide (W[lbW W s]? = some s))] ∧ Sat w [] w' := by
  have hs0 := Sat.start w
  refine callsV_of Try.func38 rfl rfl ?_
  refine CW.seq ?_
  refine CW.region ?_
  refine RT.eff rfl rfl (OpE.box hs0 rfl fun b_1 w_1 hs_1 hch_1 hb_1 => ?_)
  have hs_1d : Sat w [cObj b_1 51 [vw, vc]] _ := hs_1
  refine RT.ev rfl rfl (Ev.assign rfl) ?_
  refine RT.ev rfl rfl (Ev.assign rfl) ?_
  refine RT.nil ?_
  refine CW.seq ?_
  refine CW.region ?_
  refine RT.ev rfl rfl (Ev.assign rfl) ?_
  refine RT.nil ?_
  refine CW.seq ?_
  refine CW.block ?_
  refine CW.loop (α := Nat) (fun k => [(1, (Value.string s)), (2, (Value.pointer (some ⟨b_1, 0, none⟩))), (6, (Value.int .i64 ((k : Nat) : Int)))]) (fun k w' => Sat w [cObj b_1 51 [vw, vc]] w' ∧ (k ≤ W.length) ∧ (∀ j y, j < k → W[j]? = some y → SLt y s)) (fun k => W.length - k) 0 ⟨rfl, rfl, rfl, trivial⟩ ⟨hs_1d, Nat.zero_le _, fun j y hj => absurd hj (Nat.not_lt_zero j)⟩ ?_
  rintro k w_2 ⟨hs_2, hk, hlt⟩
  show CW _ _ _ _ [(1, (Value.string s)), (2, (Value.pointer (some ⟨b_1, 0, none⟩))), (6, (Value.int .i64 ((k : Nat) : Int)))] _
  refine CW.seq ?_
  refine CW.seq ?_
  rcases Decidable.em (k < W.length) with hkw | hkw
  · obtain ⟨x, hx⟩ : ∃ x, W[k]? = some x := ⟨_, List.getElem?_eq_getElem hkw⟩
    refine CW.region ?_
    refine RT.ev rfl rfl (Ev.move rfl) ?_
    refine RT.ev rfl rfl (Ev.fieldAddr fld51_0 rfl rfl) ?_
    refine RT.ev rfl rfl (Ev.load scal45 rfl (hs_2.cell (i := 0) (j := 0) rfl rfl)) ?_
    refine RT.ev rfl rfl (Ev.lenL Try.underlying45 rfl (hv.ext hs_2.ext)) ?_
    refine RT.ev rfl rfl (Ev.lssN rfl rfl) ?_
    refine RT.ev rfl rfl (Ev.move rfl) ?_
    refine RT.yes rfl rfl rfl (decide_eq_true hkw) ?_
    refine RT.ev rfl rfl (Ev.fieldAddr fld51_0 rfl rfl) ?_
    refine RT.yes rfl rfl rfl (decide_eq_true hkw) ?_
    refine RT.ev rfl rfl (Ev.load scal45 rfl (hs_2.cell (i := 0) (j := 0) rfl rfl)) ?_
    refine RT.yes rfl rfl rfl (decide_eq_true hkw) ?_
    refine RT.ev rfl rfl (Ev.move rfl) ?_
    refine RT.yes rfl rfl rfl (decide_eq_true hkw) ?_
    refine RT.ev rfl rfl (Ev.idxL (E := encTx) sl45 rfl rfl (hv.ext hs_2.ext) (by omega)) ?_
    refine RT.yes rfl rfl rfl (decide_eq_true hkw) ?_
    refine RT.ev rfl rfl (Ev.ldL (E := encTx) scal9 rfl (hv.ext hs_2.ext) hx (by decide) rfl) ?_
    refine RT.yes rfl rfl rfl (decide_eq_true hkw) ?_
    refine RT.ev rfl rfl (Ev.move rfl) ?_
    refine RT.yes rfl rfl rfl (decide_eq_true hkw) ?_
    refine RT.ev rfl rfl (Ev.strLss rfl rfl) ?_
    refine RT.ev rfl rfl (Ev.pickY rfl (decide_eq_true hkw) rfl) ?_
    refine RT.nil ?_
    refine CW.condD rfl (fun hc_1 => ?_) (fun hc_1 => ?_)
    · refine CW.skip ?_
      refine CW.block ?_
      refine CW.region ?_
      refine RT.ev rfl rfl (Ev.move rfl) ?_
      refine RT.ev rfl rfl (Ev.addI (b := 1) rfl rfl (by omega)) ?_
      refine RT.ev rfl rfl (Ev.assign rfl) ?_
      refine RT.nil ?_
      exact ⟨k + 1, ⟨rfl, rfl, rfl, trivial⟩, ⟨hs_2, by omega, fun j y hj hy => by rcases Nat.lt_or_ge j k with h9 | h9; exact hlt j y h9 hy; rw [show j = k by omega, hx] at hy; cases hy; exact hc_1⟩, (show (W.length - (k + 1)) < (W.length - k) from by omega)⟩
    · refine CW.exit0 ?_
      refine CW.seq ?_
      refine CW.draw (fun w' => Sat w [cObj b_1 51 [vw, vc]] w') (.free 0 (.free 1 (.free 2 (.free 3 (.free 4 (.free 5 (.free 6 (.free 7 (.free 8 (.free 9 (.free 10 (.free 11 (.free 12 (.free 13 (.free 14 (.free 15 (.free 16 .fin))))))))))))))))) mixed (by kernel_rfl) ?_
      have hs_3 := hs_2.drew
      refine RP.ev rfl rfl rfl (fun w' hS' => Ev.move rfl) hs_3 ?_
      refine RP.ev rfl rfl rfl (fun w' hS' => Ev.move rfl) hs_3 ?_
      refine RP.ev rfl rfl rfl (fun w' hS' => Ev.fieldAddr fld51_0 rfl rfl) hs_3 ?_
      refine RP.ev rfl rfl rfl (fun w' hS' => Ev.load scal45 rfl (hS'.cell (i := 0) (j := 0) rfl rfl)) hs_3 ?_
      refine RP.ev rfl rfl rfl (fun w' hS' => Ev.lenL Try.underlying45 rfl (hv.ext hS'.ext)) hs_3 ?_
      refine RP.ev rfl rfl rfl (fun w' hS' => Ev.lssN rfl rfl) hs_3 ?_
      refine RP.ev rfl rfl rfl (fun w' hS' => Ev.move rfl) hs_3 ?_
      refine RP.evYes rfl rfl rfl rfl (decide_eq_true hkw) rfl (fun w' hS' => Ev.fieldAddr fld51_0 rfl rfl) hs_3 ?_
      refine RP.evYes rfl rfl rfl rfl (decide_eq_true hkw) rfl (fun w' hS' => Ev.load scal45 rfl (hS'.cell (i := 0) (j := 0) rfl rfl)) hs_3 ?_
      refine RP.evYes rfl rfl rfl rfl (decide_eq_true hkw) rfl (fun w' hS' => Ev.move rfl) hs_3 ?_
      refine RP.evYes rfl rfl rfl rfl (decide_eq_true hkw) rfl (fun w' hS' => Ev.idxL (E := encTx) sl45 rfl rfl (hv.ext hS'.ext) (by omega)) hs_3 ?_
      refine RP.evYes rfl rfl rfl rfl (decide_eq_true hkw) rfl (fun w' hS' => Ev.ldL (E := encTx) scal9 rfl (hv.ext hS'.ext) hx (by decide) rfl) hs_3 ?_
      refine RP.evYes rfl rfl rfl rfl (decide_eq_true hkw) rfl (fun w' hS' => Ev.move rfl) hs_3 ?_
      refine RP.evYes rfl rfl rfl rfl (decide_eq_true hkw) rfl (fun w' hS' => Ev.strEql rfl rfl) hs_3 ?_
      refine RP.ev rfl rfl rfl (fun w' hS' => Ev.pickY rfl (decide_eq_true hkw) rfl) hs_3 ?_
      refine RP.ev rfl rfl rfl (fun w' hS' => Ev.assign rfl) hs_3 ?_
      refine RP.ev rfl rfl rfl (fun w' hS' => Ev.assign rfl) hs_3 ?_
      refine RP.fin ?_
      refine CW.ret ?_
      show PostK _ _ _ _ _ _
      refine post2 rfl rfl rfl ?_
      have hs_4 : Sat w [] w_2.drew := hs_3.sub ((.cons _ .slnil))
      have hl : lbW W s = k := lbR_eq hk (fun j y hj hy => hlt j y hj hy) (fun y hy => by rw [hx] at hy; cases hy; exact hc_1)
      rw [hl]
      exact ⟨by simp [hx], hs_4⟩
  · refine CW.region ?_
    refine RT.ev rfl rfl (Ev.move rfl) ?_
    refine RT.ev rfl rfl (Ev.fieldAddr fld51_0 rfl rfl) ?_
    refine RT.ev rfl rfl (Ev.load scal45 rfl (hs_2.cell (i := 0) (j := 0) rfl rfl)) ?_
    refine RT.ev rfl rfl (Ev.lenL Try.underlying45 rfl (hv.ext hs_2.ext)) ?_
    refine RT.ev rfl rfl (Ev.lssN rfl rfl) ?_
    refine RT.ev rfl rfl (Ev.move rfl) ?_
    refine RT.no rfl rfl rfl (decide_eq_false hkw) rfl ?_
    refine RT.no rfl rfl rfl (decide_eq_false hkw) rfl ?_
    refine RT.no rfl rfl rfl (decide_eq_false hkw) rfl ?_
    refine RT.no rfl rfl rfl (decide_eq_false hkw) rfl ?_
    refine RT.no rfl rfl rfl (decide_eq_false hkw) rfl ?_
    refine RT.no rfl rfl rfl (decide_eq_false hkw) rfl ?_
    refine RT.no rfl rfl rfl (decide_eq_false hkw) rfl ?_
    refine RT.ev rfl rfl (Ev.pickN rfl (decide_eq_false hkw) rfl) ?_
    refine RT.nil ?_
    refine CW.condF rfl (rfl) ?_
    refine CW.exit0 ?_
    refine CW.seq ?_
    refine CW.draw (fun w' => Sat w [cObj b_1 51 [vw, vc]] w') (.free 0 (.free 1 (.free 2 (.free 3 (.free 4 (.free 5 (.free 6 (.free 7 (.free 8 (.free 9 (.free 10 (.free 11 (.free 12 (.free 13 (.free 14 (.free 15 (.free 16 .fin))))))))))))))))) mixed (by kernel_rfl) ?_
    have hs_5 := hs_2.drew
    refine RP.ev rfl rfl rfl (fun w' hS' => Ev.move rfl) hs_5 ?_
    refine RP.ev rfl rfl rfl (fun w' hS' => Ev.move rfl) hs_5 ?_
    refine RP.ev rfl rfl rfl (fun w' hS' => Ev.fieldAddr fld51_0 rfl rfl) hs_5 ?_
    refine RP.ev rfl rfl rfl (fun w' hS' => Ev.load scal45 rfl (hS'.cell (i := 0) (j := 0) rfl rfl)) hs_5 ?_
    refine RP.ev rfl rfl rfl (fun w' hS' => Ev.lenL Try.underlying45 rfl (hv.ext hS'.ext)) hs_5 ?_
    refine RP.ev rfl rfl rfl (fun w' hS' => Ev.lssN rfl rfl) hs_5 ?_
    refine RP.ev rfl rfl rfl (fun w' hS' => Ev.move rfl) hs_5 ?_
    refine RP.no rfl rfl rfl rfl (decide_eq_false hkw) rfl hs_5 ?_
    refine RP.no rfl rfl rfl rfl (decide_eq_false hkw) rfl hs_5 ?_
    refine RP.no rfl rfl rfl rfl (decide_eq_false hkw) rfl hs_5 ?_
    refine RP.no rfl rfl rfl rfl (decide_eq_false hkw) rfl hs_5 ?_
    refine RP.no rfl rfl rfl rfl (decide_eq_false hkw) rfl hs_5 ?_
    refine RP.no rfl rfl rfl rfl (decide_eq_false hkw) rfl hs_5 ?_
    refine RP.no rfl rfl rfl rfl (decide_eq_false hkw) rfl hs_5 ?_
    refine RP.ev rfl rfl rfl (fun w' hS' => Ev.pickN rfl (decide_eq_false hkw) rfl) hs_5 ?_
    refine RP.ev rfl rfl rfl (fun w' hS' => Ev.assign rfl) hs_5 ?_
    refine RP.ev rfl rfl rfl (fun w' hS' => Ev.assign rfl) hs_5 ?_
    refine RP.fin ?_
    refine CW.ret ?_
    show PostK _ _ _ _ _ _
    refine post2 rfl rfl rfl ?_
    have hs_6 : Sat w [] w_2.drew := hs_5.sub ((.cons _ .slnil))
    have hl : lbW W s = k := lbR_eq hk (fun j y hj hy => hlt j y hj hy) (fun y hy => by rw [List.getElem?_eq_none (by omega)] at hy; cases hy)
    have hn : W[k]? = none := List.getElem?_eq_none (by omega)
    rw [hl]
    exact ⟨by simp [hn], hs_6⟩

theorem rbuild_ok (v : Value) (vs : List ByteArray) (w : World) (hv : RdL w v encTx vs) :
    CallsV Try.prog 72 [v] w fun r w' => (bldE vs ≠ 0 ∧ r = .tuple #[.agg #[.slice none 0 0, .slice none 0 0], .slice none 0 0, .int .i64 ((bldE vs : Nat) : Int)] ∧ Sat w [] w') ∨ (bldE vs = 0 ∧ ∃ vw vc vn, r = .tuple #[.agg #[vw, vc], vn, .int .i64 0] ∧ Sat w [cL vw 9 encTx (wordsN vs), cL vc 3 (encN .i64) (countsN vs), cL vn 3 (encN .i64) (vs.map (lbW (wordsN vs)))] w') := by
  have hs0 := Sat.start w
  refine callsV_of Try.func72 rfl rfl ?_
  refine CW.seq ?_
  refine CW.region ?_
  refine RT.eff rfl rfl (OpE.alloc hs0 zero51 fun b_1 w_1 hs_1 hch_1 hb_1 => ?_)
  have hs_1d : Sat w [cObj b_1 51 [(Value.slice none 0 0), (Value.slice none 0 0)]] _ := hs_1
  refine RT.ev rfl rfl (Ev.assign rfl) ?_
  refine RT.ev rfl rfl (Ev.assign rfl) ?_
  refine RT.nil ?_
  refine CW.seq ?_
  refine CW.seq ?_
  refine CW.region ?_
  refine RT.ev rfl rfl (Ev.move rfl) ?_
  refine RT.ev rfl rfl (Ev.lenL Try.underlying45 rfl (hv.ext hs_1d.ext)) ?_
  refine RT.ev rfl rfl (Ev.gtrN (b := 4096) rfl rfl) ?_
  refine RT.nil ?_
  refine CW.condD rfl (fun hc_1 => ?_) (fun hc_1 => ?_)
  · refine CW.seq ?_
    refine CW.region ?_
    refine RT.ev rfl rfl (Ev.build bt51 rfl trivial rfl) ?_
    refine RT.eff rfl rfl (OpE.storeObjA (vs := [(Value.slice none 0 0), (Value.slice none 0 0)]) agg51 hs_1d (i := 0) rfl rfl rfl rfl (fun v h => by simp only [List.mem_cons, List.not_mem_nil, or_false] at h; rcases h with rfl | rfl; exact rfl; exact rfl) fun w_2 hs_2 hch_2 => ?_)
    have hs_2d : Sat w [cObj b_1 51 [(Value.slice none 0 0), (Value.slice none 0 0)]] _ := hs_2
    refine RT.ev rfl rfl (Ev.assign rfl) ?_
    refine RT.ev rfl rfl (Ev.assign rfl) ?_
    refine RT.nil ?_
    refine CW.ret ?_
    show PostK _ _ _ _ _ _
    refine post3c (vs := [(Value.slice none 0 0), (Value.slice none 0 0)]) rfl rfl rfl rfl agg51 (fun j u hu => hs_2d.cell (i := 0) rfl hu) ?_
    have hs_3 : Sat w [] w_2 := hs_2d.sub ((.cons _ .slnil))
    have hq : bldE vs = 2 := by
      unfold bldE
      rw [if_pos hc_1]
    rw [hq]
    exact .inl ⟨by decide, rfl, hs_3⟩
  · refine CW.skip ?_
    refine CW.seq ?_
    refine CW.region ?_
    refine RT.ev rfl rfl (Ev.build bt51 rfl trivial rfl) ?_
    refine RT.eff rfl rfl (OpE.alloc hs_1d zero51 fun b_2 w_3 hs_4 hch_3 hb_2 => ?_)
    have hs_4d : Sat w [cObj b_1 51 [(Value.slice none 0 0), (Value.slice none 0 0)], cObj b_2 51 [(Value.slice none 0 0), (Value.slice none 0 0)]] _ := hs_4
    refine RT.eff rfl rfl (OpE.storeObjA (vs := [(Value.slice none 0 0), (Value.slice none 0 0)]) agg51 hs_4d (i := 1) rfl rfl rfl rfl (fun v h => by simp only [List.mem_cons, List.not_mem_nil, or_false] at h; rcases h with rfl | rfl; exact rfl; exact rfl) fun w_4 hs_5 hch_4 => ?_)
    have hs_5d : Sat w [cObj b_1 51 [(Value.slice none 0 0), (Value.slice none 0 0)], cObj b_2 51 [(Value.slice none 0 0), (Value.slice none 0 0)]] _ := hs_5
    refine RT.nil ?_
    refine CW.seq ?_
    refine CW.seq ?_
    refine CW.region ?_
    refine RT.ev rfl rfl (Ev.move rfl) ?_
    refine RT.ev rfl rfl (Ev.lenL Try.underlying45 rfl (hv.ext hs_5d.ext)) ?_
    refine RT.ev rfl rfl (Ev.move rfl) ?_
    refine RT.nil ?_
    refine CW.block ?_
    have hs_6 : Sat w [cObj b_1 51 [(Value.slice none 0 0), (Value.slice none 0 0)], cObj b_2 51 [(Value.slice none 0 0), (Value.slice none 0 0)], cL (Value.slice none 0 0) 9 (encTx) ([])] _ := hs_5d.newNilL 9 (encTx)
    have hs_7 : Sat w [cObj b_1 51 [(Value.slice none 0 0), (Value.slice none 0 0)], cObj b_2 51 [(Value.slice none 0 0), (Value.slice none 0 0)], cL (Value.slice none 0 0) 9 (encTx) ([]), cL (Value.slice none 0 0) 3 (encN .i64) ([])] _ := hs_6.newNilL 3 (encN .i64)
    have hs_8 : Sat w [cObj b_1 51 [(Value.slice none 0 0), (Value.slice none 0 0)], cObj b_2 51 [(Value.slice none 0 0), (Value.slice none 0 0)], cL (Value.slice none 0 0) 9 (encTx) (wordsN (vs.take 0)), cL (Value.slice none 0 0) 3 (encN .i64) ([])] w_4 := hs_7.reL 2 rfl (show [] = wordsN (vs.take 0) from rfl)
    have hs_9 : Sat w [cObj b_1 51 [(Value.slice none 0 0), (Value.slice none 0 0)], cObj b_2 51 [(Value.slice none 0 0), (Value.slice none 0 0)], cL (Value.slice none 0 0) 9 (encTx) (wordsN (vs.take 0)), cL (Value.slice none 0 0) 3 (encN .i64) (countsN (vs.take 0))] w_4 := hs_8.reL 3 rfl (show [] = countsN (vs.take 0) from rfl)
    refine CW.loop (α := Nat × Value × Value) (fun (k, vw, vc) => [(0, v), (2, (Value.pointer (some ⟨b_1, 0, none⟩))), (5, (Value.pointer (some ⟨b_2, 0, none⟩))), (20, v), (21, (Value.int .i64 ((vs.length : Nat) : Int))), (22, (Value.int .i64 ((k : Nat) : Int)))]) (fun (k, vw, vc) w' => Sat w [cObj b_1 51 [(Value.slice none 0 0), (Value.slice none 0 0)], cObj b_2 51 [vw, vc], cL vw 9 (encTx) (wordsN (vs.take k)), cL vc 3 (encN .i64) (countsN (vs.take k))] w' ∧ (k ≤ vs.length) ∧ (chkN vs = chkN (vs.drop k))) (fun (k, vw, vc) => vs.length - k) (0, (Value.slice none 0 0), (Value.slice none 0 0)) ⟨rfl, rfl, rfl, rfl, rfl, rfl, trivial⟩ ⟨hs_9, Nat.zero_le _, rfl⟩ ?_
    rintro ⟨k, vw, vc⟩ w_5 ⟨hs_10, hk, hchk⟩
    show CW _ _ _ _ [(0, v), (2, (Value.pointer (some ⟨b_1, 0, none⟩))), (5, (Value.pointer (some ⟨b_2, 0, none⟩))), (20, v), (21, (Value.int .i64 ((vs.length : Nat) : Int))), (22, (Value.int .i64 ((k : Nat) : Int)))] _
    refine CW.seq ?_
    refine CW.region ?_
    refine RT.ev rfl rfl (Ev.lssN rfl rfl) ?_
    refine RT.nil ?_
    refine CW.seq ?_
    refine CW.condD rfl (fun hc_2 => ?_) (fun hc_2 => ?_)
    · refine CW.skip ?_
      refine CW.seq ?_
      refine CW.block ?_
      refine CW.seq ?_
      obtain ⟨x, hx⟩ : ∃ x, (vs)[k]? = some x := ⟨_, List.getElem?_eq_getElem hc_2⟩
      refine CW.region ?_
      refine RT.ev rfl rfl (Ev.idxL (E := encTx) sl45 rfl rfl (hv.ext hs_10.ext) (by omega)) ?_
      refine RT.ev rfl rfl (Ev.ldL (E := encTx) scal9 rfl (hv.ext hs_10.ext) hx (by decide) rfl) ?_
      refine RT.ev rfl rfl (Ev.assign rfl) ?_
      refine RT.nil ?_
      refine CW.seq ?_
      refine CW.seq ?_
      refine CW.region ?_
      refine RT.ev rfl rfl (Ev.move rfl) ?_
      refine RT.ev rfl rfl (Ev.lenStr Try.underlying9 rfl) ?_
      refine RT.ev rfl rfl (Ev.gtrN (b := 120) rfl rfl) ?_
      refine RT.nil ?_
      refine CW.condD rfl (fun hc_3 => ?_) (fun hc_3 => ?_)
      · refine CW.seq ?_
        refine CW.region ?_
        refine RT.ev rfl rfl (Ev.build bt51 rfl trivial rfl) ?_
        refine RT.eff rfl rfl (OpE.storeObjA (vs := [(Value.slice none 0 0), (Value.slice none 0 0)]) agg51 hs_10 (i := 0) rfl rfl rfl rfl (fun v h => by simp only [List.mem_cons, List.not_mem_nil, or_false] at h; rcases h with rfl | rfl; exact rfl; exact rfl) fun w_6 hs_11 hch_5 => ?_)
        have hs_11d : Sat w [cObj b_1 51 [(Value.slice none 0 0), (Value.slice none 0 0)], cObj b_2 51 [vw, vc], cL vw 9 (encTx) (wordsN (vs.take k)), cL vc 3 (encN .i64) (countsN (vs.take k))] _ := hs_11
        refine RT.ev rfl rfl (Ev.assign rfl) ?_
        refine RT.ev rfl rfl (Ev.assign rfl) ?_
        refine RT.nil ?_
        refine CW.ret ?_
        show PostK _ _ _ _ _ _
        refine post3c (vs := [(Value.slice none 0 0), (Value.slice none 0 0)]) rfl rfl rfl rfl agg51 (fun j u hu => hs_11d.cell (i := 0) rfl hu) ?_
        have hs_12 : Sat w [] w_6 := hs_11d.sub ((.cons _ (.cons _ (.cons _ (.cons _ .slnil)))))
        have hq : bldE vs = 2 := by
          unfold bldE
          have h9 : chkN vs = 2 := by rw [hchk, drop_at hx, chkN, if_pos hc_3]
          rw [if_neg hc_1, h9]; rfl
        rw [hq]
        exact .inl ⟨by decide, rfl, hs_12⟩
      · refine CW.skip ?_
        refine CW.seq ?_
        refine CW.seq ?_
        refine CW.region ?_
        refine RT.ev rfl rfl (Ev.move rfl) ?_
        refine RT.eff rfl rfl (OpE.call ent91 rfl ((rvalid_ok x _ (by omega)).mono fun r_1 w_7 h_1 => ?_))
        obtain ⟨rfl, hp_1⟩ := h_1
        have hs_13 : Sat w [cObj b_1 51 [(Value.slice none 0 0), (Value.slice none 0 0)], cObj b_2 51 [vw, vc], cL vw 9 (encTx) (wordsN (vs.take k)), cL vc 3 (encN .i64) (countsN (vs.take k))] _ := hs_10.adds hp_1
        refine RT.ev rfl rfl (Ev.notB rfl) ?_
        refine RT.nil ?_
        refine CW.cond rfl (fun hc_4 => ?_) (fun hc_4 => ?_)
        · refine CW.seq ?_
          refine CW.region ?_
          refine RT.ev rfl rfl (Ev.build bt51 rfl trivial rfl) ?_
          refine RT.eff rfl rfl (OpE.storeObjA (vs := [(Value.slice none 0 0), (Value.slice none 0 0)]) agg51 hs_13 (i := 0) rfl rfl rfl rfl (fun v h => by simp only [List.mem_cons, List.not_mem_nil, or_false] at h; rcases h with rfl | rfl; exact rfl; exact rfl) fun w_8 hs_14 hch_6 => ?_)
          have hs_14d : Sat w [cObj b_1 51 [(Value.slice none 0 0), (Value.slice none 0 0)], cObj b_2 51 [vw, vc], cL vw 9 (encTx) (wordsN (vs.take k)), cL vc 3 (encN .i64) (countsN (vs.take k))] _ := hs_14
          refine RT.ev rfl rfl (Ev.assign rfl) ?_
          refine RT.ev rfl rfl (Ev.assign rfl) ?_
          refine RT.nil ?_
          refine CW.ret ?_
          show PostK _ _ _ _ _ _
          refine post3c (vs := [(Value.slice none 0 0), (Value.slice none 0 0)]) rfl rfl rfl rfl agg51 (fun j u hu => hs_14d.cell (i := 0) rfl hu) ?_
          have hs_15 : Sat w [] w_8 := hs_14d.sub ((.cons _ (.cons _ (.cons _ (.cons _ .slnil)))))
          have hq : bldE vs = 7 := by
            unfold bldE
            have h9 : chkN vs = 7 := by rw [hchk, drop_at hx, chkN, if_neg (by omega), if_pos (by simpa using hc_4)]
            rw [if_neg hc_1, h9]; rfl
          rw [hq]
          exact .inl ⟨by decide, rfl, hs_15⟩
        · refine CW.skip ?_
          refine CW.seq ?_
          have hwl := wordsN_length (vs.take k)
          have htl := List.length_take_le k vs
          have hlb : lbW (wordsN (vs.take k)) x ≤ (wordsN (vs.take k)).length := lbR_le (R := SLt) _ x
          have hcl := countsN_length (vs.take k)
          refine CW.region ?_
          refine RT.ev rfl rfl (Ev.ldObj agg51 rfl hs_13 (i := 1) rfl rfl) ?_
          refine RT.ev rfl rfl (Ev.move rfl) ?_
          refine RT.eff rfl rfl (OpE.call ent38 rfl ((rfind_ok _ _ (wordsN (vs.take k)) x _ (hs_13.rdL 2 rfl) ((hs_13.rdL 3 rfl).oneCell) (by omega)).mono fun r_2 w_9 h_2 => ?_))
          obtain ⟨rfl, hp_2⟩ := h_2
          have hs_16 : Sat w [cObj b_1 51 [(Value.slice none 0 0), (Value.slice none 0 0)], cObj b_2 51 [vw, vc], cL vw 9 (encTx) (wordsN (vs.take k)), cL vc 3 (encN .i64) (countsN (vs.take k))] _ := hs_13.adds hp_2
          refine RT.ev rfl rfl (Ev.move rfl) ?_
          refine RT.ev rfl rfl (Ev.extract rfl rfl) ?_
          refine RT.ev rfl rfl (Ev.extract rfl rfl) ?_
          refine RT.ev rfl rfl (Ev.assign rfl) ?_
          refine RT.ev rfl rfl (Ev.assign rfl) ?_
          refine RT.nil ?_
          refine CW.seq ?_
          refine CW.seq ?_
          refine CW.region ?_
          refine RT.ev rfl rfl (Ev.move rfl) ?_
          refine RT.ev rfl rfl (Ev.notP rfl) ?_
          refine RT.nil ?_
          refine CW.condD rfl (fun hc_5 => ?_) (fun hc_5 => ?_)
          · refine CW.seq ?_
            refine CW.draw2 (fun w' => Sat w [cObj b_1 51 [(Value.slice none 0 0), (Value.slice none 0 0)], cObj b_2 51 [vw, vc], cL vw 9 (encTx) (wordsN (vs.take k)), cL vc 3 (encN .i64) (countsN (vs.take k))] w') (fun w' => Sat w [cObj b_1 51 [(Value.slice none 0 0), (Value.slice none 0 0)], cL vw 9 (encTx) (wordsN (vs.take k)), cL vc 3 (encN .i64) (countsN (vs.take k))] w') 14 (.free 0 (.free 1 (.free 2 (.free 3 (.free 5 (.free 8 (.free 9 (.free 10 (.free 11 (.two 4 6 (.one 6 (.one 7 (.one 12 (.free 13 (.bar 14 .fin))))) (.one 4 (.one 7 (.one 12 (.free 13 (.bar 14 .fin))))))))))))))) (fun w' h => h.sub ((.cons_cons _ (.cons _ (.cons_cons _ (.cons_cons _ .slnil)))))) mixed (by kernel_rfl) ?_
            have hs_17 := hs_16.drew
            refine RP.ev rfl rfl rfl (fun w' hS' => Ev.fieldAddr fld51_0 rfl rfl) hs_17 ?_
            refine RP.ev rfl rfl rfl (fun w' hS' => Ev.load scal45 rfl (hS'.cell (i := 1) (j := 0) rfl rfl)) hs_17 ?_
            refine RP.ev rfl rfl rfl (fun w' hS' => Ev.move rfl) hs_17 ?_
            refine RP.ev rfl rfl rfl (fun w' hS' => Ev.sliceL (E := encTx) (a := 0) (c := (lbW (wordsN (vs.take k)) x)) sl45 rfl (hS'.rdL 2 rfl) rfl ⟨_, rfl⟩ (by omega) (by omega)) hs_17 ?_
            refine RP.ev rfl rfl rfl (fun w' hS' => Ev.move rfl) hs_17 ?_
            refine RP.ev rfl rfl rfl (fun w' hS' => Ev.fieldAddr fld51_0 rfl rfl) hs_17 ?_
            refine RP.ev rfl rfl rfl (fun w' hS' => Ev.load scal45 rfl (hS'.cell (i := 1) (j := 0) rfl rfl)) hs_17 ?_
            refine RP.ev rfl rfl rfl (fun w' hS' => Ev.move rfl) hs_17 ?_
            refine RP.ev rfl rfl rfl (fun w' hS' => Ev.sliceL (E := encTx) (a := (lbW (wordsN (vs.take k)) x)) (c := (wordsN (vs.take k)).length) sl45 rfl (hS'.rdL 2 rfl) ⟨_, rfl⟩ rfl (by omega) (by omega)) hs_17 ?_
            have hs_18 : Sat w [cObj b_1 51 [(Value.slice none 0 0), (Value.slice none 0 0)], cObj b_2 51 [vw, vc], cL vw 9 (encTx) (wordsN (vs.take k)), cL vc 3 (encN .i64) (countsN (vs.take k)), cL (Value.slice none 0 0) 9 (encTx) ([])] _ := hs_17.newNilL 9 (encTx)
            refine RP.two rfl rfl rfl rfl rfl rfl (OpE.appendL 4 sl45 hs_18 rfl rfl rfl Try.underlying45 (((hs_18.rdL 2 rfl)).sub (a := 0) (b := (lbW (wordsN (vs.take k)) x)) (by omega) (by omega)) (by simp only [List.length_append, List.length_take, List.length_drop, List.length_cons, List.length_nil, List.length_map] at *; omega) (by simp only [List.length_append, List.length_take, List.length_drop, List.length_cons, List.length_nil, List.length_map] at *; omega) fun v_1 w_10 hs_19 hch_7 => ?_) (OpE.lit1 (encTx) x sl45 rfl hs_17 rfl fun v_2 w_11 hs_20 hch_8 => ?_)
            · have hs_19d : Sat w [cObj b_1 51 [(Value.slice none 0 0), (Value.slice none 0 0)], cObj b_2 51 [vw, vc], cL vw 9 (encTx) (wordsN (vs.take k)), cL vc 3 (encN .i64) (countsN (vs.take k)), cL v_1 9 (encTx) (((wordsN (vs.take k)).take (lbW (wordsN (vs.take k)) x)).drop 0)] _ := hs_19
              have hS_1 : Sat w [cObj b_1 51 [(Value.slice none 0 0), (Value.slice none 0 0)], cObj b_2 51 [vw, vc], cL vw 9 (encTx) (wordsN (vs.take k)), cL vc 3 (encN .i64) (countsN (vs.take k))] _ := hs_19d.sub ((.cons_cons _ (.cons_cons _ (.cons_cons _ (.cons_cons _ (.cons _ .slnil))))))
              refine ⟨hS_1, ?_⟩
              refine RP.eff rfl rfl rfl (OpE.lit1 (encTx) x sl45 rfl hs_19d rfl fun v_3 w_12 hs_21 hch_9 => ?_)
              have hs_21d : Sat w [cObj b_1 51 [(Value.slice none 0 0), (Value.slice none 0 0)], cObj b_2 51 [vw, vc], cL vw 9 (encTx) (wordsN (vs.take k)), cL vc 3 (encN .i64) (countsN (vs.take k)), cL v_1 9 (encTx) (((wordsN (vs.take k)).take (lbW (wordsN (vs.take k)) x)).drop 0), cL v_3 9 (encTx) ([x])] _ := hs_21
              have hS_2 : Sat w [cObj b_1 51 [(Value.slice none 0 0), (Value.slice none 0 0)], cObj b_2 51 [vw, vc], cL vw 9 (encTx) (wordsN (vs.take k)), cL vc 3 (encN .i64) (countsN (vs.take k))] _ := hs_21d.sub ((.cons_cons _ (.cons_cons _ (.cons_cons _ (.cons_cons _ (.cons _ (.cons _ .slnil)))))))
              refine ⟨hS_2, ?_⟩
              refine RP.eff rfl rfl rfl (OpE.appendL 4 sl45 hs_21d rfl rfl rfl Try.underlying45 (hs_21d.rdL 5 rfl) (by simp only [List.length_append, List.length_take, List.length_drop, List.length_cons, List.length_nil, List.length_map] at *; omega) (by simp only [List.length_append, List.length_take, List.length_drop, List.length_cons, List.length_nil, List.length_map] at *; omega) fun v_4 w_13 hs_22 hch_10 => ?_)
              have hs_22d : Sat w [cObj b_1 51 [(Value.slice none 0 0), (Value.slice none 0 0)], cObj b_2 51 [vw, vc], cL vw 9 (encTx) (wordsN (vs.take k)), cL vc 3 (encN .i64) (countsN (vs.take k)), cL v_4 9 (encTx) (((wordsN (vs.take k)).take (lbW (wordsN (vs.take k)) x)).drop 0 ++ [x])] _ := hs_22.drop 5
              have hS_3 : Sat w [cObj b_1 51 [(Value.slice none 0 0), (Value.slice none 0 0)], cObj b_2 51 [vw, vc], cL vw 9 (encTx) (wordsN (vs.take k)), cL vc 3 (encN .i64) (countsN (vs.take k))] _ := hs_22d.sub ((.cons_cons _ (.cons_cons _ (.cons_cons _ (.cons_cons _ (.cons _ .slnil))))))
              refine ⟨hS_3, ?_⟩
              refine RP.eff rfl rfl rfl (OpE.appendL 4 sl45 hs_22d rfl rfl rfl Try.underlying45 (((hs_22d.rdL 2 rfl)).sub (a := (lbW (wordsN (vs.take k)) x)) (b := (wordsN (vs.take k)).length) (by omega) (by omega)) (by simp only [List.length_append, List.length_take, List.length_drop, List.length_cons, List.length_nil, List.length_map] at *; omega) (by simp only [List.length_append, List.length_take, List.length_drop, List.length_cons, List.length_nil, List.length_map] at *; omega) fun v_5 w_14 hs_23 hch_11 => ?_)
              have hs_23d : Sat w [cObj b_1 51 [(Value.slice none 0 0), (Value.slice none 0 0)], cObj b_2 51 [vw, vc], cL vw 9 (encTx) (wordsN (vs.take k)), cL vc 3 (encN .i64) (countsN (vs.take k)), cL v_5 9 (encTx) (((wordsN (vs.take k)).take (lbW (wordsN (vs.take k)) x)).drop 0 ++ [x] ++ ((wordsN (vs.take k)).take ((wordsN (vs.take k)).length)).drop (lbW (wordsN (vs.take k)) x))] _ := hs_23
              have hS_4 : Sat w [cObj b_1 51 [(Value.slice none 0 0), (Value.slice none 0 0)], cObj b_2 51 [vw, vc], cL vw 9 (encTx) (wordsN (vs.take k)), cL vc 3 (encN .i64) (countsN (vs.take k))] _ := hs_23d.sub ((.cons_cons _ (.cons_cons _ (.cons_cons _ (.cons_cons _ (.cons _ .slnil))))))
              refine ⟨hS_4, ?_⟩
              refine RP.ev rfl rfl rfl (fun w' hS' => Ev.fieldAddr fld51_0 rfl rfl) hS_4 ?_
              refine RP.bar rfl rfl rfl (OpE.storeObj one45 hs_23d (i := 1) rfl rfl rfl ((hs_23d.rdL 4 rfl).oneCell) rfl fun w_15 hs_24 hch_12 => ?_)
              have hs_24d : Sat w [cObj b_1 51 [(Value.slice none 0 0), (Value.slice none 0 0)], cObj b_2 51 [v_5, vc], cL vw 9 (encTx) (wordsN (vs.take k)), cL vc 3 (encN .i64) (countsN (vs.take k)), cL v_5 9 (encTx) (((wordsN (vs.take k)).take (lbW (wordsN (vs.take k)) x)).drop 0 ++ [x] ++ ((wordsN (vs.take k)).take ((wordsN (vs.take k)).length)).drop (lbW (wordsN (vs.take k)) x))] _ := hs_24
              have hS_5 : Sat w [cObj b_1 51 [(Value.slice none 0 0), (Value.slice none 0 0)], cL vw 9 (encTx) (wordsN (vs.take k)), cL vc 3 (encN .i64) (countsN (vs.take k))] _ := hs_24d.sub ((.cons_cons _ (.cons _ (.cons_cons _ (.cons_cons _ (.cons _ .slnil))))))
              refine ⟨hS_5, ?_⟩
              refine RP.fin ?_
              refine CW.draw2 (fun w' => Sat w [cObj b_1 51 [(Value.slice none 0 0), (Value.slice none 0 0)], cObj b_2 51 [v_5, vc], cL vw 9 (encTx) (wordsN (vs.take k)), cL vc 3 (encN .i64) (countsN (vs.take k)), cL v_5 9 (encTx) (((wordsN (vs.take k)).take (lbW (wordsN (vs.take k)) x)).drop 0 ++ [x] ++ ((wordsN (vs.take k)).take ((wordsN (vs.take k)).length)).drop (lbW (wordsN (vs.take k)) x))] w') (fun w' => Sat w [cObj b_1 51 [(Value.slice none 0 0), (Value.slice none 0 0)], cL vw 9 (encTx) (wordsN (vs.take k)), cL vc 3 (encN .i64) (countsN (vs.take k)), cL v_5 9 (encTx) (((wordsN (vs.take k)).take (lbW (wordsN (vs.take k)) x)).drop 0 ++ [x] ++ ((wordsN (vs.take k)).take ((wordsN (vs.take k)).length)).drop (lbW (wordsN (vs.take k)) x))] w') 13 (.free 0 (.free 1 (.free 2 (.free 3 (.free 7 (.free 8 (.free 9 (.free 10 (.two 4 5 (.one 5 (.one 6 (.one 11 (.free 12 (.bar 13 .fin))))) (.one 4 (.one 6 (.one 11 (.free 12 (.bar 13 .fin)))))))))))))) (fun w' h => h.sub ((.cons_cons _ (.cons _ (.cons_cons _ (.cons_cons _ (.cons_cons _ .slnil))))))) mixed (by kernel_rfl) ?_
              have hs_25 := hs_24d.drew
              refine RP.ev rfl rfl rfl (fun w' hS' => Ev.fieldAddr fld51_1 rfl rfl) hs_25 ?_
              refine RP.ev rfl rfl rfl (fun w' hS' => Ev.load scal22 rfl (hS'.cell (i := 1) (j := 1) rfl rfl)) hs_25 ?_
              refine RP.ev rfl rfl rfl (fun w' hS' => Ev.move rfl) hs_25 ?_
              refine RP.ev rfl rfl rfl (fun w' hS' => Ev.sliceL (E := encN .i64) (a := 0) (c := (lbW (wordsN (vs.take k)) x)) sl22 rfl (hS'.rdL 3 rfl) rfl ⟨_, rfl⟩ (by omega) (by omega)) hs_25 ?_
              refine RP.ev rfl rfl rfl (fun w' hS' => Ev.fieldAddr fld51_1 rfl rfl) hs_25 ?_
              refine RP.ev rfl rfl rfl (fun w' hS' => Ev.load scal22 rfl (hS'.cell (i := 1) (j := 1) rfl rfl)) hs_25 ?_
              refine RP.ev rfl rfl rfl (fun w' hS' => Ev.move rfl) hs_25 ?_
              refine RP.ev rfl rfl rfl (fun w' hS' => Ev.sliceL (E := encN .i64) (a := (lbW (wordsN (vs.take k)) x)) (c := (countsN (vs.take k)).length) sl22 rfl (hS'.rdL 3 rfl) ⟨_, rfl⟩ rfl (by omega) (by omega)) hs_25 ?_
              have hs_26 : Sat w [cObj b_1 51 [(Value.slice none 0 0), (Value.slice none 0 0)], cObj b_2 51 [v_5, vc], cL vw 9 (encTx) (wordsN (vs.take k)), cL vc 3 (encN .i64) (countsN (vs.take k)), cL v_5 9 (encTx) (((wordsN (vs.take k)).take (lbW (wordsN (vs.take k)) x)).drop 0 ++ [x] ++ ((wordsN (vs.take k)).take ((wordsN (vs.take k)).length)).drop (lbW (wordsN (vs.take k)) x)), cL (Value.slice none 0 0) 3 (encN .i64) ([])] _ := hs_25.newNilL 3 (encN .i64)
              refine RP.two rfl rfl rfl rfl rfl rfl (OpE.appendL 5 sl22 hs_26 rfl rfl rfl Try.underlying22 (((hs_26.rdL 3 rfl)).sub (a := 0) (b := (lbW (wordsN (vs.take k)) x)) (by omega) (by omega)) (by simp only [List.length_append, List.length_take, List.length_drop, List.length_cons, List.length_nil, List.length_map] at *; omega) (by simp only [List.length_append, List.length_take, List.length_drop, List.length_cons, List.length_nil, List.length_map] at *; omega) fun v_6 w_16 hs_27 hch_13 => ?_) (OpE.lit1 (encN .i64) 0 sl22 rfl hs_25 rfl fun v_7 w_17 hs_28 hch_14 => ?_)
              · have hs_27d : Sat w [cObj b_1 51 [(Value.slice none 0 0), (Value.slice none 0 0)], cObj b_2 51 [v_5, vc], cL vw 9 (encTx) (wordsN (vs.take k)), cL vc 3 (encN .i64) (countsN (vs.take k)), cL v_5 9 (encTx) (((wordsN (vs.take k)).take (lbW (wordsN (vs.take k)) x)).drop 0 ++ [x] ++ ((wordsN (vs.take k)).take ((wordsN (vs.take k)).length)).drop (lbW (wordsN (vs.take k)) x)), cL v_6 3 (encN .i64) (((countsN (vs.take k)).take (lbW (wordsN (vs.take k)) x)).drop 0)] _ := hs_27
                have hS_6 : Sat w [cObj b_1 51 [(Value.slice none 0 0), (Value.slice none 0 0)], cObj b_2 51 [v_5, vc], cL vw 9 (encTx) (wordsN (vs.take k)), cL vc 3 (encN .i64) (countsN (vs.take k)), cL v_5 9 (encTx) (((wordsN (vs.take k)).take (lbW (wordsN (vs.take k)) x)).drop 0 ++ [x] ++ ((wordsN (vs.take k)).take ((wordsN (vs.take k)).length)).drop (lbW (wordsN (vs.take k)) x))] _ := hs_27d.sub ((.cons_cons _ (.cons_cons _ (.cons_cons _ (.cons_cons _ (.cons_cons _ (.cons _ .slnil)))))))
                refine ⟨hS_6, ?_⟩
                refine RP.eff rfl rfl rfl (OpE.lit1 (encN .i64) 0 sl22 rfl hs_27d rfl fun v_8 w_18 hs_29 hch_15 => ?_)
                have hs_29d : Sat w [cObj b_1 51 [(Value.slice none 0 0), (Value.slice none 0 0)], cObj b_2 51 [v_5, vc], cL vw 9 (encTx) (wordsN (vs.take k)), cL vc 3 (encN .i64) (countsN (vs.take k)), cL v_5 9 (encTx) (((wordsN (vs.take k)).take (lbW (wordsN (vs.take k)) x)).drop 0 ++ [x] ++ ((wordsN (vs.take k)).take ((wordsN (vs.take k)).length)).drop (lbW (wordsN (vs.take k)) x)), cL v_6 3 (encN .i64) (((countsN (vs.take k)).take (lbW (wordsN (vs.take k)) x)).drop 0), cL v_8 3 (encN .i64) ([0])] _ := hs_29
                have hS_7 : Sat w [cObj b_1 51 [(Value.slice none 0 0), (Value.slice none 0 0)], cObj b_2 51 [v_5, vc], cL vw 9 (encTx) (wordsN (vs.take k)), cL vc 3 (encN .i64) (countsN (vs.take k)), cL v_5 9 (encTx) (((wordsN (vs.take k)).take (lbW (wordsN (vs.take k)) x)).drop 0 ++ [x] ++ ((wordsN (vs.take k)).take ((wordsN (vs.take k)).length)).drop (lbW (wordsN (vs.take k)) x))] _ := hs_29d.sub ((.cons_cons _ (.cons_cons _ (.cons_cons _ (.cons_cons _ (.cons_cons _ (.cons _ (.cons _ .slnil))))))))
                refine ⟨hS_7, ?_⟩
                refine RP.eff rfl rfl rfl (OpE.appendL 5 sl22 hs_29d rfl rfl rfl Try.underlying22 (hs_29d.rdL 6 rfl) (by simp only [List.length_append, List.length_take, List.length_drop, List.length_cons, List.length_nil, List.length_map] at *; omega) (by simp only [List.length_append, List.length_take, List.length_drop, List.length_cons, List.length_nil, List.length_map] at *; omega) fun v_9 w_19 hs_30 hch_16 => ?_)
                have hs_30d : Sat w [cObj b_1 51 [(Value.slice none 0 0), (Value.slice none 0 0)], cObj b_2 51 [v_5, vc], cL vw 9 (encTx) (wordsN (vs.take k)), cL vc 3 (encN .i64) (countsN (vs.take k)), cL v_5 9 (encTx) (((wordsN (vs.take k)).take (lbW (wordsN (vs.take k)) x)).drop 0 ++ [x] ++ ((wordsN (vs.take k)).take ((wordsN (vs.take k)).length)).drop (lbW (wordsN (vs.take k)) x)), cL v_9 3 (encN .i64) (((countsN (vs.take k)).take (lbW (wordsN (vs.take k)) x)).drop 0 ++ [0])] _ := hs_30.drop 6
                have hS_8 : Sat w [cObj b_1 51 [(Value.slice none 0 0), (Value.slice none 0 0)], cObj b_2 51 [v_5, vc], cL vw 9 (encTx) (wordsN (vs.take k)), cL vc 3 (encN .i64) (countsN (vs.take k)), cL v_5 9 (encTx) (((wordsN (vs.take k)).take (lbW (wordsN (vs.take k)) x)).drop 0 ++ [x] ++ ((wordsN (vs.take k)).take ((wordsN (vs.take k)).length)).drop (lbW (wordsN (vs.take k)) x))] _ := hs_30d.sub ((.cons_cons _ (.cons_cons _ (.cons_cons _ (.cons_cons _ (.cons_cons _ (.cons _ .slnil)))))))
                refine ⟨hS_8, ?_⟩
                refine RP.eff rfl rfl rfl (OpE.appendL 5 sl22 hs_30d rfl rfl rfl Try.underlying22 (((hs_30d.rdL 3 rfl)).sub (a := (lbW (wordsN (vs.take k)) x)) (b := (countsN (vs.take k)).length) (by omega) (by omega)) (by simp only [List.length_append, List.length_take, List.length_drop, List.length_cons, List.length_nil, List.length_map] at *; omega) (by simp only [List.length_append, List.length_take, List.length_drop, List.length_cons, List.length_nil, List.length_map] at *; omega) fun v_10 w_20 hs_31 hch_17 => ?_)
                have hs_31d : Sat w [cObj b_1 51 [(Value.slice none 0 0), (Value.slice none 0 0)], cObj b_2 51 [v_5, vc], cL vw 9 (encTx) (wordsN (vs.take k)), cL vc 3 (encN .i64) (countsN (vs.take k)), cL v_5 9 (encTx) (((wordsN (vs.take k)).take (lbW (wordsN (vs.take k)) x)).drop 0 ++ [x] ++ ((wordsN (vs.take k)).take ((wordsN (vs.take k)).length)).drop (lbW (wordsN (vs.take k)) x)), cL v_10 3 (encN .i64) (((countsN (vs.take k)).take (lbW (wordsN (vs.take k)) x)).drop 0 ++ [0] ++ ((countsN (vs.take k)).take ((countsN (vs.take k)).length)).drop (lbW (wordsN (vs.take k)) x))] _ := hs_31
                have hS_9 : Sat w [cObj b_1 51 [(Value.slice none 0 0), (Value.slice none 0 0)], cObj b_2 51 [v_5, vc], cL vw 9 (encTx) (wordsN (vs.take k)), cL vc 3 (encN .i64) (countsN (vs.take k)), cL v_5 9 (encTx) (((wordsN (vs.take k)).take (lbW (wordsN (vs.take k)) x)).drop 0 ++ [x] ++ ((wordsN (vs.take k)).take ((wordsN (vs.take k)).length)).drop (lbW (wordsN (vs.take k)) x))] _ := hs_31d.sub ((.cons_cons _ (.cons_cons _ (.cons_cons _ (.cons_cons _ (.cons_cons _ (.cons _ .slnil)))))))
                refine ⟨hS_9, ?_⟩
                refine RP.ev rfl rfl rfl (fun w' hS' => Ev.fieldAddr fld51_1 rfl rfl) hS_9 ?_
                refine RP.bar rfl rfl rfl (OpE.storeObj one22 hs_31d (i := 1) rfl rfl rfl ((hs_31d.rdL 5 rfl).oneCell) rfl fun w_21 hs_32 hch_18 => ?_)
                have hs_32d : Sat w [cObj b_1 51 [(Value.slice none 0 0), (Value.slice none 0 0)], cObj b_2 51 [v_5, v_10], cL vw 9 (encTx) (wordsN (vs.take k)), cL vc 3 (encN .i64) (countsN (vs.take k)), cL v_5 9 (encTx) (((wordsN (vs.take k)).take (lbW (wordsN (vs.take k)) x)).drop 0 ++ [x] ++ ((wordsN (vs.take k)).take ((wordsN (vs.take k)).length)).drop (lbW (wordsN (vs.take k)) x)), cL v_10 3 (encN .i64) (((countsN (vs.take k)).take (lbW (wordsN (vs.take k)) x)).drop 0 ++ [0] ++ ((countsN (vs.take k)).take ((countsN (vs.take k)).length)).drop (lbW (wordsN (vs.take k)) x))] _ := hs_32
                have hS_10 : Sat w [cObj b_1 51 [(Value.slice none 0 0), (Value.slice none 0 0)], cL vw 9 (encTx) (wordsN (vs.take k)), cL vc 3 (encN .i64) (countsN (vs.take k)), cL v_5 9 (encTx) (((wordsN (vs.take k)).take (lbW (wordsN (vs.take k)) x)).drop 0 ++ [x] ++ ((wordsN (vs.take k)).take ((wordsN (vs.take k)).length)).drop (lbW (wordsN (vs.take k)) x))] _ := hs_32d.sub ((.cons_cons _ (.cons _ (.cons_cons _ (.cons_cons _ (.cons_cons _ (.cons _ .slnil)))))))
                refine ⟨hS_10, ?_⟩
                refine RP.fin ?_
                refine CW.weaken [(0, _), (2, _), (5, _), (7, _), (8, _), (9, _), (20, _), (21, _), (22, _), (23, _), (28, _), (32, _), (41, _)] ⟨rfl, rfl, rfl, rfl, rfl, rfl, rfl, rfl, rfl, rfl, rfl, rfl, rfl, trivial⟩ ?_
                have hws : ((wordsN (vs.take k)).take (lbW (wordsN (vs.take k)) x)).drop 0 ++ [x] ++ ((wordsN (vs.take k)).take ((wordsN (vs.take k)).length)).drop (lbW (wordsN (vs.take k)) x) = wordsN (vs.take (k + 1)) := by rw [take_snoc hx, wordsN_snoc, addW, if_neg hc_5, insR]; simp
                have hcx : (((countsN (vs.take k)).take (lbW (wordsN (vs.take k)) x)).drop 0 ++ [0] ++ ((countsN (vs.take k)).take ((countsN (vs.take k)).length)).drop (lbW (wordsN (vs.take k)) x))[lbW (wordsN (vs.take k)) x]? = some 0 := new_get (by omega)
                have hcs : countsN (vs.take (k + 1)) = (((countsN (vs.take k)).take (lbW (wordsN (vs.take k)) x)).drop 0 ++ [0] ++ ((countsN (vs.take k)).take ((countsN (vs.take k)).length)).drop (lbW (wordsN (vs.take k)) x)).set (lbW (wordsN (vs.take k)) x) (0 + 1) := by rw [take_snoc hx, counts_new hc_5]; exact (new_set (by omega)).symm
                refine CW.region ?_
                refine RT.ev rfl rfl (Ev.fieldAddr fld51_1 rfl rfl) ?_
                refine RT.ev rfl rfl (Ev.load scal22 rfl (hs_32d.cell (i := 1) (j := 1) rfl rfl)) ?_
                refine RT.ev rfl rfl (Ev.move rfl) ?_
                refine RT.ev rfl rfl (Ev.idxL (E := encN .i64) sl22 rfl rfl (hs_32d.rdL 5 rfl) (List.getElem?_eq_some_iff.1 hcx |>.1)) ?_
                refine RT.ev rfl rfl (Ev.ldL (E := encN .i64) scal3 rfl (hs_32d.rdL 5 rfl) hcx (by decide) rfl) ?_
                refine RT.ev rfl rfl (Ev.addI (b := 1) rfl rfl (by omega)) ?_
                refine RT.ev rfl rfl (Ev.idxL (E := encN .i64) sl22 rfl rfl (hs_32d.rdL 5 rfl) (List.getElem?_eq_some_iff.1 hcx |>.1)) ?_
                refine RT.eff rfl rfl (OpE.setL (a := (0 + 1)) 5 one3 hs_32d rfl rfl rfl rfl (List.getElem?_eq_some_iff.1 hcx |>.1) fun w_22 hs_33 hch_19 => ?_)
                have hs_33d : Sat w [cObj b_1 51 [(Value.slice none 0 0), (Value.slice none 0 0)], cObj b_2 51 [v_5, v_10], cL vw 9 (encTx) (wordsN (vs.take k)), cL vc 3 (encN .i64) (countsN (vs.take k)), cL v_5 9 (encTx) (((wordsN (vs.take k)).take (lbW (wordsN (vs.take k)) x)).drop 0 ++ [x] ++ ((wordsN (vs.take k)).take ((wordsN (vs.take k)).length)).drop (lbW (wordsN (vs.take k)) x)), cL v_10 3 (encN .i64) ((((countsN (vs.take k)).take (lbW (wordsN (vs.take k)) x)).drop 0 ++ [0] ++ ((countsN (vs.take k)).take ((countsN (vs.take k)).length)).drop (lbW (wordsN (vs.take k)) x)).set (lbW (wordsN (vs.take k)) x) (0 + 1))] _ := hs_33
                refine RT.nil ?_
                refine CW.region ?_
                refine RT.ev rfl rfl (Ev.addI (b := 1) rfl rfl (by omega)) ?_
                refine RT.ev rfl rfl (Ev.move rfl) ?_
                refine RT.nil ?_
                have hs_34 : Sat w [cObj b_1 51 [(Value.slice none 0 0), (Value.slice none 0 0)], cObj b_2 51 [v_5, v_10], cL vw 9 (encTx) (wordsN (vs.take k)), cL vc 3 (encN .i64) (countsN (vs.take k)), cL v_5 9 (encTx) (wordsN (vs.take (k + 1))), cL v_10 3 (encN .i64) ((((countsN (vs.take k)).take (lbW (wordsN (vs.take k)) x)).drop 0 ++ [0] ++ ((countsN (vs.take k)).take ((countsN (vs.take k)).length)).drop (lbW (wordsN (vs.take k)) x)).set (lbW (wordsN (vs.take k)) x) (0 + 1))] w_22 := hs_33d.reL 4 rfl (show ((wordsN (vs.take k)).take (lbW (wordsN (vs.take k)) x)).drop 0 ++ [x] ++ ((wordsN (vs.take k)).take ((wordsN (vs.take k)).length)).drop (lbW (wordsN (vs.take k)) x) = wordsN (vs.take (k + 1)) from hws)
                have hs_35 : Sat w [cObj b_1 51 [(Value.slice none 0 0), (Value.slice none 0 0)], cObj b_2 51 [v_5, v_10], cL vw 9 (encTx) (wordsN (vs.take k)), cL vc 3 (encN .i64) (countsN (vs.take k)), cL v_5 9 (encTx) (wordsN (vs.take (k + 1))), cL v_10 3 (encN .i64) (countsN (vs.take (k + 1)))] w_22 := hs_34.reL 5 rfl (show (((countsN (vs.take k)).take (lbW (wordsN (vs.take k)) x)).drop 0 ++ [0] ++ ((countsN (vs.take k)).take ((countsN (vs.take k)).length)).drop (lbW (wordsN (vs.take k)) x)).set (lbW (wordsN (vs.take k)) x) (0 + 1) = countsN (vs.take (k + 1)) from hcs.symm)
                have hs_36 : Sat w [cObj b_1 51 [(Value.slice none 0 0), (Value.slice none 0 0)], cObj b_2 51 [v_5, v_10], cL v_5 9 (encTx) (wordsN (vs.take (k + 1))), cL v_10 3 (encN .i64) (countsN (vs.take (k + 1)))] w_22 := hs_35.sub ((.cons_cons _ (.cons_cons _ (.cons _ (.cons _ (.cons_cons _ (.cons_cons _ .slnil)))))))
                exact ⟨(k + 1, v_5, v_10), ⟨rfl, rfl, rfl, rfl, rfl, rfl, trivial⟩, ⟨hs_36, by omega, by rw [hchk, drop_at hx, chkN, if_neg (by omega), if_neg (by simpa using hc_4)]⟩, (show (vs.length - (k + 1)) < (vs.length - k) from by omega)⟩
              · have hs_28d : Sat w [cObj b_1 51 [(Value.slice none 0 0), (Value.slice none 0 0)], cObj b_2 51 [v_5, vc], cL vw 9 (encTx) (wordsN (vs.take k)), cL vc 3 (encN .i64) (countsN (vs.take k)), cL v_5 9 (encTx) (((wordsN (vs.take k)).take (lbW (wordsN (vs.take k)) x)).drop 0 ++ [x] ++ ((wordsN (vs.take k)).take ((wordsN (vs.take k)).length)).drop (lbW (wordsN (vs.take k)) x)), cL v_7 3 (encN .i64) ([0])] _ := hs_28
                have hS_11 : Sat w [cObj b_1 51 [(Value.slice none 0 0), (Value.slice none 0 0)], cObj b_2 51 [v_5, vc], cL vw 9 (encTx) (wordsN (vs.take k)), cL vc 3 (encN .i64) (countsN (vs.take k)), cL v_5 9 (encTx) (((wordsN (vs.take k)).take (lbW (wordsN (vs.take k)) x)).drop 0 ++ [x] ++ ((wordsN (vs.take k)).take ((wordsN (vs.take k)).length)).drop (lbW (wordsN (vs.take k)) x))] _ := hs_28d.sub ((.cons_cons _ (.cons_cons _ (.cons_cons _ (.cons_cons _ (.cons_cons _ (.cons _ .slnil)))))))
                refine ⟨hS_11, ?_⟩
                have hs_37 : Sat w [cObj b_1 51 [(Value.slice none 0 0), (Value.slice none 0 0)], cObj b_2 51 [v_5, vc], cL vw 9 (encTx) (wordsN (vs.take k)), cL vc 3 (encN .i64) (countsN (vs.take k)), cL v_5 9 (encTx) (((wordsN (vs.take k)).take (lbW (wordsN (vs.take k)) x)).drop 0 ++ [x] ++ ((wordsN (vs.take k)).take ((wordsN (vs.take k)).length)).drop (lbW (wordsN (vs.take k)) x)), cL v_7 3 (encN .i64) ([0]), cL (Value.slice none 0 0) 3 (encN .i64) ([])] _ := hs_28d.newNilL 3 (encN .i64)
                refine RP.eff rfl rfl rfl (OpE.appendL 6 sl22 hs_37 rfl rfl rfl Try.underlying22 (((hs_37.rdL 3 rfl)).sub (a := 0) (b := (lbW (wordsN (vs.take k)) x)) (by omega) (by omega)) (by simp only [List.length_append, List.length_take, List.length_drop, List.length_cons, List.length_nil, List.length_map] at *; omega) (by simp only [List.length_append, List.length_take, List.length_drop, List.length_cons, List.length_nil, List.length_map] at *; omega) fun v_11 w_23 hs_38 hch_20 => ?_)
                have hs_38d : Sat w [cObj b_1 51 [(Value.slice none 0 0), (Value.slice none 0 0)], cObj b_2 51 [v_5, vc], cL vw 9 (encTx) (wordsN (vs.take k)), cL vc 3 (encN .i64) (countsN (vs.take k)), cL v_5 9 (encTx) (((wordsN (vs.take k)).take (lbW (wordsN (vs.take k)) x)).drop 0 ++ [x] ++ ((wordsN (vs.take k)).take ((wordsN (vs.take k)).length)).drop (lbW (wordsN (vs.take k)) x)), cL v_7 3 (encN .i64) ([0]), cL v_11 3 (encN .i64) (((countsN (vs.take k)).take (lbW (wordsN (vs.take k)) x)).drop 0)] _ := hs_38
                have hS_12 : Sat w [cObj b_1 51 [(Value.slice none 0 0), (Value.slice none 0 0)], cObj b_2 51 [v_5, vc], cL vw 9 (encTx) (wordsN (vs.take k)), cL vc 3 (encN .i64) (countsN (vs.take k)), cL v_5 9 (encTx) (((wordsN (vs.take k)).take (lbW (wordsN (vs.take k)) x)).drop 0 ++ [x] ++ ((wordsN (vs.take k)).take ((wordsN (vs.take k)).length)).drop (lbW (wordsN (vs.take k)) x))] _ := hs_38d.sub ((.cons_cons _ (.cons_cons _ (.cons_cons _ (.cons_cons _ (.cons_cons _ (.cons _ (.cons _ .slnil))))))))
                refine ⟨hS_12, ?_⟩
                refine RP.eff rfl rfl rfl (OpE.appendL 6 sl22 hs_38d rfl rfl rfl Try.underlying22 (hs_38d.rdL 5 rfl) (by simp only [List.length_append, List.length_take, List.length_drop, List.length_cons, List.length_nil, List.length_map] at *; omega) (by simp only [List.length_append, List.length_take, List.length_drop, List.length_cons, List.length_nil, List.length_map] at *; omega) fun v_12 w_24 hs_39 hch_21 => ?_)
                have hs_39d : Sat w [cObj b_1 51 [(Value.slice none 0 0), (Value.slice none 0 0)], cObj b_2 51 [v_5, vc], cL vw 9 (encTx) (wordsN (vs.take k)), cL vc 3 (encN .i64) (countsN (vs.take k)), cL v_5 9 (encTx) (((wordsN (vs.take k)).take (lbW (wordsN (vs.take k)) x)).drop 0 ++ [x] ++ ((wordsN (vs.take k)).take ((wordsN (vs.take k)).length)).drop (lbW (wordsN (vs.take k)) x)), cL v_7 3 (encN .i64) ([0]), cL v_12 3 (encN .i64) (((countsN (vs.take k)).take (lbW (wordsN (vs.take k)) x)).drop 0 ++ [0])] _ := hs_39
                have hS_13 : Sat w [cObj b_1 51 [(Value.slice none 0 0), (Value.slice none 0 0)], cObj b_2 51 [v_5, vc], cL vw 9 (encTx) (wordsN (vs.take k)), cL vc 3 (encN .i64) (countsN (vs.take k)), cL v_5 9 (encTx) (((wordsN (vs.take k)).take (lbW (wordsN (vs.take k)) x)).drop 0 ++ [x] ++ ((wordsN (vs.take k)).take ((wordsN (vs.take k)).length)).drop (lbW (wordsN (vs.take k)) x))] _ := hs_39d.sub ((.cons_cons _ (.cons_cons _ (.cons_cons _ (.cons_cons _ (.cons_cons _ (.cons _ (.cons _ .slnil))))))))
                refine ⟨hS_13, ?_⟩
                refine RP.eff rfl rfl rfl (OpE.appendL 6 sl22 hs_39d rfl rfl rfl Try.underlying22 (((hs_39d.rdL 3 rfl)).sub (a := (lbW (wordsN (vs.take k)) x)) (b := (countsN (vs.take k)).length) (by omega) (by omega)) (by simp only [List.length_append, List.length_take, List.length_drop, List.length_cons, List.length_nil, List.length_map] at *; omega) (by simp only [List.length_append, List.length_take, List.length_drop, List.length_cons, List.length_nil, List.length_map] at *; omega) fun v_13 w_25 hs_40 hch_22 => ?_)
                have hs_40d : Sat w [cObj b_1 51 [(Value.slice none 0 0), (Value.slice none 0 0)], cObj b_2 51 [v_5, vc], cL vw 9 (encTx) (wordsN (vs.take k)), cL vc 3 (encN .i64) (countsN (vs.take k)), cL v_5 9 (encTx) (((wordsN (vs.take k)).take (lbW (wordsN (vs.take k)) x)).drop 0 ++ [x] ++ ((wordsN (vs.take k)).take ((wordsN (vs.take k)).length)).drop (lbW (wordsN (vs.take k)) x)), cL v_7 3 (encN .i64) ([0]), cL v_13 3 (encN .i64) (((countsN (vs.take k)).take (lbW (wordsN (vs.take k)) x)).drop 0 ++ [0] ++ ((countsN (vs.take k)).take ((countsN (vs.take k)).length)).drop (lbW (wordsN (vs.take k)) x))] _ := hs_40
                have hS_14 : Sat w [cObj b_1 51 [(Value.slice none 0 0), (Value.slice none 0 0)], cObj b_2 51 [v_5, vc], cL vw 9 (encTx) (wordsN (vs.take k)), cL vc 3 (encN .i64) (countsN (vs.take k)), cL v_5 9 (encTx) (((wordsN (vs.take k)).take (lbW (wordsN (vs.take k)) x)).drop 0 ++ [x] ++ ((wordsN (vs.take k)).take ((wordsN (vs.take k)).length)).drop (lbW (wordsN (vs.take k)) x))] _ := hs_40d.sub ((.cons_cons _ (.cons_cons _ (.cons_cons _ (.cons_cons _ (.cons_cons _ (.cons _ (.cons _ .slnil))))))))
                refine ⟨hS_14, ?_⟩
                refine RP.ev rfl rfl rfl (fun w' hS' => Ev.fieldAddr fld51_1 rfl rfl) hS_14 ?_
                refine RP.bar rfl rfl rfl (OpE.storeObj one22 hs_40d (i := 1) rfl rfl rfl ((hs_40d.rdL 6 rfl).oneCell) rfl fun w_26 hs_41 hch_23 => ?_)
                have hs_41d : Sat w [cObj b_1 51 [(Value.slice none 0 0), (Value.slice none 0 0)], cObj b_2 51 [v_5, v_13], cL vw 9 (encTx) (wordsN (vs.take k)), cL vc 3 (encN .i64) (countsN (vs.take k)), cL v_5 9 (encTx) (((wordsN (vs.take k)).take (lbW (wordsN (vs.take k)) x)).drop 0 ++ [x] ++ ((wordsN (vs.take k)).take ((wordsN (vs.take k)).length)).drop (lbW (wordsN (vs.take k)) x)), cL v_7 3 (encN .i64) ([0]), cL v_13 3 (encN .i64) (((countsN (vs.take k)).take (lbW (wordsN (vs.take k)) x)).drop 0 ++ [0] ++ ((countsN (vs.take k)).take ((countsN (vs.take k)).length)).drop (lbW (wordsN (vs.take k)) x))] _ := hs_41
                have hS_15 : Sat w [cObj b_1 51 [(Value.slice none 0 0), (Value.slice none 0 0)], cL vw 9 (encTx) (wordsN (vs.take k)), cL vc 3 (encN .i64) (countsN (vs.take k)), cL v_5 9 (encTx) (((wordsN (vs.take k)).take (lbW (wordsN (vs.take k)) x)).drop 0 ++ [x] ++ ((wordsN (vs.take k)).take ((wordsN (vs.take k)).length)).drop (lbW (wordsN (vs.take k)) x))] _ := hs_41d.sub ((.cons_cons _ (.cons _ (.cons_cons _ (.cons_cons _ (.cons_cons _ (.cons _ (.cons _ .slnil))))))))
                refine ⟨hS_15, ?_⟩
                refine RP.fin ?_
                refine CW.weaken [(0, _), (2, _), (5, _), (7, _), (8, _), (9, _), (20, _), (21, _), (22, _), (23, _), (28, _), (32, _), (41, _)] ⟨rfl, rfl, rfl, rfl, rfl, rfl, rfl, rfl, rfl, rfl, rfl, rfl, rfl, trivial⟩ ?_
                have hws : ((wordsN (vs.take k)).take (lbW (wordsN (vs.take k)) x)).drop 0 ++ [x] ++ ((wordsN (vs.take k)).take ((wordsN (vs.take k)).length)).drop (lbW (wordsN (vs.take k)) x) = wordsN (vs.take (k + 1)) := by rw [take_snoc hx, wordsN_snoc, addW, if_neg hc_5, insR]; simp
                have hcx : (((countsN (vs.take k)).take (lbW (wordsN (vs.take k)) x)).drop 0 ++ [0] ++ ((countsN (vs.take k)).take ((countsN (vs.take k)).length)).drop (lbW (wordsN (vs.take k)) x))[lbW (wordsN (vs.take k)) x]? = some 0 := new_get (by omega)
                have hcs : countsN (vs.take (k + 1)) = (((countsN (vs.take k)).take (lbW (wordsN (vs.take k)) x)).drop 0 ++ [0] ++ ((countsN (vs.take k)).take ((countsN (vs.take k)).length)).drop (lbW (wordsN (vs.take k)) x)).set (lbW (wordsN (vs.take k)) x) (0 + 1) := by rw [take_snoc hx, counts_new hc_5]; exact (new_set (by omega)).symm
                refine CW.region ?_
                refine RT.ev rfl rfl (Ev.fieldAddr fld51_1 rfl rfl) ?_
                refine RT.ev rfl rfl (Ev.load scal22 rfl (hs_41d.cell (i := 1) (j := 1) rfl rfl)) ?_
                refine RT.ev rfl rfl (Ev.move rfl) ?_
                refine RT.ev rfl rfl (Ev.idxL (E := encN .i64) sl22 rfl rfl (hs_41d.rdL 6 rfl) (List.getElem?_eq_some_iff.1 hcx |>.1)) ?_
                refine RT.ev rfl rfl (Ev.ldL (E := encN .i64) scal3 rfl (hs_41d.rdL 6 rfl) hcx (by decide) rfl) ?_
                refine RT.ev rfl rfl (Ev.addI (b := 1) rfl rfl (by omega)) ?_
                refine RT.ev rfl rfl (Ev.idxL (E := encN .i64) sl22 rfl rfl (hs_41d.rdL 6 rfl) (List.getElem?_eq_some_iff.1 hcx |>.1)) ?_
                refine RT.eff rfl rfl (OpE.setL (a := (0 + 1)) 6 one3 hs_41d rfl rfl rfl rfl (List.getElem?_eq_some_iff.1 hcx |>.1) fun w_27 hs_42 hch_24 => ?_)
                have hs_42d : Sat w [cObj b_1 51 [(Value.slice none 0 0), (Value.slice none 0 0)], cObj b_2 51 [v_5, v_13], cL vw 9 (encTx) (wordsN (vs.take k)), cL vc 3 (encN .i64) (countsN (vs.take k)), cL v_5 9 (encTx) (((wordsN (vs.take k)).take (lbW (wordsN (vs.take k)) x)).drop 0 ++ [x] ++ ((wordsN (vs.take k)).take ((wordsN (vs.take k)).length)).drop (lbW (wordsN (vs.take k)) x)), cL v_7 3 (encN .i64) ([0]), cL v_13 3 (encN .i64) ((((countsN (vs.take k)).take (lbW (wordsN (vs.take k)) x)).drop 0 ++ [0] ++ ((countsN (vs.take k)).take ((countsN (vs.take k)).length)).drop (lbW (wordsN (vs.take k)) x)).set (lbW (wordsN (vs.take k)) x) (0 + 1))] _ := hs_42
                refine RT.nil ?_
                refine CW.region ?_
                refine RT.ev rfl rfl (Ev.addI (b := 1) rfl rfl (by omega)) ?_
                refine RT.ev rfl rfl (Ev.move rfl) ?_
                refine RT.nil ?_
                have hs_43 : Sat w [cObj b_1 51 [(Value.slice none 0 0), (Value.slice none 0 0)], cObj b_2 51 [v_5, v_13], cL vw 9 (encTx) (wordsN (vs.take k)), cL vc 3 (encN .i64) (countsN (vs.take k)), cL v_5 9 (encTx) (wordsN (vs.take (k + 1))), cL v_7 3 (encN .i64) ([0]), cL v_13 3 (encN .i64) ((((countsN (vs.take k)).take (lbW (wordsN (vs.take k)) x)).drop 0 ++ [0] ++ ((countsN (vs.take k)).take ((countsN (vs.take k)).length)).drop (lbW (wordsN (vs.take k)) x)).set (lbW (wordsN (vs.take k)) x) (0 + 1))] w_27 := hs_42d.reL 4 rfl (show ((wordsN (vs.take k)).take (lbW (wordsN (vs.take k)) x)).drop 0 ++ [x] ++ ((wordsN (vs.take k)).take ((wordsN (vs.take k)).length)).drop (lbW (wordsN (vs.take k)) x) = wordsN (vs.take (k + 1)) from hws)
                have hs_44 : Sat w [cObj b_1 51 [(Value.slice none 0 0), (Value.slice none 0 0)], cObj b_2 51 [v_5, v_13], cL vw 9 (encTx) (wordsN (vs.take k)), cL vc 3 (encN .i64) (countsN (vs.take k)), cL v_5 9 (encTx) (wordsN (vs.take (k + 1))), cL v_7 3 (encN .i64) ([0]), cL v_13 3 (encN .i64) (countsN (vs.take (k + 1)))] w_27 := hs_43.reL 6 rfl (show (((countsN (vs.take k)).take (lbW (wordsN (vs.take k)) x)).drop 0 ++ [0] ++ ((countsN (vs.take k)).take ((countsN (vs.take k)).length)).drop (lbW (wordsN (vs.take k)) x)).set (lbW (wordsN (vs.take k)) x) (0 + 1) = countsN (vs.take (k + 1)) from hcs.symm)
                have hs_45 : Sat w [cObj b_1 51 [(Value.slice none 0 0), (Value.slice none 0 0)], cObj b_2 51 [v_5, v_13], cL v_5 9 (encTx) (wordsN (vs.take (k + 1))), cL v_13 3 (encN .i64) (countsN (vs.take (k + 1)))] w_27 := hs_44.sub ((.cons_cons _ (.cons_cons _ (.cons _ (.cons _ (.cons_cons _ (.cons _ (.cons_cons _ .slnil))))))))
                exact ⟨(k + 1, v_5, v_13), ⟨rfl, rfl, rfl, rfl, rfl, rfl, trivial⟩, ⟨hs_45, by omega, by rw [hchk, drop_at hx, chkN, if_neg (by omega), if_neg (by simpa using hc_4)]⟩, (show (vs.length - (k + 1)) < (vs.length - k) from by omega)⟩
            · have hs_20d : Sat w [cObj b_1 51 [(Value.slice none 0 0), (Value.slice none 0 0)], cObj b_2 51 [vw, vc], cL vw 9 (encTx) (wordsN (vs.take k)), cL vc 3 (encN .i64) (countsN (vs.take k)), cL v_2 9 (encTx) ([x])] _ := hs_20
              have hS_16 : Sat w [cObj b_1 51 [(Value.slice none 0 0), (Value.slice none 0 0)], cObj b_2 51 [vw, vc], cL vw 9 (encTx) (wordsN (vs.take k)), cL vc 3 (encN .i64) (countsN (vs.take k))] _ := hs_20d.sub ((.cons_cons _ (.cons_cons _ (.cons_cons _ (.cons_cons _ (.cons _ .slnil))))))
              refine ⟨hS_16, ?_⟩
              have hs_46 : Sat w [cObj b_1 51 [(Value.slice none 0 0), (Value.slice none 0 0)], cObj b_2 51 [vw, vc], cL vw 9 (encTx) (wordsN (vs.take k)), cL vc 3 (encN .i64) (countsN (vs.take k)), cL v_2 9 (encTx) ([x]), cL (Value.slice none 0 0) 9 (encTx) ([])] _ := hs_20d.newNilL 9 (encTx)
              refine RP.eff rfl rfl rfl (OpE.appendL 5 sl45 hs_46 rfl rfl rfl Try.underlying45 (((hs_46.rdL 2 rfl)).sub (a := 0) (b := (lbW (wordsN (vs.take k)) x)) (by omega) (by omega)) (by simp only [List.length_append, List.length_take, List.length_drop, List.length_cons, List.length_nil, List.length_map] at *; omega) (by simp only [List.length_append, List.length_take, List.length_drop, List.length_cons, List.length_nil, List.length_map] at *; omega) fun v_14 w_28 hs_47 hch_25 => ?_)
              have hs_47d : Sat w [cObj b_1 51 [(Value.slice none 0 0), (Value.slice none 0 0)], cObj b_2 51 [vw, vc], cL vw 9 (encTx) (wordsN (vs.take k)), cL vc 3 (encN .i64) (countsN (vs.take k)), cL v_2 9 (encTx) ([x]), cL v_14 9 (encTx) (((wordsN (vs.take k)).take (lbW (wordsN (vs.take k)) x)).drop 0)] _ := hs_47
              have hS_17 : Sat w [cObj b_1 51 [(Value.slice none 0 0), (Value.slice none 0 0)], cObj b_2 51 [vw, vc], cL vw 9 (encTx) (wordsN (vs.take k)), cL vc 3 (encN .i64) (countsN (vs.take k))] _ := hs_47d.sub ((.cons_cons _ (.cons_cons _ (.cons_cons _ (.cons_cons _ (.cons _ (.cons _ .slnil)))))))
              refine ⟨hS_17, ?_⟩
              refine RP.eff rfl rfl rfl (OpE.appendL 5 sl45 hs_47d rfl rfl rfl Try.underlying45 (hs_47d.rdL 4 rfl) (by simp only [List.length_append, List.length_take, List.length_drop, List.length_cons, List.length_nil, List.length_map] at *; omega) (by simp only [List.length_append, List.length_take, List.length_drop, List.length_cons, List.length_nil, List.length_map] at *; omega) fun v_15 w_29 hs_48 hch_26 => ?_)
              have hs_48d : Sat w [cObj b_1 51 [(Value.slice none 0 0), (Value.slice none 0 0)], cObj b_2 51 [vw, vc], cL vw 9 (encTx) (wordsN (vs.take k)), cL vc 3 (encN .i64) (countsN (vs.take k)), cL v_2 9 (encTx) ([x]), cL v_15 9 (encTx) (((wordsN (vs.take k)).take (lbW (wordsN (vs.take k)) x)).drop 0 ++ [x])] _ := hs_48
              have hS_18 : Sat w [cObj b_1 51 [(Value.slice none 0 0), (Value.slice none 0 0)], cObj b_2 51 [vw, vc], cL vw 9 (encTx) (wordsN (vs.take k)), cL vc 3 (encN .i64) (countsN (vs.take k))] _ := hs_48d.sub ((.cons_cons _ (.cons_cons _ (.cons_cons _ (.cons_cons _ (.cons _ (.cons _ .slnil)))))))
              refine ⟨hS_18, ?_⟩
              refine RP.eff rfl rfl rfl (OpE.appendL 5 sl45 hs_48d rfl rfl rfl Try.underlying45 (((hs_48d.rdL 2 rfl)).sub (a := (lbW (wordsN (vs.take k)) x)) (b := (wordsN (vs.take k)).length) (by omega) (by omega)) (by simp only [List.length_append, List.length_take, List.length_drop, List.length_cons, List.length_nil, List.length_map] at *; omega) (by simp only [List.length_append, List.length_take, List.length_drop, List.length_cons, List.length_nil, List.length_map] at *; omega) fun v_16 w_30 hs_49 hch_27 => ?_)
              have hs_49d : Sat w [cObj b_1 51 [(Value.slice none 0 0), (Value.slice none 0 0)], cObj b_2 51 [vw, vc], cL vw 9 (encTx) (wordsN (vs.take k)), cL vc 3 (encN .i64) (countsN (vs.take k)), cL v_2 9 (encTx) ([x]), cL v_16 9 (encTx) (((wordsN (vs.take k)).take (lbW (wordsN (vs.take k)) x)).drop 0 ++ [x] ++ ((wordsN (vs.take k)).take ((wordsN (vs.take k)).length)).drop (lbW (wordsN (vs.take k)) x))] _ := hs_49
              have hS_19 : Sat w [cObj b_1 51 [(Value.slice none 0 0), (Value.slice none 0 0)], cObj b_2 51 [vw, vc], cL vw 9 (encTx) (wordsN (vs.take k)), cL vc 3 (encN .i64) (countsN (vs.take k))] _ := hs_49d.sub ((.cons_cons _ (.cons_cons _ (.cons_cons _ (.cons_cons _ (.cons _ (.cons _ .slnil)))))))
              refine ⟨hS_19, ?_⟩
              refine RP.ev rfl rfl rfl (fun w' hS' => Ev.fieldAddr fld51_0 rfl rfl) hS_19 ?_
              refine RP.bar rfl rfl rfl (OpE.storeObj one45 hs_49d (i := 1) rfl rfl rfl ((hs_49d.rdL 5 rfl).oneCell) rfl fun w_31 hs_50 hch_28 => ?_)
              have hs_50d : Sat w [cObj b_1 51 [(Value.slice none 0 0), (Value.slice none 0 0)], cObj b_2 51 [v_16, vc], cL vw 9 (encTx) (wordsN (vs.take k)), cL vc 3 (encN .i64) (countsN (vs.take k)), cL v_2 9 (encTx) ([x]), cL v_16 9 (encTx) (((wordsN (vs.take k)).take (lbW (wordsN (vs.take k)) x)).drop 0 ++ [x] ++ ((wordsN (vs.take k)).take ((wordsN (vs.take k)).length)).drop (lbW (wordsN (vs.take k)) x))] _ := hs_50
              have hS_20 : Sat w [cObj b_1 51 [(Value.slice none 0 0), (Value.slice none 0 0)], cL vw 9 (encTx) (wordsN (vs.take k)), cL vc 3 (encN .i64) (countsN (vs.take k))] _ := hs_50d.sub ((.cons_cons _ (.cons _ (.cons_cons _ (.cons_cons _ (.cons _ (.cons _ .slnil)))))))
              refine ⟨hS_20, ?_⟩
              refine RP.fin ?_
              refine CW.draw2 (fun w' => Sat w [cObj b_1 51 [(Value.slice none 0 0), (Value.slice none 0 0)], cObj b_2 51 [v_16, vc], cL vw 9 (encTx) (wordsN (vs.take k)), cL vc 3 (encN .i64) (countsN (vs.take k)), cL v_2 9 (encTx) ([x]), cL v_16 9 (encTx) (((wordsN (vs.take k)).take (lbW (wordsN (vs.take k)) x)).drop 0 ++ [x] ++ ((wordsN (vs.take k)).take ((wordsN (vs.take k)).length)).drop (lbW (wordsN (vs.take k)) x))] w') (fun w' => Sat w [cObj b_1 51 [(Value.slice none 0 0), (Value.slice none 0 0)], cL vw 9 (encTx) (wordsN (vs.take k)), cL vc 3 (encN .i64) (countsN (vs.take k)), cL v_2 9 (encTx) ([x]), cL v_16 9 (encTx) (((wordsN (vs.take k)).take (lbW (wordsN (vs.take k)) x)).drop 0 ++ [x] ++ ((wordsN (vs.take k)).take ((wordsN (vs.take k)).length)).drop (lbW (wordsN (vs.take k)) x))] w') 13 (.free 0 (.free 1 (.free 2 (.free 3 (.free 7 (.free 8 (.free 9 (.free 10 (.two 4 5 (.one 5 (.one 6 (.one 11 (.free 12 (.bar 13 .fin))))) (.one 4 (.one 6 (.one 11 (.free 12 (.bar 13 .fin)))))))))))))) (fun w' h => h.sub ((.cons_cons _ (.cons _ (.cons_cons _ (.cons_cons _ (.cons_cons _ (.cons_cons _ .slnil)))))))) mixed (by kernel_rfl) ?_
              have hs_51 := hs_50d.drew
              refine RP.ev rfl rfl rfl (fun w' hS' => Ev.fieldAddr fld51_1 rfl rfl) hs_51 ?_
              refine RP.ev rfl rfl rfl (fun w' hS' => Ev.load scal22 rfl (hS'.cell (i := 1) (j := 1) rfl rfl)) hs_51 ?_
              refine RP.ev rfl rfl rfl (fun w' hS' => Ev.move rfl) hs_51 ?_
              refine RP.ev rfl rfl rfl (fun w' hS' => Ev.sliceL (E := encN .i64) (a := 0) (c := (lbW (wordsN (vs.take k)) x)) sl22 rfl (hS'.rdL 3 rfl) rfl ⟨_, rfl⟩ (by omega) (by omega)) hs_51 ?_
              refine RP.ev rfl rfl rfl (fun w' hS' => Ev.fieldAddr fld51_1 rfl rfl) hs_51 ?_
              refine RP.ev rfl rfl rfl (fun w' hS' => Ev.load scal22 rfl (hS'.cell (i := 1) (j := 1) rfl rfl)) hs_51 ?_
              refine RP.ev rfl rfl rfl (fun w' hS' => Ev.move rfl) hs_51 ?_
              refine RP.ev rfl rfl rfl (fun w' hS' => Ev.sliceL (E := encN .i64) (a := (lbW (wordsN (vs.take k)) x)) (c := (countsN (vs.take k)).length) sl22 rfl (hS'.rdL 3 rfl) ⟨_, rfl⟩ rfl (by omega) (by omega)) hs_51 ?_
              have hs_52 : Sat w [cObj b_1 51 [(Value.slice none 0 0), (Value.slice none 0 0)], cObj b_2 51 [v_16, vc], cL vw 9 (encTx) (wordsN (vs.take k)), cL vc 3 (encN .i64) (countsN (vs.take k)), cL v_2 9 (encTx) ([x]), cL v_16 9 (encTx) (((wordsN (vs.take k)).take (lbW (wordsN (vs.take k)) x)).drop 0 ++ [x] ++ ((wordsN (vs.take k)).take ((wordsN (vs.take k)).length)).drop (lbW (wordsN (vs.take k)) x)), cL (Value.slice none 0 0) 3 (encN .i64) ([])] _ := hs_51.newNilL 3 (encN .i64)
              refine RP.two rfl rfl rfl rfl rfl rfl (OpE.appendL 6 sl22 hs_52 rfl rfl rfl Try.underlying22 (((hs_52.rdL 3 rfl)).sub (a := 0) (b := (lbW (wordsN (vs.take k)) x)) (by omega) (by omega)) (by simp only [List.length_append, List.length_take, List.length_drop, List.length_cons, List.length_nil, List.length_map] at *; omega) (by simp only [List.length_append, List.length_take, List.length_drop, List.length_cons, List.length_nil, List.length_map] at *; omega) fun v_17 w_32 hs_53 hch_29 => ?_) (OpE.lit1 (encN .i64) 0 sl22 rfl hs_51 rfl fun v_18 w_33 hs_54 hch_30 => ?_)
              · have hs_53d : Sat w [cObj b_1 51 [(Value.slice none 0 0), (Value.slice none 0 0)], cObj b_2 51 [v_16, vc], cL vw 9 (encTx) (wordsN (vs.take k)), cL vc 3 (encN .i64) (countsN (vs.take k)), cL v_2 9 (encTx) ([x]), cL v_16 9 (encTx) (((wordsN (vs.take k)).take (lbW (wordsN (vs.take k)) x)).drop 0 ++ [x] ++ ((wordsN (vs.take k)).take ((wordsN (vs.take k)).length)).drop (lbW (wordsN (vs.take k)) x)), cL v_17 3 (encN .i64) (((countsN (vs.take k)).take (lbW (wordsN (vs.take k)) x)).drop 0)] _ := hs_53
                have hS_21 : Sat w [cObj b_1 51 [(Value.slice none 0 0), (Value.slice none 0 0)], cObj b_2 51 [v_16, vc], cL vw 9 (encTx) (wordsN (vs.take k)), cL vc 3 (encN .i64) (countsN (vs.take k)), cL v_2 9 (encTx) ([x]), cL v_16 9 (encTx) (((wordsN (vs.take k)).take (lbW (wordsN (vs.take k)) x)).drop 0 ++ [x] ++ ((wordsN (vs.take k)).take ((wordsN (vs.take k)).length)).drop (lbW (wordsN (vs.take k)) x))] _ := hs_53d.sub ((.cons_cons _ (.cons_cons _ (.cons_cons _ (.cons_cons _ (.cons_cons _ (.cons_cons _ (.cons _ .slnil))))))))
                refine ⟨hS_21, ?_⟩
                refine RP.eff rfl rfl rfl (OpE.lit1 (encN .i64) 0 sl22 rfl hs_53d rfl fun v_19 w_34 hs_55 hch_31 => ?_)
                have hs_55d : Sat w [cObj b_1 51 [(Value.slice none 0 0), (Value.slice none 0 0)], cObj b_2 51 [v_16, vc], cL vw 9 (encTx) (wordsN (vs.take k)), cL vc 3 (encN .i64) (countsN (vs.take k)), cL v_2 9 (encTx) ([x]), cL v_16 9 (encTx) (((wordsN (vs.take k)).take (lbW (wordsN (vs.take k)) x)).drop 0 ++ [x] ++ ((wordsN (vs.take k)).take ((wordsN (vs.take k)).length)).drop (lbW (wordsN (vs.take k)) x)), cL v_17 3 (encN .i64) (((countsN (vs.take k)).take (lbW (wordsN (vs.take k)) x)).drop 0), cL v_19 3 (encN .i64) ([0])] _ := hs_55
                have hS_22 : Sat w [cObj b_1 51 [(Value.slice none 0 0), (Value.slice none 0 0)], cObj b_2 51 [v_16, vc], cL vw 9 (encTx) (wordsN (vs.take k)), cL vc 3 (encN .i64) (countsN (vs.take k)), cL v_2 9 (encTx) ([x]), cL v_16 9 (encTx) (((wordsN (vs.take k)).take (lbW (wordsN (vs.take k)) x)).drop 0 ++ [x] ++ ((wordsN (vs.take k)).take ((wordsN (vs.take k)).length)).drop (lbW (wordsN (vs.take k)) x))] _ := hs_55d.sub ((.cons_cons _ (.cons_cons _ (.cons_cons _ (.cons_cons _ (.cons_cons _ (.cons_cons _ (.cons _ (.cons _ .slnil)))))))))
                refine ⟨hS_22, ?_⟩
                refine RP.eff rfl rfl rfl (OpE.appendL 6 sl22 hs_55d rfl rfl rfl Try.underlying22 (hs_55d.rdL 7 rfl) (by simp only [List.length_append, List.length_take, List.length_drop, List.length_cons, List.length_nil, List.length_map] at *; omega) (by simp only [List.length_append, List.length_take, List.length_drop, List.length_cons, List.length_nil, List.length_map] at *; omega) fun v_20 w_35 hs_56 hch_32 => ?_)
                have hs_56d : Sat w [cObj b_1 51 [(Value.slice none 0 0), (Value.slice none 0 0)], cObj b_2 51 [v_16, vc], cL vw 9 (encTx) (wordsN (vs.take k)), cL vc 3 (encN .i64) (countsN (vs.take k)), cL v_2 9 (encTx) ([x]), cL v_16 9 (encTx) (((wordsN (vs.take k)).take (lbW (wordsN (vs.take k)) x)).drop 0 ++ [x] ++ ((wordsN (vs.take k)).take ((wordsN (vs.take k)).length)).drop (lbW (wordsN (vs.take k)) x)), cL v_20 3 (encN .i64) (((countsN (vs.take k)).take (lbW (wordsN (vs.take k)) x)).drop 0 ++ [0])] _ := hs_56.drop 7
                have hS_23 : Sat w [cObj b_1 51 [(Value.slice none 0 0), (Value.slice none 0 0)], cObj b_2 51 [v_16, vc], cL vw 9 (encTx) (wordsN (vs.take k)), cL vc 3 (encN .i64) (countsN (vs.take k)), cL v_2 9 (encTx) ([x]), cL v_16 9 (encTx) (((wordsN (vs.take k)).take (lbW (wordsN (vs.take k)) x)).drop 0 ++ [x] ++ ((wordsN (vs.take k)).take ((wordsN (vs.take k)).length)).drop (lbW (wordsN (vs.take k)) x))] _ := hs_56d.sub ((.cons_cons _ (.cons_cons _ (.cons_cons _ (.cons_cons _ (.cons_cons _ (.cons_cons _ (.cons _ .slnil))))))))
                refine ⟨hS_23, ?_⟩
                refine RP.eff rfl rfl rfl (OpE.appendL 6 sl22 hs_56d rfl rfl rfl Try.underlying22 (((hs_56d.rdL 3 rfl)).sub (a := (lbW (wordsN (vs.take k)) x)) (b := (countsN (vs.take k)).length) (by omega) (by omega)) (by simp only [List.length_append, List.length_take, List.length_drop, List.length_cons, List.length_nil, List.length_map] at *; omega) (by simp only [List.length_append, List.length_take, List.length_drop, List.length_cons, List.length_nil, List.length_map] at *; omega) fun v_21 w_36 hs_57 hch_33 => ?_)
                have hs_57d : Sat w [cObj b_1 51 [(Value.slice none 0 0), (Value.slice none 0 0)], cObj b_2 51 [v_16, vc], cL vw 9 (encTx) (wordsN (vs.take k)), cL vc 3 (encN .i64) (countsN (vs.take k)), cL v_2 9 (encTx) ([x]), cL v_16 9 (encTx) (((wordsN (vs.take k)).take (lbW (wordsN (vs.take k)) x)).drop 0 ++ [x] ++ ((wordsN (vs.take k)).take ((wordsN (vs.take k)).length)).drop (lbW (wordsN (vs.take k)) x)), cL v_21 3 (encN .i64) (((countsN (vs.take k)).take (lbW (wordsN (vs.take k)) x)).drop 0 ++ [0] ++ ((countsN (vs.take k)).take ((countsN (vs.take k)).length)).drop (lbW (wordsN (vs.take k)) x))] _ := hs_57
                have hS_24 : Sat w [cObj b_1 51 [(Value.slice none 0 0), (Value.slice none 0 0)], cObj b_2 51 [v_16, vc], cL vw 9 (encTx) (wordsN (vs.take k)), cL vc 3 (encN .i64) (countsN (vs.take k)), cL v_2 9 (encTx) ([x]), cL v_16 9 (encTx) (((wordsN (vs.take k)).take (lbW (wordsN (vs.take k)) x)).drop 0 ++ [x] ++ ((wordsN (vs.take k)).take ((wordsN (vs.take k)).length)).drop (lbW (wordsN (vs.take k)) x))] _ := hs_57d.sub ((.cons_cons _ (.cons_cons _ (.cons_cons _ (.cons_cons _ (.cons_cons _ (.cons_cons _ (.cons _ .slnil))))))))
                refine ⟨hS_24, ?_⟩
                refine RP.ev rfl rfl rfl (fun w' hS' => Ev.fieldAddr fld51_1 rfl rfl) hS_24 ?_
                refine RP.bar rfl rfl rfl (OpE.storeObj one22 hs_57d (i := 1) rfl rfl rfl ((hs_57d.rdL 6 rfl).oneCell) rfl fun w_37 hs_58 hch_34 => ?_)
                have hs_58d : Sat w [cObj b_1 51 [(Value.slice none 0 0), (Value.slice none 0 0)], cObj b_2 51 [v_16, v_21], cL vw 9 (encTx) (wordsN (vs.take k)), cL vc 3 (encN .i64) (countsN (vs.take k)), cL v_2 9 (encTx) ([x]), cL v_16 9 (encTx) (((wordsN (vs.take k)).take (lbW (wordsN (vs.take k)) x)).drop 0 ++ [x] ++ ((wordsN (vs.take k)).take ((wordsN (vs.take k)).length)).drop (lbW (wordsN (vs.take k)) x)), cL v_21 3 (encN .i64) (((countsN (vs.take k)).take (lbW (wordsN (vs.take k)) x)).drop 0 ++ [0] ++ ((countsN (vs.take k)).take ((countsN (vs.take k)).length)).drop (lbW (wordsN (vs.take k)) x))] _ := hs_58
                have hS_25 : Sat w [cObj b_1 51 [(Value.slice none 0 0), (Value.slice none 0 0)], cL vw 9 (encTx) (wordsN (vs.take k)), cL vc 3 (encN .i64) (countsN (vs.take k)), cL v_2 9 (encTx) ([x]), cL v_16 9 (encTx) (((wordsN (vs.take k)).take (lbW (wordsN (vs.take k)) x)).drop 0 ++ [x] ++ ((wordsN (vs.take k)).take ((wordsN (vs.take k)).length)).drop (lbW (wordsN (vs.take k)) x))] _ := hs_58d.sub ((.cons_cons _ (.cons _ (.cons_cons _ (.cons_cons _ (.cons_cons _ (.cons_cons _ (.cons _ .slnil))))))))
                refine ⟨hS_25, ?_⟩
                refine RP.fin ?_
                refine CW.weaken [(0, _), (2, _), (5, _), (7, _), (8, _), (9, _), (20, _), (21, _), (22, _), (23, _), (28, _), (32, _), (41, _)] ⟨rfl, rfl, rfl, rfl, rfl, rfl, rfl, rfl, rfl, rfl, rfl, rfl, rfl, trivial⟩ ?_
                have hws : ((wordsN (vs.take k)).take (lbW (wordsN (vs.take k)) x)).drop 0 ++ [x] ++ ((wordsN (vs.take k)).take ((wordsN (vs.take k)).length)).drop (lbW (wordsN (vs.take k)) x) = wordsN (vs.take (k + 1)) := by rw [take_snoc hx, wordsN_snoc, addW, if_neg hc_5, insR]; simp
                have hcx : (((countsN (vs.take k)).take (lbW (wordsN (vs.take k)) x)).drop 0 ++ [0] ++ ((countsN (vs.take k)).take ((countsN (vs.take k)).length)).drop (lbW (wordsN (vs.take k)) x))[lbW (wordsN (vs.take k)) x]? = some 0 := new_get (by omega)
                have hcs : countsN (vs.take (k + 1)) = (((countsN (vs.take k)).take (lbW (wordsN (vs.take k)) x)).drop 0 ++ [0] ++ ((countsN (vs.take k)).take ((countsN (vs.take k)).length)).drop (lbW (wordsN (vs.take k)) x)).set (lbW (wordsN (vs.take k)) x) (0 + 1) := by rw [take_snoc hx, counts_new hc_5]; exact (new_set (by omega)).symm
                refine CW.region ?_
                refine RT.ev rfl rfl (Ev.fieldAddr fld51_1 rfl rfl) ?_
                refine RT.ev rfl rfl (Ev.load scal22 rfl (hs_58d.cell (i := 1) (j := 1) rfl rfl)) ?_
                refine RT.ev rfl rfl (Ev.move rfl) ?_
                refine RT.ev rfl rfl (Ev.idxL (E := encN .i64) sl22 rfl rfl (hs_58d.rdL 6 rfl) (List.getElem?_eq_some_iff.1 hcx |>.1)) ?_
                refine RT.ev rfl rfl (Ev.ldL (E := encN .i64) scal3 rfl (hs_58d.rdL 6 rfl) hcx (by decide) rfl) ?_
                refine RT.ev rfl rfl (Ev.addI (b := 1) rfl rfl (by omega)) ?_
                refine RT.ev rfl rfl (Ev.idxL (E := encN .i64) sl22 rfl rfl (hs_58d.rdL 6 rfl) (List.getElem?_eq_some_iff.1 hcx |>.1)) ?_
                refine RT.eff rfl rfl (OpE.setL (a := (0 + 1)) 6 one3 hs_58d rfl rfl rfl rfl (List.getElem?_eq_some_iff.1 hcx |>.1) fun w_38 hs_59 hch_35 => ?_)
                have hs_59d : Sat w [cObj b_1 51 [(Value.slice none 0 0), (Value.slice none 0 0)], cObj b_2 51 [v_16, v_21], cL vw 9 (encTx) (wordsN (vs.take k)), cL vc 3 (encN .i64) (countsN (vs.take k)), cL v_2 9 (encTx) ([x]), cL v_16 9 (encTx) (((wordsN (vs.take k)).take (lbW (wordsN (vs.take k)) x)).drop 0 ++ [x] ++ ((wordsN (vs.take k)).take ((wordsN (vs.take k)).length)).drop (lbW (wordsN (vs.take k)) x)), cL v_21 3 (encN .i64) ((((countsN (vs.take k)).take (lbW (wordsN (vs.take k)) x)).drop 0 ++ [0] ++ ((countsN (vs.take k)).take ((countsN (vs.take k)).length)).drop (lbW (wordsN (vs.take k)) x)).set (lbW (wordsN (vs.take k)) x) (0 + 1))] _ := hs_59
                refine RT.nil ?_
                refine CW.region ?_
                refine RT.ev rfl rfl (Ev.addI (b := 1) rfl rfl (by omega)) ?_
                refine RT.ev rfl rfl (Ev.move rfl) ?_
                refine RT.nil ?_
                have hs_60 : Sat w [cObj b_1 51 [(Value.slice none 0 0), (Value.slice none 0 0)], cObj b_2 51 [v_16, v_21], cL vw 9 (encTx) (wordsN (vs.take k)), cL vc 3 (encN .i64) (countsN (vs.take k)), cL v_2 9 (encTx) ([x]), cL v_16 9 (encTx) (wordsN (vs.take (k + 1))), cL v_21 3 (encN .i64) ((((countsN (vs.take k)).take (lbW (wordsN (vs.take k)) x)).drop 0 ++ [0] ++ ((countsN (vs.take k)).take ((countsN (vs.take k)).length)).drop (lbW (wordsN (vs.take k)) x)).set (lbW (wordsN (vs.take k)) x) (0 + 1))] w_38 := hs_59d.reL 5 rfl (show ((wordsN (vs.take k)).take (lbW (wordsN (vs.take k)) x)).drop 0 ++ [x] ++ ((wordsN (vs.take k)).take ((wordsN (vs.take k)).length)).drop (lbW (wordsN (vs.take k)) x) = wordsN (vs.take (k + 1)) from hws)
                have hs_61 : Sat w [cObj b_1 51 [(Value.slice none 0 0), (Value.slice none 0 0)], cObj b_2 51 [v_16, v_21], cL vw 9 (encTx) (wordsN (vs.take k)), cL vc 3 (encN .i64) (countsN (vs.take k)), cL v_2 9 (encTx) ([x]), cL v_16 9 (encTx) (wordsN (vs.take (k + 1))), cL v_21 3 (encN .i64) (countsN (vs.take (k + 1)))] w_38 := hs_60.reL 6 rfl (show (((countsN (vs.take k)).take (lbW (wordsN (vs.take k)) x)).drop 0 ++ [0] ++ ((countsN (vs.take k)).take ((countsN (vs.take k)).length)).drop (lbW (wordsN (vs.take k)) x)).set (lbW (wordsN (vs.take k)) x) (0 + 1) = countsN (vs.take (k + 1)) from hcs.symm)
                have hs_62 : Sat w [cObj b_1 51 [(Value.slice none 0 0), (Value.slice none 0 0)], cObj b_2 51 [v_16, v_21], cL v_16 9 (encTx) (wordsN (vs.take (k + 1))), cL v_21 3 (encN .i64) (countsN (vs.take (k + 1)))] w_38 := hs_61.sub ((.cons_cons _ (.cons_cons _ (.cons _ (.cons _ (.cons _ (.cons_cons _ (.cons_cons _ .slnil))))))))
                exact ⟨(k + 1, v_16, v_21), ⟨rfl, rfl, rfl, rfl, rfl, rfl, trivial⟩, ⟨hs_62, by omega, by rw [hchk, drop_at hx, chkN, if_neg (by omega), if_neg (by simpa using hc_4)]⟩, (show (vs.length - (k + 1)) < (vs.length - k) from by omega)⟩
              · have hs_54d : Sat w [cObj b_1 51 [(Value.slice none 0 0), (Value.slice none 0 0)], cObj b_2 51 [v_16, vc], cL vw 9 (encTx) (wordsN (vs.take k)), cL vc 3 (encN .i64) (countsN (vs.take k)), cL v_2 9 (encTx) ([x]), cL v_16 9 (encTx) (((wordsN (vs.take k)).take (lbW (wordsN (vs.take k)) x)).drop 0 ++ [x] ++ ((wordsN (vs.take k)).take ((wordsN (vs.take k)).length)).drop (lbW (wordsN (vs.take k)) x)), cL v_18 3 (encN .i64) ([0])] _ := hs_54
                have hS_26 : Sat w [cObj b_1 51 [(Value.slice none 0 0), (Value.slice none 0 0)], cObj b_2 51 [v_16, vc], cL vw 9 (encTx) (wordsN (vs.take k)), cL vc 3 (encN .i64) (countsN (vs.take k)), cL v_2 9 (encTx) ([x]), cL v_16 9 (encTx) (((wordsN (vs.take k)).take (lbW (wordsN (vs.take k)) x)).drop 0 ++ [x] ++ ((wordsN (vs.take k)).take ((wordsN (vs.take k)).length)).drop (lbW (wordsN (vs.take k)) x))] _ := hs_54d.sub ((.cons_cons _ (.cons_cons _ (.cons_cons _ (.cons_cons _ (.cons_cons _ (.cons_cons _ (.cons _ .slnil))))))))
                refine ⟨hS_26, ?_⟩
                have hs_63 : Sat w [cObj b_1 51 [(Value.slice none 0 0), (Value.slice none 0 0)], cObj b_2 51 [v_16, vc], cL vw 9 (encTx) (wordsN (vs.take k)), cL vc 3 (encN .i64) (countsN (vs.take k)), cL v_2 9 (encTx) ([x]), cL v_16 9 (encTx) (((wordsN (vs.take k)).take (lbW (wordsN (vs.take k)) x)).drop 0 ++ [x] ++ ((wordsN (vs.take k)).take ((wordsN (vs.take k)).length)).drop (lbW (wordsN (vs.take k)) x)), cL v_18 3 (encN .i64) ([0]), cL (Value.slice none 0 0) 3 (encN .i64) ([])] _ := hs_54d.newNilL 3 (encN .i64)
                refine RP.eff rfl rfl rfl (OpE.appendL 7 sl22 hs_63 rfl rfl rfl Try.underlying22 (((hs_63.rdL 3 rfl)).sub (a := 0) (b := (lbW (wordsN (vs.take k)) x)) (by omega) (by omega)) (by simp only [List.length_append, List.length_take, List.length_drop, List.length_cons, List.length_nil, List.length_map] at *; omega) (by simp only [List.length_append, List.length_take, List.length_drop, List.length_cons, List.length_nil, List.length_map] at *; omega) fun v_22 w_39 hs_64 hch_36 => ?_)
                have hs_64d : Sat w [cObj b_1 51 [(Value.slice none 0 0), (Value.slice none 0 0)], cObj b_2 51 [v_16, vc], cL vw 9 (encTx) (wordsN (vs.take k)), cL vc 3 (encN .i64) (countsN (vs.take k)), cL v_2 9 (encTx) ([x]), cL v_16 9 (encTx) (((wordsN (vs.take k)).take (lbW (wordsN (vs.take k)) x)).drop 0 ++ [x] ++ ((wordsN (vs.take k)).take ((wordsN (vs.take k)).length)).drop (lbW (wordsN (vs.take k)) x)), cL v_18 3 (encN .i64) ([0]), cL v_22 3 (encN .i64) (((countsN (vs.take k)).take (lbW (wordsN (vs.take k)) x)).drop 0)] _ := hs_64
                have hS_27 : Sat w [cObj b_1 51 [(Value.slice none 0 0), (Value.slice none 0 0)], cObj b_2 51 [v_16, vc], cL vw 9 (encTx) (wordsN (vs.take k)), cL vc 3 (encN .i64) (countsN (vs.take k)), cL v_2 9 (encTx) ([x]), cL v_16 9 (encTx) (((wordsN (vs.take k)).take (lbW (wordsN (vs.take k)) x)).drop 0 ++ [x] ++ ((wordsN (vs.take k)).take ((wordsN (vs.take k)).length)).drop (lbW (wordsN (vs.take k)) x))] _ := hs_64d.sub ((.cons_cons _ (.cons_cons _ (.cons_cons _ (.cons_cons _ (.cons_cons _ (.cons_cons _ (.cons _ (.cons _ .slnil)))))))))
                refine ⟨hS_27, ?_⟩
                refine RP.eff rfl rfl rfl (OpE.appendL 7 sl22 hs_64d rfl rfl rfl Try.underlying22 (hs_64d.rdL 6 rfl) (by simp only [List.length_append, List.length_take, List.length_drop, List.length_cons, List.length_nil, List.length_map] at *; omega) (by simp only [List.length_append, List.length_take, List.length_drop, List.length_cons, List.length_nil, List.length_map] at *; omega) fun v_23 w_40 hs_65 hch_37 => ?_)
                have hs_65d : Sat w [cObj b_1 51 [(Value.slice none 0 0), (Value.slice none 0 0)], cObj b_2 51 [v_16, vc], cL vw 9 (encTx) (wordsN (vs.take k)), cL vc 3 (encN .i64) (countsN (vs.take k)), cL v_2 9 (encTx) ([x]), cL v_16 9 (encTx) (((wordsN (vs.take k)).take (lbW (wordsN (vs.take k)) x)).drop 0 ++ [x] ++ ((wordsN (vs.take k)).take ((wordsN (vs.take k)).length)).drop (lbW (wordsN (vs.take k)) x)), cL v_18 3 (encN .i64) ([0]), cL v_23 3 (encN .i64) (((countsN (vs.take k)).take (lbW (wordsN (vs.take k)) x)).drop 0 ++ [0])] _ := hs_65
                have hS_28 : Sat w [cObj b_1 51 [(Value.slice none 0 0), (Value.slice none 0 0)], cObj b_2 51 [v_16, vc], cL vw 9 (encTx) (wordsN (vs.take k)), cL vc 3 (encN .i64) (countsN (vs.take k)), cL v_2 9 (encTx) ([x]), cL v_16 9 (encTx) (((wordsN (vs.take k)).take (lbW (wordsN (vs.take k)) x)).drop 0 ++ [x] ++ ((wordsN (vs.take k)).take ((wordsN (vs.take k)).length)).drop (lbW (wordsN (vs.take k)) x))] _ := hs_65d.sub ((.cons_cons _ (.cons_cons _ (.cons_cons _ (.cons_cons _ (.cons_cons _ (.cons_cons _ (.cons _ (.cons _ .slnil)))))))))
                refine ⟨hS_28, ?_⟩
                refine RP.eff rfl rfl rfl (OpE.appendL 7 sl22 hs_65d rfl rfl rfl Try.underlying22 (((hs_65d.rdL 3 rfl)).sub (a := (lbW (wordsN (vs.take k)) x)) (b := (countsN (vs.take k)).length) (by omega) (by omega)) (by simp only [List.length_append, List.length_take, List.length_drop, List.length_cons, List.length_nil, List.length_map] at *; omega) (by simp only [List.length_append, List.length_take, List.length_drop, List.length_cons, List.length_nil, List.length_map] at *; omega) fun v_24 w_41 hs_66 hch_38 => ?_)
                have hs_66d : Sat w [cObj b_1 51 [(Value.slice none 0 0), (Value.slice none 0 0)], cObj b_2 51 [v_16, vc], cL vw 9 (encTx) (wordsN (vs.take k)), cL vc 3 (encN .i64) (countsN (vs.take k)), cL v_2 9 (encTx) ([x]), cL v_16 9 (encTx) (((wordsN (vs.take k)).take (lbW (wordsN (vs.take k)) x)).drop 0 ++ [x] ++ ((wordsN (vs.take k)).take ((wordsN (vs.take k)).length)).drop (lbW (wordsN (vs.take k)) x)), cL v_18 3 (encN .i64) ([0]), cL v_24 3 (encN .i64) (((countsN (vs.take k)).take (lbW (wordsN (vs.take k)) x)).drop 0 ++ [0] ++ ((countsN (vs.take k)).take ((countsN (vs.take k)).length)).drop (lbW (wordsN (vs.take k)) x))] _ := hs_66
                have hS_29 : Sat w [cObj b_1 51 [(Value.slice none 0 0), (Value.slice none 0 0)], cObj b_2 51 [v_16, vc], cL vw 9 (encTx) (wordsN (vs.take k)), cL vc 3 (encN .i64) (countsN (vs.take k)), cL v_2 9 (encTx) ([x]), cL v_16 9 (encTx) (((wordsN (vs.take k)).take (lbW (wordsN (vs.take k)) x)).drop 0 ++ [x] ++ ((wordsN (vs.take k)).take ((wordsN (vs.take k)).length)).drop (lbW (wordsN (vs.take k)) x))] _ := hs_66d.sub ((.cons_cons _ (.cons_cons _ (.cons_cons _ (.cons_cons _ (.cons_cons _ (.cons_cons _ (.cons _ (.cons _ .slnil)))))))))
                refine ⟨hS_29, ?_⟩
                refine RP.ev rfl rfl rfl (fun w' hS' => Ev.fieldAddr fld51_1 rfl rfl) hS_29 ?_
                refine RP.bar rfl rfl rfl (OpE.storeObj one22 hs_66d (i := 1) rfl rfl rfl ((hs_66d.rdL 7 rfl).oneCell) rfl fun w_42 hs_67 hch_39 => ?_)
                have hs_67d : Sat w [cObj b_1 51 [(Value.slice none 0 0), (Value.slice none 0 0)], cObj b_2 51 [v_16, v_24], cL vw 9 (encTx) (wordsN (vs.take k)), cL vc 3 (encN .i64) (countsN (vs.take k)), cL v_2 9 (encTx) ([x]), cL v_16 9 (encTx) (((wordsN (vs.take k)).take (lbW (wordsN (vs.take k)) x)).drop 0 ++ [x] ++ ((wordsN (vs.take k)).take ((wordsN (vs.take k)).length)).drop (lbW (wordsN (vs.take k)) x)), cL v_18 3 (encN .i64) ([0]), cL v_24 3 (encN .i64) (((countsN (vs.take k)).take (lbW (wordsN (vs.take k)) x)).drop 0 ++ [0] ++ ((countsN (vs.take k)).take ((countsN (vs.take k)).length)).drop (lbW (wordsN (vs.take k)) x))] _ := hs_67
                have hS_30 : Sat w [cObj b_1 51 [(Value.slice none 0 0), (Value.slice none 0 0)], cL vw 9 (encTx) (wordsN (vs.take k)), cL vc 3 (encN .i64) (countsN (vs.take k)), cL v_2 9 (encTx) ([x]), cL v_16 9 (encTx) (((wordsN (vs.take k)).take (lbW (wordsN (vs.take k)) x)).drop 0 ++ [x] ++ ((wordsN (vs.take k)).take ((wordsN (vs.take k)).length)).drop (lbW (wordsN (vs.take k)) x))] _ := hs_67d.sub ((.cons_cons _ (.cons _ (.cons_cons _ (.cons_cons _ (.cons_cons _ (.cons_cons _ (.cons _ (.cons _ .slnil)))))))))
                refine ⟨hS_30, ?_⟩
                refine RP.fin ?_
                refine CW.weaken [(0, _), (2, _), (5, _), (7, _), (8, _), (9, _), (20, _), (21, _), (22, _), (23, _), (28, _), (32, _), (41, _)] ⟨rfl, rfl, rfl, rfl, rfl, rfl, rfl, rfl, rfl, rfl, rfl, rfl, rfl, trivial⟩ ?_
                have hws : ((wordsN (vs.take k)).take (lbW (wordsN (vs.take k)) x)).drop 0 ++ [x] ++ ((wordsN (vs.take k)).take ((wordsN (vs.take k)).length)).drop (lbW (wordsN (vs.take k)) x) = wordsN (vs.take (k + 1)) := by rw [take_snoc hx, wordsN_snoc, addW, if_neg hc_5, insR]; simp
                have hcx : (((countsN (vs.take k)).take (lbW (wordsN (vs.take k)) x)).drop 0 ++ [0] ++ ((countsN (vs.take k)).take ((countsN (vs.take k)).length)).drop (lbW (wordsN (vs.take k)) x))[lbW (wordsN (vs.take k)) x]? = some 0 := new_get (by omega)
                have hcs : countsN (vs.take (k + 1)) = (((countsN (vs.take k)).take (lbW (wordsN (vs.take k)) x)).drop 0 ++ [0] ++ ((countsN (vs.take k)).take ((countsN (vs.take k)).length)).drop (lbW (wordsN (vs.take k)) x)).set (lbW (wordsN (vs.take k)) x) (0 + 1) := by rw [take_snoc hx, counts_new hc_5]; exact (new_set (by omega)).symm
                refine CW.region ?_
                refine RT.ev rfl rfl (Ev.fieldAddr fld51_1 rfl rfl) ?_
                refine RT.ev rfl rfl (Ev.load scal22 rfl (hs_67d.cell (i := 1) (j := 1) rfl rfl)) ?_
                refine RT.ev rfl rfl (Ev.move rfl) ?_
                refine RT.ev rfl rfl (Ev.idxL (E := encN .i64) sl22 rfl rfl (hs_67d.rdL 7 rfl) (List.getElem?_eq_some_iff.1 hcx |>.1)) ?_
                refine RT.ev rfl rfl (Ev.ldL (E := encN .i64) scal3 rfl (hs_67d.rdL 7 rfl) hcx (by decide) rfl) ?_
                refine RT.ev rfl rfl (Ev.addI (b := 1) rfl rfl (by omega)) ?_
                refine RT.ev rfl rfl (Ev.idxL (E := encN .i64) sl22 rfl rfl (hs_67d.rdL 7 rfl) (List.getElem?_eq_some_iff.1 hcx |>.1)) ?_
                refine RT.eff rfl rfl (OpE.setL (a := (0 + 1)) 7 one3 hs_67d rfl rfl rfl rfl (List.getElem?_eq_some_iff.1 hcx |>.1) fun w_43 hs_68 hch_40 => ?_)
                have hs_68d : Sat w [cObj b_1 51 [(Value.slice none 0 0), (Value.slice none 0 0)], cObj b_2 51 [v_16, v_24], cL vw 9 (encTx) (wordsN (vs.take k)), cL vc 3 (encN .i64) (countsN (vs.take k)), cL v_2 9 (encTx) ([x]), cL v_16 9 (encTx) (((wordsN (vs.take k)).take (lbW (wordsN (vs.take k)) x)).drop 0 ++ [x] ++ ((wordsN (vs.take k)).take ((wordsN (vs.take k)).length)).drop (lbW (wordsN (vs.take k)) x)), cL v_18 3 (encN .i64) ([0]), cL v_24 3 (encN .i64) ((((countsN (vs.take k)).take (lbW (wordsN (vs.take k)) x)).drop 0 ++ [0] ++ ((countsN (vs.take k)).take ((countsN (vs.take k)).length)).drop (lbW (wordsN (vs.take k)) x)).set (lbW (wordsN (vs.take k)) x) (0 + 1))] _ := hs_68
                refine RT.nil ?_
                refine CW.region ?_
                refine RT.ev rfl rfl (Ev.addI (b := 1) rfl rfl (by omega)) ?_
                refine RT.ev rfl rfl (Ev.move rfl) ?_
                refine RT.nil ?_
                have hs_69 : Sat w [cObj b_1 51 [(Value.slice none 0 0), (Value.slice none 0 0)], cObj b_2 51 [v_16, v_24], cL vw 9 (encTx) (wordsN (vs.take k)), cL vc 3 (encN .i64) (countsN (vs.take k)), cL v_2 9 (encTx) ([x]), cL v_16 9 (encTx) (wordsN (vs.take (k + 1))), cL v_18 3 (encN .i64) ([0]), cL v_24 3 (encN .i64) ((((countsN (vs.take k)).take (lbW (wordsN (vs.take k)) x)).drop 0 ++ [0] ++ ((countsN (vs.take k)).take ((countsN (vs.take k)).length)).drop (lbW (wordsN (vs.take k)) x)).set (lbW (wordsN (vs.take k)) x) (0 + 1))] w_43 := hs_68d.reL 5 rfl (show ((wordsN (vs.take k)).take (lbW (wordsN (vs.take k)) x)).drop 0 ++ [x] ++ ((wordsN (vs.take k)).take ((wordsN (vs.take k)).length)).drop (lbW (wordsN (vs.take k)) x) = wordsN (vs.take (k + 1)) from hws)
                have hs_70 : Sat w [cObj b_1 51 [(Value.slice none 0 0), (Value.slice none 0 0)], cObj b_2 51 [v_16, v_24], cL vw 9 (encTx) (wordsN (vs.take k)), cL vc 3 (encN .i64) (countsN (vs.take k)), cL v_2 9 (encTx) ([x]), cL v_16 9 (encTx) (wordsN (vs.take (k + 1))), cL v_18 3 (encN .i64) ([0]), cL v_24 3 (encN .i64) (countsN (vs.take (k + 1)))] w_43 := hs_69.reL 7 rfl (show (((countsN (vs.take k)).take (lbW (wordsN (vs.take k)) x)).drop 0 ++ [0] ++ ((countsN (vs.take k)).take ((countsN (vs.take k)).length)).drop (lbW (wordsN (vs.take k)) x)).set (lbW (wordsN (vs.take k)) x) (0 + 1) = countsN (vs.take (k + 1)) from hcs.symm)
                have hs_71 : Sat w [cObj b_1 51 [(Value.slice none 0 0), (Value.slice none 0 0)], cObj b_2 51 [v_16, v_24], cL v_16 9 (encTx) (wordsN (vs.take (k + 1))), cL v_24 3 (encN .i64) (countsN (vs.take (k + 1)))] w_43 := hs_70.sub ((.cons_cons _ (.cons_cons _ (.cons _ (.cons _ (.cons _ (.cons_cons _ (.cons _ (.cons_cons _ .slnil)))))))))
                exact ⟨(k + 1, v_16, v_24), ⟨rfl, rfl, rfl, rfl, rfl, rfl, trivial⟩, ⟨hs_71, by omega, by rw [hchk, drop_at hx, chkN, if_neg (by omega), if_neg (by simpa using hc_4)]⟩, (show (vs.length - (k + 1)) < (vs.length - k) from by omega)⟩
          · refine CW.skip ?_
            have hfd := Decidable.not_not.1 hc_5
            obtain ⟨c, hcx, hcs⟩ := counts_found hfd
            have hws : wordsN (vs.take k) = wordsN (vs.take (k + 1)) := by rw [take_snoc hx, wordsN_snoc, addW, if_pos hfd]
            have hcb := counts_le hcx
            refine CW.region ?_
            refine RT.ev rfl rfl (Ev.fieldAddr fld51_1 rfl rfl) ?_
            refine RT.ev rfl rfl (Ev.load scal22 rfl (hs_16.cell (i := 1) (j := 1) rfl rfl)) ?_
            refine RT.ev rfl rfl (Ev.move rfl) ?_
            refine RT.ev rfl rfl (Ev.idxL (E := encN .i64) sl22 rfl rfl (hs_16.rdL 3 rfl) (List.getElem?_eq_some_iff.1 hcx |>.1)) ?_
            refine RT.ev rfl rfl (Ev.ldL (E := encN .i64) scal3 rfl (hs_16.rdL 3 rfl) hcx (by decide) rfl) ?_
            refine RT.ev rfl rfl (Ev.addI (b := 1) rfl rfl (by omega)) ?_
            refine RT.ev rfl rfl (Ev.idxL (E := encN .i64) sl22 rfl rfl (hs_16.rdL 3 rfl) (List.getElem?_eq_some_iff.1 hcx |>.1)) ?_
            refine RT.eff rfl rfl (OpE.setL (a := (c + 1)) 3 one3 hs_16 rfl rfl rfl rfl (List.getElem?_eq_some_iff.1 hcx |>.1) fun w_44 hs_72 hch_41 => ?_)
            have hs_72d : Sat w [cObj b_1 51 [(Value.slice none 0 0), (Value.slice none 0 0)], cObj b_2 51 [vw, vc], cL vw 9 (encTx) (wordsN (vs.take k)), cL vc 3 (encN .i64) ((countsN (vs.take k)).set (lbW (wordsN (vs.take k)) x) (c + 1))] _ := hs_72
            refine RT.nil ?_
            refine CW.region ?_
            refine RT.ev rfl rfl (Ev.addI (b := 1) rfl rfl (by omega)) ?_
            refine RT.ev rfl rfl (Ev.move rfl) ?_
            refine RT.nil ?_
            have hs_73 : Sat w [cObj b_1 51 [(Value.slice none 0 0), (Value.slice none 0 0)], cObj b_2 51 [vw, vc], cL vw 9 (encTx) (wordsN (vs.take (k + 1))), cL vc 3 (encN .i64) ((countsN (vs.take k)).set (lbW (wordsN (vs.take k)) x) (c + 1))] w_44 := hs_72d.reL 2 rfl (show wordsN (vs.take k) = wordsN (vs.take (k + 1)) from hws)
            have hs_74 : Sat w [cObj b_1 51 [(Value.slice none 0 0), (Value.slice none 0 0)], cObj b_2 51 [vw, vc], cL vw 9 (encTx) (wordsN (vs.take (k + 1))), cL vc 3 (encN .i64) (countsN (vs.take (k + 1)))] w_44 := hs_73.reL 3 rfl (show (countsN (vs.take k)).set (lbW (wordsN (vs.take k)) x) (c + 1) = countsN (vs.take (k + 1)) from by rw [take_snoc hx]; exact hcs.symm)
            have hs_75 : Sat w [cObj b_1 51 [(Value.slice none 0 0), (Value.slice none 0 0)], cObj b_2 51 [vw, vc], cL vw 9 (encTx) (wordsN (vs.take (k + 1))), cL vc 3 (encN .i64) (countsN (vs.take (k + 1)))] w_44 := hs_74.sub ((.cons_cons _ (.cons_cons _ (.cons_cons _ (.cons_cons _ .slnil)))))
            exact ⟨(k + 1, vw, vc), ⟨rfl, rfl, rfl, rfl, rfl, rfl, trivial⟩, ⟨hs_75, by omega, by rw [hchk, drop_at hx, chkN, if_neg (by omega), if_neg (by simpa using hc_4)]⟩, (show (vs.length - (k + 1)) < (vs.length - k) from by omega)⟩
    · refine CW.exit0 ?_
      refine CW.seq ?_
      refine CW.seq ?_
      have hkl : k = vs.length := by omega
      have hs_76 : Sat w [cObj b_1 51 [(Value.slice none 0 0), (Value.slice none 0 0)], cObj b_2 51 [vw, vc], cL vw 9 (encTx) (wordsN vs), cL vc 3 (encN .i64) (countsN (vs.take k))] w_5 := hs_10.reL 2 rfl (show wordsN (vs.take k) = wordsN vs from by rw [hkl, List.take_length])
      have hs_77 : Sat w [cObj b_1 51 [(Value.slice none 0 0), (Value.slice none 0 0)], cObj b_2 51 [vw, vc], cL vw 9 (encTx) (wordsN vs), cL vc 3 (encN .i64) (countsN vs)] w_5 := hs_76.reL 3 rfl (show countsN (vs.take k) = countsN vs from by rw [hkl, List.take_length])
      rw [hkl, List.drop_length] at hchk
      have hwl := wordsN_length vs
      have hlen : vs.length ≤ 4096 := by omega
      refine CW.region ?_
      refine RT.ev rfl rfl (Ev.fieldAddr fld51_0 rfl rfl) ?_
      refine RT.ev rfl rfl (Ev.load scal45 rfl (hs_77.cell (i := 1) (j := 0) rfl rfl)) ?_
      refine RT.ev rfl rfl (Ev.lenL Try.underlying45 rfl (hs_77.rdL 2 rfl)) ?_
      refine RT.ev rfl rfl (Ev.gtrN (b := 1024) rfl rfl) ?_
      refine RT.nil ?_
      refine CW.condD rfl (fun hc_6 => ?_) (fun hc_6 => ?_)
      · refine CW.seq ?_
        refine CW.region ?_
        refine RT.ev rfl rfl (Ev.build bt51 rfl trivial rfl) ?_
        refine RT.eff rfl rfl (OpE.storeObjA (vs := [(Value.slice none 0 0), (Value.slice none 0 0)]) agg51 hs_77 (i := 0) rfl rfl rfl rfl (fun v h => by simp only [List.mem_cons, List.not_mem_nil, or_false] at h; rcases h with rfl | rfl; exact rfl; exact rfl) fun w_45 hs_78 hch_42 => ?_)
        have hs_78d : Sat w [cObj b_1 51 [(Value.slice none 0 0), (Value.slice none 0 0)], cObj b_2 51 [vw, vc], cL vw 9 (encTx) (wordsN vs), cL vc 3 (encN .i64) (countsN vs)] _ := hs_78
        refine RT.ev rfl rfl (Ev.assign rfl) ?_
        refine RT.ev rfl rfl (Ev.assign rfl) ?_
        refine RT.nil ?_
        refine CW.ret ?_
        show PostK _ _ _ _ _ _
        refine post3c (vs := [(Value.slice none 0 0), (Value.slice none 0 0)]) rfl rfl rfl rfl agg51 (fun j u hu => hs_78d.cell (i := 0) rfl hu) ?_
        have hs_79 : Sat w [] w_45 := hs_78d.sub ((.cons _ (.cons _ (.cons _ (.cons _ .slnil)))))
        have hq : bldE vs = 2 := by
          unfold bldE
          have h9 : chkN vs = 0 := hchk
          rw [if_neg hc_1, if_neg (by rw [h9]; decide), if_pos (by omega)]
        rw [hq]
        exact .inl ⟨by decide, rfl, hs_79⟩
      · refine CW.skip ?_
        refine CW.seq ?_
        refine CW.region ?_
        refine RT.ev rfl rfl (Ev.assign rfl) ?_
        refine RT.nil ?_
        refine CW.seq ?_
        refine CW.seq ?_
        refine CW.region ?_
        refine RT.ev rfl rfl (Ev.move rfl) ?_
        refine RT.ev rfl rfl (Ev.lenL Try.underlying45 rfl (hv.ext hs_77.ext)) ?_
        refine RT.ev rfl rfl (Ev.move rfl) ?_
        refine RT.nil ?_
        refine CW.block ?_
        have hs_80 : Sat w [cObj b_1 51 [(Value.slice none 0 0), (Value.slice none 0 0)], cObj b_2 51 [vw, vc], cL vw 9 (encTx) (wordsN vs), cL vc 3 (encN .i64) (countsN vs), cL (Value.slice none 0 0) 3 (encN .i64) ([])] _ := hs_77.newNilL 3 (encN .i64)
        have hs_81 : Sat w [cObj b_1 51 [(Value.slice none 0 0), (Value.slice none 0 0)], cObj b_2 51 [vw, vc], cL vw 9 (encTx) (wordsN vs), cL vc 3 (encN .i64) (countsN vs), cL (Value.slice none 0 0) 3 (encN .i64) ((vs.take 0).map (lbW (wordsN vs)))] w_5 := hs_80.reL 4 rfl (show [] = (vs.take 0).map (lbW (wordsN vs)) from rfl)
        refine CW.loop (α := Nat × Value) (fun (j, vn) => [(2, (Value.pointer (some ⟨b_1, 0, none⟩))), (5, (Value.pointer (some ⟨b_2, 0, none⟩))), (10, vn), (82, v), (83, (Value.int .i64 ((vs.length : Nat) : Int))), (84, (Value.int .i64 ((j : Nat) : Int)))]) (fun (j, vn) w' => Sat w [cObj b_1 51 [(Value.slice none 0 0), (Value.slice none 0 0)], cObj b_2 51 [vw, vc], cL vw 9 (encTx) (wordsN vs), cL vc 3 (encN .i64) (countsN vs), cL vn 3 (encN .i64) ((vs.take j).map (lbW (wordsN vs)))] w' ∧ (j ≤ vs.length)) (fun (j, vn) => vs.length - j) (0, (Value.slice none 0 0)) ⟨rfl, rfl, rfl, rfl, rfl, rfl, trivial⟩ ⟨hs_81, Nat.zero_le _⟩ ?_
        rintro ⟨j, vn⟩ w_46 ⟨hs_82, hj⟩
        show CW _ _ _ _ [(2, (Value.pointer (some ⟨b_1, 0, none⟩))), (5, (Value.pointer (some ⟨b_2, 0, none⟩))), (10, vn), (82, v), (83, (Value.int .i64 ((vs.length : Nat) : Int))), (84, (Value.int .i64 ((j : Nat) : Int)))] _
        refine CW.seq ?_
        refine CW.region ?_
        refine RT.ev rfl rfl (Ev.lssN rfl rfl) ?_
        refine RT.nil ?_
        refine CW.seq ?_
        refine CW.condD rfl (fun hc_7 => ?_) (fun hc_7 => ?_)
        · refine CW.skip ?_
          refine CW.seq ?_
          refine CW.block ?_
          refine CW.seq ?_
          obtain ⟨x, hx⟩ : ∃ x, (vs)[j]? = some x := ⟨_, List.getElem?_eq_getElem hc_7⟩
          refine CW.region ?_
          refine RT.ev rfl rfl (Ev.idxL (E := encTx) sl45 rfl rfl (hv.ext hs_82.ext) (by omega)) ?_
          refine RT.ev rfl rfl (Ev.ldL (E := encTx) scal9 rfl (hv.ext hs_82.ext) hx (by decide) rfl) ?_
          refine RT.ev rfl rfl (Ev.assign rfl) ?_
          refine RT.nil ?_
          refine CW.seq ?_
          refine CW.region ?_
          refine RT.ev rfl rfl (Ev.ldObj agg51 rfl hs_82 (i := 1) rfl rfl) ?_
          refine RT.ev rfl rfl (Ev.move rfl) ?_
          refine RT.eff rfl rfl (OpE.call ent38 rfl ((rfind_ok _ _ (wordsN vs) x _ (hs_82.rdL 2 rfl) ((hs_82.rdL 3 rfl).oneCell) (by omega)).mono fun r_3 w_47 h_3 => ?_))
          obtain ⟨rfl, hp_3⟩ := h_3
          have hs_83 : Sat w [cObj b_1 51 [(Value.slice none 0 0), (Value.slice none 0 0)], cObj b_2 51 [vw, vc], cL vw 9 (encTx) (wordsN vs), cL vc 3 (encN .i64) (countsN vs), cL vn 3 (encN .i64) ((vs.take j).map (lbW (wordsN vs)))] _ := hs_82.adds hp_3
          refine RT.ev rfl rfl (Ev.move rfl) ?_
          refine RT.ev rfl rfl (Ev.extract rfl rfl) ?_
          refine RT.ev rfl rfl (Ev.extract rfl rfl) ?_
          refine RT.ev rfl rfl (Ev.assign rfl) ?_
          refine RT.ev rfl rfl (Ev.assign rfl) ?_
          refine RT.nil ?_
          refine CW.region ?_
          refine RT.ev rfl rfl (Ev.move rfl) ?_
          refine RT.ev rfl rfl (Ev.move rfl) ?_
          refine RT.eff rfl rfl (OpE.lit1 (encN .i64) (lbW (wordsN vs) x) sl22 rfl hs_83 rfl fun v_25 w_48 hs_84 hch_43 => ?_)
          have hs_84d : Sat w [cObj b_1 51 [(Value.slice none 0 0), (Value.slice none 0 0)], cObj b_2 51 [vw, vc], cL vw 9 (encTx) (wordsN vs), cL vc 3 (encN .i64) (countsN vs), cL vn 3 (encN .i64) ((vs.take j).map (lbW (wordsN vs))), cL v_25 3 (encN .i64) ([(lbW (wordsN vs) x)])] _ := hs_84
          refine RT.eff rfl rfl (OpE.appendL 4 sl22 hs_84d rfl rfl rfl Try.underlying22 (hs_84d.rdL 5 rfl) (by simp only [List.length_append, List.length_take, List.length_drop, List.length_cons, List.length_nil, List.length_map] at *; omega) (by simp only [List.length_append, List.length_take, List.length_drop, List.length_cons, List.length_nil, List.length_map] at *; omega) fun v_26 w_49 hs_85 hch_44 => ?_)
          have hs_85d : Sat w [cObj b_1 51 [(Value.slice none 0 0), (Value.slice none 0 0)], cObj b_2 51 [vw, vc], cL vw 9 (encTx) (wordsN vs), cL vc 3 (encN .i64) (countsN vs), cL v_26 3 (encN .i64) ((vs.take j).map (lbW (wordsN vs)) ++ [(lbW (wordsN vs) x)])] _ := hs_85.drop 5
          refine RT.ev rfl rfl (Ev.assign rfl) ?_
          refine RT.nil ?_
          refine CW.region ?_
          refine RT.ev rfl rfl (Ev.addI (b := 1) rfl rfl (by omega)) ?_
          refine RT.ev rfl rfl (Ev.move rfl) ?_
          refine RT.nil ?_
          have hs_86 : Sat w [cObj b_1 51 [(Value.slice none 0 0), (Value.slice none 0 0)], cObj b_2 51 [vw, vc], cL vw 9 (encTx) (wordsN vs), cL vc 3 (encN .i64) (countsN vs), cL v_26 3 (encN .i64) ((vs.take (j + 1)).map (lbW (wordsN vs)))] w_49 := hs_85d.reL 4 rfl (show (vs.take j).map (lbW (wordsN vs)) ++ [(lbW (wordsN vs) x)] = (vs.take (j + 1)).map (lbW (wordsN vs)) from by rw [take_snoc hx, List.map_append]; rfl)
          exact ⟨(j + 1, v_26), ⟨rfl, rfl, rfl, rfl, rfl, rfl, trivial⟩, ⟨hs_86, by omega⟩, (show (vs.length - (j + 1)) < (vs.length - j) from by omega)⟩
        · refine CW.exit0 ?_
          refine CW.seq ?_
          refine CW.region ?_
          refine RT.ev rfl rfl (Ev.ldObj agg51 rfl hs_82 (i := 1) rfl rfl) ?_
          refine RT.ev rfl rfl (Ev.move rfl) ?_
          refine RT.eff rfl rfl (OpE.storeObjA (vs := [vw, vc]) agg51 hs_82 (i := 0) rfl rfl rfl rfl (fun v h => by simp only [List.mem_cons, List.not_mem_nil, or_false] at h; rcases h with rfl | rfl; exact (hs_82.rdL 2 rfl).oneCell; exact (hs_82.rdL 3 rfl).oneCell) fun w_50 hs_87 hch_45 => ?_)
          have hs_87d : Sat w [cObj b_1 51 [vw, vc], cObj b_2 51 [vw, vc], cL vw 9 (encTx) (wordsN vs), cL vc 3 (encN .i64) (countsN vs), cL vn 3 (encN .i64) ((vs.take j).map (lbW (wordsN vs)))] _ := hs_87
          refine RT.ev rfl rfl (Ev.assign rfl) ?_
          refine RT.ev rfl rfl (Ev.assign rfl) ?_
          refine RT.nil ?_
          refine CW.ret ?_
          show PostK _ _ _ _ _ _
          refine post3c (vs := [vw, vc]) rfl rfl rfl rfl agg51 (fun j u hu => hs_87d.cell (i := 0) rfl hu) ?_
          have hs_88 : Sat w [cObj b_1 51 [vw, vc], cObj b_2 51 [vw, vc], cL vw 9 (encTx) (wordsN vs), cL vc 3 (encN .i64) (countsN vs), cL vn 3 (encN .i64) (vs.map (lbW (wordsN vs)))] w_50 := hs_87d.reL 4 rfl (show (vs.take j).map (lbW (wordsN vs)) = vs.map (lbW (wordsN vs)) from by rw [show j = vs.length by omega, List.take_length])
          have hs_89 : Sat w [cL vw 9 (encTx) (wordsN vs), cL vc 3 (encN .i64) (countsN vs), cL vn 3 (encN .i64) (vs.map (lbW (wordsN vs)))] w_50 := hs_88.sub ((.cons _ (.cons _ (.cons_cons _ (.cons_cons _ (.cons_cons _ .slnil))))))
          have hq : bldE vs = 0 := by
            unfold bldE
            have h9 : chkN vs = 0 := hchk
            rw [if_neg hc_1, if_neg (by rw [h9]; decide), if_neg (by omega)]
          exact .inr ⟨hq, _, _, _, rfl, hs_89⟩

end Go.Proofs.Ytfhbflhnelbkfaa
