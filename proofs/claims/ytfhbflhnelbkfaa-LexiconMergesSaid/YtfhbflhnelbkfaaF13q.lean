/- The walks of the functions of F13q, printed by our own program (kwgen.py) out of our descriptions (base.py). -/
import Derived.Test.YtfhbflhnelbkfaaF13l
import Derived.Test.YtfhbflhnelbkfaaKg
import Derived.Test.YtfhbflhnelbkfaaTab
namespace Go.Proofs.Ytfhbflhnelbkfaa
open Go.RowKit Go.Kw
set_option maxRecDepth 100000
set_option linter.unusedVariables false
set_option linter.unusedSimpArgs false
theorem pre_ext {x s : ByteArray} : ((s.size ≤ x.size) ∧ (x.extract 0 s.size = s)) ↔ preB s x = true := by
  unfold preB
  rw [List.isPrefixOf_iff_prefix, List.prefix_iff_eq_take, bsz]
  constructor
  · rintro ⟨_, h⟩
    have := congrArg (fun b : ByteArray => b.data.toList) h
    simp only [ext_list, List.drop_zero, Nat.sub_zero] at this
    exact this.symm
  · intro h
    have h1 := congrArg List.length h
    rw [List.length_take, bsz, bsz] at h1
    exact ⟨by omega, bytes_ext (by rw [ext_list, List.drop_zero, Nat.sub_zero]; exact h.symm)⟩
theorem suf_ext {x s : ByteArray} : ((s.size ≤ x.size) ∧ (x.extract (x.size - s.size) x.size = s)) ↔ sufB s x = true := by
  unfold sufB
  rw [List.isSuffixOf_iff_suffix, List.suffix_iff_eq_drop, bsz, bsz]
  have e : ∀ h : s.size ≤ x.size, (x.extract (x.size - s.size) x.size).data.toList = x.data.toList.drop (x.size - s.size) := fun h => by
    rw [ext_list, List.take_of_length_le (by rw [List.length_drop, bsz]; omega)]
  constructor
  · rintro ⟨hl, h⟩
    have := congrArg (fun b : ByteArray => b.data.toList) h
    simp only [e hl] at this
    exact this.symm
  · intro h
    have h1 := congrArg List.length h
    rw [List.length_drop, bsz, bsz] at h1
    exact ⟨by omega, bytes_ext (by rw [e (by omega)]; exact h.symm)⟩

theorem rprefix_ok (vw vc : Value) (W : List ByteArray) (s : ByteArray) (w : World) (hv : RdL w vw encTx W) (hvc : vc.oneCell' = true) (hasc : Asc W) (hn : W.length ≤ 1000000) :
    CallsV Try.prog 42 [(Value.agg #[vw, vc]), (Value.string s)] w fun r w' => r = .tuple #[.int .i64 (((prefN W s).1 : Nat) : Int), .int .i64 (((prefN W s).2 : Nat) : Int)] ∧ Sat w [] w' := by
  have hs0 := Sat.start w
  refine callsV_of Try.func42 rfl rfl ?_
  refine CW.seq ?_
  refine CW.region ?_
  refine RT.eff rfl rfl (OpE.box hs0 rfl fun b_1 w_1 hs_1 hch_1 hb_1 => ?_)
  have hs_1d : Sat w [cObj b_1 51 [vw, vc]] _ := hs_1
  refine RT.ev rfl rfl (Ev.assign rfl) ?_
  refine RT.ev rfl rfl (Ev.assign rfl) ?_
  refine RT.nil ?_
  refine CW.seq ?_
  refine CW.region ?_
  refine RT.ev rfl rfl (Ev.assign rfl) ?_
  refine RT.ev rfl rfl (Ev.assign rfl) ?_
  refine RT.nil ?_
  refine CW.seq ?_
  refine CW.seq ?_
  have hpl := preN_le W s
  refine CW.region ?_
  refine RT.ev rfl rfl (Ev.fieldAddr fld51_0 rfl rfl) ?_
  refine RT.ev rfl rfl (Ev.load scal45 rfl (hs_1d.cell (i := 0) (j := 0) rfl rfl)) ?_
  refine RT.ev rfl rfl (Ev.lenL Try.underlying45 rfl (hv.ext hs_1d.ext)) ?_
  refine RT.ev rfl rfl (Ev.move rfl) ?_
  refine RT.nil ?_
  refine CW.block ?_
  refine CW.loop (α := Nat × Nat × Nat) (fun (k, a, b) => [(1, (Value.string s)), (2, (Value.pointer (some ⟨b_1, 0, none⟩))), (6, (Value.int .i64 ((a : Nat) : Int))), (7, (Value.int .i64 ((b : Nat) : Int))), (11, vw), (12, (Value.int .i64 ((W.length : Nat) : Int))), (13, (Value.int .i64 ((k : Nat) : Int)))]) (fun (k, a, b) w' => Sat w [cObj b_1 51 [vw, vc]] w' ∧ (k ≤ W.length) ∧ (((k ≤ lbW W s ∨ preN W s = 0) ∧ a = 0 ∧ b = 0) ∨ (lbW W s < k ∧ 0 < preN W s ∧ a = lbW W s ∧ b = min k (lbW W s + preN W s)))) (fun (k, a, b) => W.length - k) (0, 0, 0) ⟨rfl, rfl, rfl, rfl, rfl, rfl, rfl, trivial⟩ ⟨hs_1d, Nat.zero_le _, .inl ⟨.inl (Nat.zero_le _), rfl, rfl⟩⟩ ?_
  rintro ⟨k, a, b⟩ w_2 ⟨hs_2, hk, hab⟩
  show CW _ _ _ _ [(1, (Value.string s)), (2, (Value.pointer (some ⟨b_1, 0, none⟩))), (6, (Value.int .i64 ((a : Nat) : Int))), (7, (Value.int .i64 ((b : Nat) : Int))), (11, vw), (12, (Value.int .i64 ((W.length : Nat) : Int))), (13, (Value.int .i64 ((k : Nat) : Int)))] _
  refine CW.seq ?_
  refine CW.region ?_
  refine RT.ev rfl rfl (Ev.lssN rfl rfl) ?_
  refine RT.nil ?_
  refine CW.seq ?_
  refine CW.condD rfl (fun hc_1 => ?_) (fun hc_1 => ?_)
  · refine CW.skip ?_
    refine CW.seq ?_
    refine CW.block ?_
    refine CW.seq ?_
    obtain ⟨x, hx⟩ : ∃ x, (W)[k]? = some x := ⟨_, List.getElem?_eq_getElem hc_1⟩
    refine CW.region ?_
    refine RT.ev rfl rfl (Ev.move rfl) ?_
    refine RT.ev rfl rfl (Ev.idxL (E := encTx) sl45 rfl rfl (hv.ext hs_2.ext) (by omega)) ?_
    refine RT.ev rfl rfl (Ev.ldL (E := encTx) scal9 rfl (hv.ext hs_2.ext) hx (by decide) rfl) ?_
    refine RT.ev rfl rfl (Ev.assign rfl) ?_
    refine RT.ev rfl rfl (Ev.assign rfl) ?_
    refine RT.nil ?_
    refine CW.seq ?_
    refine CW.mid (fun L' w' => Weak [(1, (Value.string s)), (2, (Value.pointer (some ⟨b_1, 0, none⟩))), (6, (Value.int .i64 ((a : Nat) : Int))), (7, (Value.int .i64 ((b : Nat) : Int))), (8, (Value.int .i64 ((k : Nat) : Int))), (9, (Value.string x)), (11, vw), (12, (Value.int .i64 ((W.length : Nat) : Int))), (13, (Value.int .i64 ((k : Nat) : Int))), (14, (Value.bool (decide (k < W.length)))), (30, (Value.bool (decide ((s.size ≤ x.size) ∧ ((x.extract 0 s.size) = s)))))] L' ∧ Sat w [cObj b_1 51 [vw, vc]] w') ?_ ?_
    · refine CW.region ?_
      refine RT.ev rfl rfl (Ev.move rfl) ?_
      refine RT.ev rfl rfl (Ev.lenStr Try.underlying9 rfl) ?_
      refine RT.ev rfl rfl (Ev.move rfl) ?_
      refine RT.ev rfl rfl (Ev.lenStr Try.underlying9 rfl) ?_
      refine RT.ev rfl rfl (Ev.geqN rfl rfl) ?_
      refine RT.ev rfl rfl (Ev.move rfl) ?_
      by_cases hg_1 : s.size ≤ x.size
      · refine RT.yes rfl rfl rfl (decide_eq_true hg_1) ?_
        refine RT.ev rfl rfl (Ev.move rfl) ?_
        refine RT.yes rfl rfl rfl (decide_eq_true hg_1) ?_
        refine RT.ev rfl rfl (Ev.move rfl) ?_
        refine RT.yes rfl rfl rfl (decide_eq_true hg_1) ?_
        refine RT.ev rfl rfl (Ev.lenStr Try.underlying9 rfl) ?_
        refine RT.yes rfl rfl rfl (decide_eq_true hg_1) ?_
        refine RT.ev rfl rfl (Ev.sliceStr (l := 0) (h := s.size) Try.underlying9 rfl rfl ⟨_, rfl⟩ (by omega) (by omega)) ?_
        refine RT.yes rfl rfl rfl (decide_eq_true hg_1) ?_
        refine RT.ev rfl rfl (Ev.move rfl) ?_
        refine RT.yes rfl rfl rfl (decide_eq_true hg_1) ?_
        refine RT.ev rfl rfl (Ev.strEql rfl rfl) ?_
        refine RT.ev rfl rfl (Ev.pickY rfl (decide_eq_true hg_1) rfl) ?_
        refine RT.nil ?_
        exact ⟨⟨rfl, rfl, rfl, rfl, rfl, rfl, rfl, rfl, rfl, rfl, congrArg some (congrArg Value.bool (by simp [hg_1])), trivial⟩, hs_2⟩
      · refine RT.no rfl rfl rfl (decide_eq_false hg_1) rfl ?_
        refine RT.no rfl rfl rfl (decide_eq_false hg_1) rfl ?_
        refine RT.no rfl rfl rfl (decide_eq_false hg_1) rfl ?_
        refine RT.no rfl rfl rfl (decide_eq_false hg_1) rfl ?_
        refine RT.no rfl rfl rfl (decide_eq_false hg_1) rfl ?_
        refine RT.no rfl rfl rfl (decide_eq_false hg_1) rfl ?_
        refine RT.ev rfl rfl (Ev.pickN rfl (decide_eq_false hg_1) rfl) ?_
        refine RT.nil ?_
        exact ⟨⟨rfl, rfl, rfl, rfl, rfl, rfl, rfl, rfl, rfl, rfl, congrArg some (congrArg Value.bool (by simp [hg_1])), trivial⟩, hs_2⟩
    · rintro L' w_3 ⟨hw_1, hs_3⟩
      refine CW.weaken _ hw_1 ?_
      refine CW.condD rfl (fun hc_2 => ?_) (fun hc_2 => ?_)
      · refine CW.seq ?_
        refine CW.seq ?_
        have hm := (pre_iff hasc s hx).1 (pre_ext.1 hc_2)
        refine CW.region ?_
        refine RT.ev rfl rfl (Ev.move rfl) ?_
        refine RT.ev rfl rfl (Ev.eqlN (b := 0) rfl rfl) ?_
        refine RT.nil ?_
        refine CW.condD rfl (fun hc_3 => ?_) (fun hc_3 => ?_)
        · refine CW.region ?_
          refine RT.ev rfl rfl (Ev.move rfl) ?_
          refine RT.ev rfl rfl (Ev.assign rfl) ?_
          refine RT.nil ?_
          refine CW.region ?_
          refine RT.ev rfl rfl (Ev.move rfl) ?_
          refine RT.ev rfl rfl (Ev.addI (b := 1) rfl rfl (by omega)) ?_
          refine RT.ev rfl rfl (Ev.assign rfl) ?_
          refine RT.nil ?_
          refine CW.region ?_
          refine RT.ev rfl rfl (Ev.addI (b := 1) rfl rfl (by omega)) ?_
          refine RT.ev rfl rfl (Ev.move rfl) ?_
          refine RT.nil ?_
          exact ⟨(k + 1, k, (k + 1)), ⟨rfl, rfl, rfl, rfl, rfl, rfl, rfl, trivial⟩, ⟨hs_3, by omega, by omega⟩, (show (W.length - (k + 1)) < (W.length - k) from by omega)⟩
        · refine CW.skip ?_
          refine CW.region ?_
          refine RT.ev rfl rfl (Ev.move rfl) ?_
          refine RT.ev rfl rfl (Ev.addI (b := 1) rfl rfl (by omega)) ?_
          refine RT.ev rfl rfl (Ev.assign rfl) ?_
          refine RT.nil ?_
          refine CW.region ?_
          refine RT.ev rfl rfl (Ev.addI (b := 1) rfl rfl (by omega)) ?_
          refine RT.ev rfl rfl (Ev.move rfl) ?_
          refine RT.nil ?_
          exact ⟨(k + 1, a, (k + 1)), ⟨rfl, rfl, rfl, rfl, rfl, rfl, rfl, trivial⟩, ⟨hs_3, by omega, by omega⟩, (show (W.length - (k + 1)) < (W.length - k) from by omega)⟩
      · refine CW.skip ?_
        refine CW.region ?_
        refine RT.ev rfl rfl (Ev.addI (b := 1) rfl rfl (by omega)) ?_
        refine RT.ev rfl rfl (Ev.move rfl) ?_
        refine RT.nil ?_
        exact ⟨(k + 1, a, b), ⟨rfl, rfl, rfl, rfl, rfl, rfl, rfl, trivial⟩, ⟨hs_3, by omega, by have hm : ¬ _ := fun h9 => hc_2 (pre_ext.2 ((pre_iff hasc s hx).2 h9)); omega⟩, (show (W.length - (k + 1)) < (W.length - k) from by omega)⟩
  · refine CW.exit0 ?_
    refine CW.seq ?_
    refine CW.region ?_
    refine RT.ev rfl rfl (Ev.move rfl) ?_
    refine RT.ev rfl rfl (Ev.move rfl) ?_
    refine RT.ev rfl rfl (Ev.assign rfl) ?_
    refine RT.ev rfl rfl (Ev.assign rfl) ?_
    refine RT.nil ?_
    refine CW.ret ?_
    show PostK _ _ _ _ _ _
    refine post2 rfl rfl rfl ?_
    have hs_4 : Sat w [] w_2 := hs_2.sub ((.cons _ .slnil))
    have hq : prefN W s = (a, b) := by
      unfold prefN
      rcases Nat.eq_zero_or_pos (preN W s) with h9 | h9
      · rw [if_pos h9, show a = 0 by omega, show b = 0 by omega]
      · rw [if_neg (by omega), show a = lbW W s by omega, show b = lbW W s + preN W s by omega]
    rw [hq]
    exact ⟨rfl, hs_4⟩

theorem rbyrev_ok (vw vc : Value) (W : List ByteArray) (w : World) (hv : RdL w vw encTx W) (hvc : vc.oneCell' = true) (hsz : ∀ x ∈ W, x.size ≤ 1000000) (hn : W.length ≤ 1000000) :
    CallsV Try.prog 54 [(Value.agg #[vw, vc])] w fun r w' => Sat w [cL r 3 (encN .i64) (ordN W)] w' := by
  have hs0 := Sat.start w
  refine callsV_of Try.func54 rfl rfl ?_
  refine CW.seq ?_
  refine CW.region ?_
  refine RT.eff rfl rfl (OpE.box hs0 rfl fun b_1 w_1 hs_1 hch_1 hb_1 => ?_)
  have hs_1d : Sat w [cObj b_1 51 [vw, vc]] _ := hs_1
  refine RT.ev rfl rfl (Ev.assign rfl) ?_
  refine RT.nil ?_
  refine CW.seq ?_
  refine CW.region ?_
  refine RT.ev rfl rfl (Ev.assign rfl) ?_
  refine RT.nil ?_
  refine CW.seq ?_
  refine CW.seq ?_
  have hs_2 : Sat w [cObj b_1 51 [vw, vc], cL (Value.slice none 0 0) 3 (encN .i64) ([])] _ := hs_1d.newNilL 3 (encN .i64)
  refine CW.region ?_
  refine RT.ev rfl rfl (Ev.fieldAddr fld51_0 rfl rfl) ?_
  refine RT.ev rfl rfl (Ev.load scal45 rfl (hs_2.cell (i := 0) (j := 0) rfl rfl)) ?_
  refine RT.ev rfl rfl (Ev.lenL Try.underlying45 rfl (hv.ext hs_2.ext)) ?_
  refine RT.ev rfl rfl (Ev.move rfl) ?_
  refine RT.nil ?_
  refine CW.block ?_
  have hs_3 : Sat w [cObj b_1 51 [vw, vc], cL (Value.slice none 0 0) 3 (encN .i64) (ordF W 0)] w_1 := hs_2.reL 1 rfl (show [] = ordF W 0 from rfl)
  refine CW.loop (α := Nat × Value) (fun (k, v) => [(1, (Value.pointer (some ⟨b_1, 0, none⟩))), (3, v), (8, vw), (9, (Value.int .i64 ((W.length : Nat) : Int))), (10, (Value.int .i64 ((k : Nat) : Int)))]) (fun (k, v) w' => Sat w [cObj b_1 51 [vw, vc], cL v 3 (encN .i64) (ordF W k)] w' ∧ (k ≤ W.length)) (fun (k, v) => W.length - k) (0, (Value.slice none 0 0)) ⟨rfl, rfl, rfl, rfl, rfl, trivial⟩ ⟨hs_3, Nat.zero_le _⟩ ?_
  rintro ⟨k, v⟩ w_2 ⟨hs_4, hk⟩
  show CW _ _ _ _ [(1, (Value.pointer (some ⟨b_1, 0, none⟩))), (3, v), (8, vw), (9, (Value.int .i64 ((W.length : Nat) : Int))), (10, (Value.int .i64 ((k : Nat) : Int)))] _
  refine CW.seq ?_
  refine CW.region ?_
  refine RT.ev rfl rfl (Ev.lssN rfl rfl) ?_
  refine RT.nil ?_
  refine CW.seq ?_
  refine CW.condD rfl (fun hc_1 => ?_) (fun hc_1 => ?_)
  · refine CW.skip ?_
    refine CW.seq ?_
    refine CW.block ?_
    refine CW.seq ?_
    obtain ⟨x, hx⟩ : ∃ x, (W)[k]? = some x := ⟨_, List.getElem?_eq_getElem hc_1⟩
    have hol : (ordF W k).length = k := by rw [(ordF_perm W k).length_eq, List.length_range]
    refine CW.region ?_
    refine RT.ev rfl rfl (Ev.move rfl) ?_
    refine RT.ev rfl rfl (Ev.idxL (E := encTx) sl45 rfl rfl (hv.ext hs_4.ext) (by omega)) ?_
    refine RT.ev rfl rfl (Ev.ldL (E := encTx) scal9 rfl (hv.ext hs_4.ext) hx (by decide) rfl) ?_
    refine RT.ev rfl rfl (Ev.assign rfl) ?_
    refine RT.ev rfl rfl (Ev.assign rfl) ?_
    refine RT.nil ?_
    refine CW.seq ?_
    refine CW.region ?_
    refine RT.ev rfl rfl (Ev.assign rfl) ?_
    refine RT.nil ?_
    refine CW.seq ?_
    refine CW.block ?_
    refine CW.loop (α := Nat) (fun j => [(1, (Value.pointer (some ⟨b_1, 0, none⟩))), (3, v), (4, (Value.int .i64 ((k : Nat) : Int))), (5, (Value.string x)), (6, (Value.int .i64 ((j : Nat) : Int))), (8, vw), (9, (Value.int .i64 ((W.length : Nat) : Int))), (10, (Value.int .i64 ((k : Nat) : Int)))]) (fun j w' => Sat w [cObj b_1 51 [vw, vc], cL v 3 (encN .i64) (ordF W k)] w' ∧ (j ≤ (ordF W k).length) ∧ (∀ q y, q < j → (ordF W k)[q]? = some y → RLt W y k)) (fun j => (ordF W k).length - j) 0 ⟨rfl, rfl, rfl, rfl, rfl, rfl, rfl, rfl, trivial⟩ ⟨hs_4, Nat.zero_le _, fun q y hq => absurd hq (Nat.not_lt_zero q)⟩ ?_
    rintro j w_3 ⟨hs_5, hj, hlt⟩
    show CW _ _ _ _ [(1, (Value.pointer (some ⟨b_1, 0, none⟩))), (3, v), (4, (Value.int .i64 ((k : Nat) : Int))), (5, (Value.string x)), (6, (Value.int .i64 ((j : Nat) : Int))), (8, vw), (9, (Value.int .i64 ((W.length : Nat) : Int))), (10, (Value.int .i64 ((k : Nat) : Int)))] _
    refine CW.seq ?_
    refine CW.seq ?_
    rcases Decidable.em (j < (ordF W k).length) with hjl | hjl
    · obtain ⟨y, hy⟩ : ∃ y, (ordF W k)[j]? = some y := ⟨_, List.getElem?_eq_getElem hjl⟩
      have hyk : y < k := List.mem_range.1 ((ordF_perm W k).mem_iff.1 (List.mem_of_getElem? hy))
      obtain ⟨z, hz⟩ : ∃ z, W[y]? = some z := ⟨_, List.getElem?_eq_getElem (by omega)⟩
      have hzs := hsz z (List.mem_of_getElem? hz)
      have hxs := hsz x (List.mem_of_getElem? hx)
      refine CW.draw (fun w' => Sat w [cObj b_1 51 [vw, vc], cL v 3 (encN .i64) (ordF W k)] w') (.free 0 (.free 1 (.free 2 (.free 3 (.free 4 (.free 5 (.free 6 (.free 7 (.free 8 (.free 9 (.free 10 (.free 11 (.free 12 (.free 14 (.one 13 (.one 15 (.free 16 (.free 17 .fin)))))))))))))))))) mixed (by kernel_rfl) ?_
      have hs_6 := hs_5.drew
      refine RP.ev rfl rfl rfl (fun w' hS' => Ev.move rfl) hs_6 ?_
      refine RP.ev rfl rfl rfl (fun w' hS' => Ev.move rfl) hs_6 ?_
      refine RP.ev rfl rfl rfl (fun w' hS' => Ev.lenL Try.underlying22 rfl (hS'.rdL 1 rfl)) hs_6 ?_
      refine RP.ev rfl rfl rfl (fun w' hS' => Ev.lssN rfl rfl) hs_6 ?_
      refine RP.ev rfl rfl rfl (fun w' hS' => Ev.move rfl) hs_6 ?_
      refine RP.evYes rfl rfl rfl rfl (decide_eq_true hjl) rfl (fun w' hS' => Ev.fieldAddr fld51_0 rfl rfl) hs_6 ?_
      refine RP.evYes rfl rfl rfl rfl (decide_eq_true hjl) rfl (fun w' hS' => Ev.load scal45 rfl (hS'.cell (i := 0) (j := 0) rfl rfl)) hs_6 ?_
      refine RP.evYes rfl rfl rfl rfl (decide_eq_true hjl) rfl (fun w' hS' => Ev.move rfl) hs_6 ?_
      refine RP.evYes rfl rfl rfl rfl (decide_eq_true hjl) rfl (fun w' hS' => Ev.move rfl) hs_6 ?_
      refine RP.evYes rfl rfl rfl rfl (decide_eq_true hjl) rfl (fun w' hS' => Ev.idxL (E := encN .i64) sl22 rfl rfl (hS'.rdL 1 rfl) (by omega)) hs_6 ?_
      refine RP.evYes rfl rfl rfl rfl (decide_eq_true hjl) rfl (fun w' hS' => Ev.ldL (E := encN .i64) scal3 rfl (hS'.rdL 1 rfl) hy (by decide) rfl) hs_6 ?_
      refine RP.evYes rfl rfl rfl rfl (decide_eq_true hjl) rfl (fun w' hS' => Ev.idxL (E := encTx) sl45 rfl rfl (hv.ext hS'.ext) (by omega)) hs_6 ?_
      refine RP.evYes rfl rfl rfl rfl (decide_eq_true hjl) rfl (fun w' hS' => Ev.ldL (E := encTx) scal9 rfl (hv.ext hS'.ext) hz (by decide) rfl) hs_6 ?_
      refine RP.evYes rfl rfl rfl rfl (decide_eq_true hjl) rfl (fun w' hS' => Ev.move rfl) hs_6 ?_
      refine RP.effYes rfl rfl rfl rfl (decide_eq_true hjl) rfl (OpE.call ent92 rfl ((rreverse_ok z _ (by omega)).mono fun r_1 w_4 h_1 => ?_))
      obtain ⟨rfl, hp_1⟩ := h_1
      have hs_7 : Sat w [cObj b_1 51 [vw, vc], cL v 3 (encN .i64) (ordF W k)] _ := hs_6.adds hp_1
      have hS_1 : Sat w [cObj b_1 51 [vw, vc], cL v 3 (encN .i64) (ordF W k)] _ := hs_7.sub ((.cons_cons _ (.cons_cons _ .slnil)))
      refine ⟨hS_1, ?_⟩
      refine RP.effYes rfl rfl rfl rfl (decide_eq_true hjl) rfl (OpE.call ent92 rfl ((rreverse_ok x _ (by omega)).mono fun r_2 w_5 h_2 => ?_))
      obtain ⟨rfl, hp_2⟩ := h_2
      have hs_8 : Sat w [cObj b_1 51 [vw, vc], cL v 3 (encN .i64) (ordF W k)] _ := hs_7.adds hp_2
      have hS_2 : Sat w [cObj b_1 51 [vw, vc], cL v 3 (encN .i64) (ordF W k)] _ := hs_8.sub ((.cons_cons _ (.cons_cons _ .slnil)))
      refine ⟨hS_2, ?_⟩
      refine RP.evYes rfl rfl rfl rfl (decide_eq_true hjl) rfl (fun w' hS' => Ev.strLss rfl rfl) hS_2 ?_
      refine RP.ev rfl rfl rfl (fun w' hS' => Ev.pickY rfl (decide_eq_true hjl) rfl) hS_2 ?_
      refine RP.fin ?_
      refine CW.condD rfl (fun hc_2 => ?_) (fun hc_2 => ?_)
      · refine CW.skip ?_
        refine CW.block ?_
        refine CW.region ?_
        refine RT.ev rfl rfl (Ev.move rfl) ?_
        refine RT.ev rfl rfl (Ev.addI (b := 1) rfl rfl (by omega)) ?_
        refine RT.ev rfl rfl (Ev.assign rfl) ?_
        refine RT.nil ?_
        exact ⟨j + 1, ⟨rfl, rfl, rfl, rfl, rfl, rfl, rfl, rfl, trivial⟩, ⟨hs_8, by omega, fun q y9 hq hy9 => by
      rcases Nat.lt_or_ge q j with h9 | h9
      · exact hlt q y9 h9 hy9
      · rw [show q = j by omega, hy] at hy9; cases hy9; unfold RLt rvN; rw [getD_of hz, getD_of hx]; exact hc_2⟩, (show ((ordF W k).length - (j + 1)) < ((ordF W k).length - j) from by omega)⟩
      · refine CW.exit0 ?_
        have hlb : lbR (RLt W) (ordF W k) k = j := lbR_eq hj hlt (fun q hq => by rw [hy] at hq; cases hq; unfold RLt rvN; rw [getD_of hz, getD_of hx]; exact hc_2)
        have hok_ : ordF W (k + 1) = ((ordF W k).take j).drop 0 ++ [k] ++ ((ordF W k).take (ordF W k).length).drop j := by rw [ordF_succ, insR, hlb]; simp
        refine CW.draw (fun w' => Sat w [cObj b_1 51 [vw, vc], cL v 3 (encN .i64) (ordF W k)] w') (.free 0 (.free 1 (.free 2 (.free 4 (.free 7 (.free 8 (.free 9 (.two 3 5 (.one 5 (.one 6 (.one 10 (.free 11 .fin)))) (.one 3 (.one 6 (.one 10 (.free 11 .fin)))))))))))) mixed (by kernel_rfl) ?_
        have hs_9 := hs_8.drew
        refine RP.ev rfl rfl rfl (fun w' hS' => Ev.move rfl) hs_9 ?_
        refine RP.ev rfl rfl rfl (fun w' hS' => Ev.move rfl) hs_9 ?_
        refine RP.ev rfl rfl rfl (fun w' hS' => Ev.sliceL (E := encN .i64) (a := 0) (c := j) sl22 rfl (hS'.rdL 1 rfl) rfl ⟨_, rfl⟩ (by omega) (by omega)) hs_9 ?_
        refine RP.ev rfl rfl rfl (fun w' hS' => Ev.move rfl) hs_9 ?_
        refine RP.ev rfl rfl rfl (fun w' hS' => Ev.move rfl) hs_9 ?_
        refine RP.ev rfl rfl rfl (fun w' hS' => Ev.move rfl) hs_9 ?_
        refine RP.ev rfl rfl rfl (fun w' hS' => Ev.sliceL (E := encN .i64) (a := j) (c := (ordF W k).length) sl22 rfl (hS'.rdL 1 rfl) ⟨_, rfl⟩ rfl (by omega) (by omega)) hs_9 ?_
        have hs_10 : Sat w [cObj b_1 51 [vw, vc], cL v 3 (encN .i64) (ordF W k), cL (Value.slice none 0 0) 3 (encN .i64) ([])] _ := hs_9.newNilL 3 (encN .i64)
        refine RP.two rfl rfl rfl rfl rfl rfl (OpE.appendL 2 sl22 hs_10 rfl rfl rfl Try.underlying22 (((hs_10.rdL 1 rfl)).sub (a := 0) (b := j) (by omega) (by omega)) (by simp only [List.length_append, List.length_take, List.length_drop, List.length_cons, List.length_nil, List.length_map] at *; omega) (by simp only [List.length_append, List.length_take, List.length_drop, List.length_cons, List.length_nil, List.length_map] at *; omega) fun v_1 w_6 hs_11 hch_2 => ?_) (OpE.lit1 (encN .i64) k sl22 rfl hs_9 rfl fun v_2 w_7 hs_12 hch_3 => ?_)
        · have hs_11d : Sat w [cObj b_1 51 [vw, vc], cL v 3 (encN .i64) (ordF W k), cL v_1 3 (encN .i64) (((ordF W k).take j).drop 0)] _ := hs_11
          have hS_3 : Sat w [cObj b_1 51 [vw, vc], cL v 3 (encN .i64) (ordF W k)] _ := hs_11d.sub ((.cons_cons _ (.cons_cons _ (.cons _ .slnil))))
          refine ⟨hS_3, ?_⟩
          refine RP.eff rfl rfl rfl (OpE.lit1 (encN .i64) k sl22 rfl hs_11d rfl fun v_3 w_8 hs_13 hch_4 => ?_)
          have hs_13d : Sat w [cObj b_1 51 [vw, vc], cL v 3 (encN .i64) (ordF W k), cL v_1 3 (encN .i64) (((ordF W k).take j).drop 0), cL v_3 3 (encN .i64) ([k])] _ := hs_13
          have hS_4 : Sat w [cObj b_1 51 [vw, vc], cL v 3 (encN .i64) (ordF W k)] _ := hs_13d.sub ((.cons_cons _ (.cons_cons _ (.cons _ (.cons _ .slnil)))))
          refine ⟨hS_4, ?_⟩
          refine RP.eff rfl rfl rfl (OpE.appendL 2 sl22 hs_13d rfl rfl rfl Try.underlying22 (hs_13d.rdL 3 rfl) (by simp only [List.length_append, List.length_take, List.length_drop, List.length_cons, List.length_nil, List.length_map] at *; omega) (by simp only [List.length_append, List.length_take, List.length_drop, List.length_cons, List.length_nil, List.length_map] at *; omega) fun v_4 w_9 hs_14 hch_5 => ?_)
          have hs_14d : Sat w [cObj b_1 51 [vw, vc], cL v 3 (encN .i64) (ordF W k), cL v_4 3 (encN .i64) (((ordF W k).take j).drop 0 ++ [k])] _ := hs_14.drop 3
          have hS_5 : Sat w [cObj b_1 51 [vw, vc], cL v 3 (encN .i64) (ordF W k)] _ := hs_14d.sub ((.cons_cons _ (.cons_cons _ (.cons _ .slnil))))
          refine ⟨hS_5, ?_⟩
          refine RP.eff rfl rfl rfl (OpE.appendL 2 sl22 hs_14d rfl rfl rfl Try.underlying22 (((hs_14d.rdL 1 rfl)).sub (a := j) (b := (ordF W k).length) (by omega) (by omega)) (by simp only [List.length_append, List.length_take, List.length_drop, List.length_cons, List.length_nil, List.length_map] at *; omega) (by simp only [List.length_append, List.length_take, List.length_drop, List.length_cons, List.length_nil, List.length_map] at *; omega) fun v_5 w_10 hs_15 hch_6 => ?_)
          have hs_15d : Sat w [cObj b_1 51 [vw, vc], cL v 3 (encN .i64) (ordF W k), cL v_5 3 (encN .i64) (((ordF W k).take j).drop 0 ++ [k] ++ ((ordF W k).take ((ordF W k).length)).drop j)] _ := hs_15
          have hS_6 : Sat w [cObj b_1 51 [vw, vc], cL v 3 (encN .i64) (ordF W k)] _ := hs_15d.sub ((.cons_cons _ (.cons_cons _ (.cons _ .slnil))))
          refine ⟨hS_6, ?_⟩
          refine RP.ev rfl rfl rfl (fun w' hS' => Ev.assign rfl) hS_6 ?_
          refine RP.fin ?_
          refine CW.region ?_
          refine RT.ev rfl rfl (Ev.addI (b := 1) rfl rfl (by omega)) ?_
          refine RT.ev rfl rfl (Ev.move rfl) ?_
          refine RT.nil ?_
          have hs_16 : Sat w [cObj b_1 51 [vw, vc], cL v 3 (encN .i64) (ordF W k), cL v_5 3 (encN .i64) (ordF W (k + 1))] w_10 := hs_15d.reL 2 rfl (show ((ordF W k).take j).drop 0 ++ [k] ++ ((ordF W k).take ((ordF W k).length)).drop j = ordF W (k + 1) from hok_.symm)
          have hs_17 : Sat w [cObj b_1 51 [vw, vc], cL v_5 3 (encN .i64) (ordF W (k + 1))] w_10 := hs_16.sub ((.cons_cons _ (.cons _ (.cons_cons _ .slnil))))
          exact ⟨(k + 1, v_5), ⟨rfl, rfl, rfl, rfl, rfl, trivial⟩, ⟨hs_17, by omega⟩, (show (W.length - (k + 1)) < (W.length - k) from by omega)⟩
        · have hs_12d : Sat w [cObj b_1 51 [vw, vc], cL v 3 (encN .i64) (ordF W k), cL v_2 3 (encN .i64) ([k])] _ := hs_12
          have hS_7 : Sat w [cObj b_1 51 [vw, vc], cL v 3 (encN .i64) (ordF W k)] _ := hs_12d.sub ((.cons_cons _ (.cons_cons _ (.cons _ .slnil))))
          refine ⟨hS_7, ?_⟩
          have hs_18 : Sat w [cObj b_1 51 [vw, vc], cL v 3 (encN .i64) (ordF W k), cL v_2 3 (encN .i64) ([k]), cL (Value.slice none 0 0) 3 (encN .i64) ([])] _ := hs_12d.newNilL 3 (encN .i64)
          refine RP.eff rfl rfl rfl (OpE.appendL 3 sl22 hs_18 rfl rfl rfl Try.underlying22 (((hs_18.rdL 1 rfl)).sub (a := 0) (b := j) (by omega) (by omega)) (by simp only [List.length_append, List.length_take, List.length_drop, List.length_cons, List.length_nil, List.length_map] at *; omega) (by simp only [List.length_append, List.length_take, List.length_drop, List.length_cons, List.length_nil, List.length_map] at *; omega) fun v_6 w_11 hs_19 hch_7 => ?_)
          have hs_19d : Sat w [cObj b_1 51 [vw, vc], cL v 3 (encN .i64) (ordF W k), cL v_2 3 (encN .i64) ([k]), cL v_6 3 (encN .i64) (((ordF W k).take j).drop 0)] _ := hs_19
          have hS_8 : Sat w [cObj b_1 51 [vw, vc], cL v 3 (encN .i64) (ordF W k)] _ := hs_19d.sub ((.cons_cons _ (.cons_cons _ (.cons _ (.cons _ .slnil)))))
          refine ⟨hS_8, ?_⟩
          refine RP.eff rfl rfl rfl (OpE.appendL 3 sl22 hs_19d rfl rfl rfl Try.underlying22 (hs_19d.rdL 2 rfl) (by simp only [List.length_append, List.length_take, List.length_drop, List.length_cons, List.length_nil, List.length_map] at *; omega) (by simp only [List.length_append, List.length_take, List.length_drop, List.length_cons, List.length_nil, List.length_map] at *; omega) fun v_7 w_12 hs_20 hch_8 => ?_)
          have hs_20d : Sat w [cObj b_1 51 [vw, vc], cL v 3 (encN .i64) (ordF W k), cL v_2 3 (encN .i64) ([k]), cL v_7 3 (encN .i64) (((ordF W k).take j).drop 0 ++ [k])] _ := hs_20
          have hS_9 : Sat w [cObj b_1 51 [vw, vc], cL v 3 (encN .i64) (ordF W k)] _ := hs_20d.sub ((.cons_cons _ (.cons_cons _ (.cons _ (.cons _ .slnil)))))
          refine ⟨hS_9, ?_⟩
          refine RP.eff rfl rfl rfl (OpE.appendL 3 sl22 hs_20d rfl rfl rfl Try.underlying22 (((hs_20d.rdL 1 rfl)).sub (a := j) (b := (ordF W k).length) (by omega) (by omega)) (by simp only [List.length_append, List.length_take, List.length_drop, List.length_cons, List.length_nil, List.length_map] at *; omega) (by simp only [List.length_append, List.length_take, List.length_drop, List.length_cons, List.length_nil, List.length_map] at *; omega) fun v_8 w_13 hs_21 hch_9 => ?_)
          have hs_21d : Sat w [cObj b_1 51 [vw, vc], cL v 3 (encN .i64) (ordF W k), cL v_2 3 (encN .i64) ([k]), cL v_8 3 (encN .i64) (((ordF W k).take j).drop 0 ++ [k] ++ ((ordF W k).take ((ordF W k).length)).drop j)] _ := hs_21
          have hS_10 : Sat w [cObj b_1 51 [vw, vc], cL v 3 (encN .i64) (ordF W k)] _ := hs_21d.sub ((.cons_cons _ (.cons_cons _ (.cons _ (.cons _ .slnil)))))
          refine ⟨hS_10, ?_⟩
          refine RP.ev rfl rfl rfl (fun w' hS' => Ev.assign rfl) hS_10 ?_
          refine RP.fin ?_
          refine CW.region ?_
          refine RT.ev rfl rfl (Ev.addI (b := 1) rfl rfl (by omega)) ?_
          refine RT.ev rfl rfl (Ev.move rfl) ?_
          refine RT.nil ?_
          have hs_22 : Sat w [cObj b_1 51 [vw, vc], cL v 3 (encN .i64) (ordF W k), cL v_2 3 (encN .i64) ([k]), cL v_8 3 (encN .i64) (ordF W (k + 1))] w_13 := hs_21d.reL 3 rfl (show ((ordF W k).take j).drop 0 ++ [k] ++ ((ordF W k).take ((ordF W k).length)).drop j = ordF W (k + 1) from hok_.symm)
          have hs_23 : Sat w [cObj b_1 51 [vw, vc], cL v_8 3 (encN .i64) (ordF W (k + 1))] w_13 := hs_22.sub ((.cons_cons _ (.cons _ (.cons _ (.cons_cons _ .slnil)))))
          exact ⟨(k + 1, v_8), ⟨rfl, rfl, rfl, rfl, rfl, trivial⟩, ⟨hs_23, by omega⟩, (show (W.length - (k + 1)) < (W.length - k) from by omega)⟩
    · refine CW.draw (fun w' => Sat w [cObj b_1 51 [vw, vc], cL v 3 (encN .i64) (ordF W k)] w') (.free 0 (.free 1 (.free 2 (.free 3 (.free 4 (.free 5 (.free 6 (.free 7 (.free 8 (.free 9 (.free 10 (.free 11 (.free 12 (.free 14 (.one 13 (.one 15 (.free 16 (.free 17 .fin)))))))))))))))))) mixed (by kernel_rfl) ?_
      have hs_24 := hs_5.drew
      refine RP.ev rfl rfl rfl (fun w' hS' => Ev.move rfl) hs_24 ?_
      refine RP.ev rfl rfl rfl (fun w' hS' => Ev.move rfl) hs_24 ?_
      refine RP.ev rfl rfl rfl (fun w' hS' => Ev.lenL Try.underlying22 rfl (hS'.rdL 1 rfl)) hs_24 ?_
      refine RP.ev rfl rfl rfl (fun w' hS' => Ev.lssN rfl rfl) hs_24 ?_
      refine RP.ev rfl rfl rfl (fun w' hS' => Ev.move rfl) hs_24 ?_
      refine RP.no rfl rfl rfl rfl (decide_eq_false hjl) rfl hs_24 ?_
      refine RP.no rfl rfl rfl rfl (decide_eq_false hjl) rfl hs_24 ?_
      refine RP.no rfl rfl rfl rfl (decide_eq_false hjl) rfl hs_24 ?_
      refine RP.no rfl rfl rfl rfl (decide_eq_false hjl) rfl hs_24 ?_
      refine RP.no rfl rfl rfl rfl (decide_eq_false hjl) rfl hs_24 ?_
      refine RP.no rfl rfl rfl rfl (decide_eq_false hjl) rfl hs_24 ?_
      refine RP.no rfl rfl rfl rfl (decide_eq_false hjl) rfl hs_24 ?_
      refine RP.no rfl rfl rfl rfl (decide_eq_false hjl) rfl hs_24 ?_
      refine RP.no rfl rfl rfl rfl (decide_eq_false hjl) rfl hs_24 ?_
      refine RP.effNo rfl rfl rfl rfl (decide_eq_false hjl) rfl hs_24 ?_
      refine RP.effNo rfl rfl rfl rfl (decide_eq_false hjl) rfl hs_24 ?_
      refine RP.no rfl rfl rfl rfl (decide_eq_false hjl) rfl hs_24 ?_
      refine RP.ev rfl rfl rfl (fun w' hS' => Ev.pickN rfl (decide_eq_false hjl) rfl) hs_24 ?_
      refine RP.fin ?_
      refine CW.condF rfl (rfl) ?_
      refine CW.exit0 ?_
      have hlb : lbR (RLt W) (ordF W k) k = j := lbR_eq hj hlt (fun q hq => by rw [List.getElem?_eq_none (by omega)] at hq; cases hq)
      have hok_ : ordF W (k + 1) = ((ordF W k).take j).drop 0 ++ [k] ++ ((ordF W k).take (ordF W k).length).drop j := by rw [ordF_succ, insR, hlb]; simp
      refine CW.draw (fun w' => Sat w [cObj b_1 51 [vw, vc], cL v 3 (encN .i64) (ordF W k)] w') (.free 0 (.free 1 (.free 2 (.free 4 (.free 7 (.free 8 (.free 9 (.two 3 5 (.one 5 (.one 6 (.one 10 (.free 11 .fin)))) (.one 3 (.one 6 (.one 10 (.free 11 .fin)))))))))))) mixed (by kernel_rfl) ?_
      have hs_25 := hs_24.drew
      refine RP.ev rfl rfl rfl (fun w' hS' => Ev.move rfl) hs_25 ?_
      refine RP.ev rfl rfl rfl (fun w' hS' => Ev.move rfl) hs_25 ?_
      refine RP.ev rfl rfl rfl (fun w' hS' => Ev.sliceL (E := encN .i64) (a := 0) (c := j) sl22 rfl (hS'.rdL 1 rfl) rfl ⟨_, rfl⟩ (by omega) (by omega)) hs_25 ?_
      refine RP.ev rfl rfl rfl (fun w' hS' => Ev.move rfl) hs_25 ?_
      refine RP.ev rfl rfl rfl (fun w' hS' => Ev.move rfl) hs_25 ?_
      refine RP.ev rfl rfl rfl (fun w' hS' => Ev.move rfl) hs_25 ?_
      refine RP.ev rfl rfl rfl (fun w' hS' => Ev.sliceL (E := encN .i64) (a := j) (c := (ordF W k).length) sl22 rfl (hS'.rdL 1 rfl) ⟨_, rfl⟩ rfl (by omega) (by omega)) hs_25 ?_
      have hs_26 : Sat w [cObj b_1 51 [vw, vc], cL v 3 (encN .i64) (ordF W k), cL (Value.slice none 0 0) 3 (encN .i64) ([])] _ := hs_25.newNilL 3 (encN .i64)
      refine RP.two rfl rfl rfl rfl rfl rfl (OpE.appendL 2 sl22 hs_26 rfl rfl rfl Try.underlying22 (((hs_26.rdL 1 rfl)).sub (a := 0) (b := j) (by omega) (by omega)) (by simp only [List.length_append, List.length_take, List.length_drop, List.length_cons, List.length_nil, List.length_map] at *; omega) (by simp only [List.length_append, List.length_take, List.length_drop, List.length_cons, List.length_nil, List.length_map] at *; omega) fun v_9 w_14 hs_27 hch_10 => ?_) (OpE.lit1 (encN .i64) k sl22 rfl hs_25 rfl fun v_10 w_15 hs_28 hch_11 => ?_)
      · have hs_27d : Sat w [cObj b_1 51 [vw, vc], cL v 3 (encN .i64) (ordF W k), cL v_9 3 (encN .i64) (((ordF W k).take j).drop 0)] _ := hs_27
        have hS_11 : Sat w [cObj b_1 51 [vw, vc], cL v 3 (encN .i64) (ordF W k)] _ := hs_27d.sub ((.cons_cons _ (.cons_cons _ (.cons _ .slnil))))
        refine ⟨hS_11, ?_⟩
        refine RP.eff rfl rfl rfl (OpE.lit1 (encN .i64) k sl22 rfl hs_27d rfl fun v_11 w_16 hs_29 hch_12 => ?_)
        have hs_29d : Sat w [cObj b_1 51 [vw, vc], cL v 3 (encN .i64) (ordF W k), cL v_9 3 (encN .i64) (((ordF W k).take j).drop 0), cL v_11 3 (encN .i64) ([k])] _ := hs_29
        have hS_12 : Sat w [cObj b_1 51 [vw, vc], cL v 3 (encN .i64) (ordF W k)] _ := hs_29d.sub ((.cons_cons _ (.cons_cons _ (.cons _ (.cons _ .slnil)))))
        refine ⟨hS_12, ?_⟩
        refine RP.eff rfl rfl rfl (OpE.appendL 2 sl22 hs_29d rfl rfl rfl Try.underlying22 (hs_29d.rdL 3 rfl) (by simp only [List.length_append, List.length_take, List.length_drop, List.length_cons, List.length_nil, List.length_map] at *; omega) (by simp only [List.length_append, List.length_take, List.length_drop, List.length_cons, List.length_nil, List.length_map] at *; omega) fun v_12 w_17 hs_30 hch_13 => ?_)
        have hs_30d : Sat w [cObj b_1 51 [vw, vc], cL v 3 (encN .i64) (ordF W k), cL v_12 3 (encN .i64) (((ordF W k).take j).drop 0 ++ [k])] _ := hs_30.drop 3
        have hS_13 : Sat w [cObj b_1 51 [vw, vc], cL v 3 (encN .i64) (ordF W k)] _ := hs_30d.sub ((.cons_cons _ (.cons_cons _ (.cons _ .slnil))))
        refine ⟨hS_13, ?_⟩
        refine RP.eff rfl rfl rfl (OpE.appendL 2 sl22 hs_30d rfl rfl rfl Try.underlying22 (((hs_30d.rdL 1 rfl)).sub (a := j) (b := (ordF W k).length) (by omega) (by omega)) (by simp only [List.length_append, List.length_take, List.length_drop, List.length_cons, List.length_nil, List.length_map] at *; omega) (by simp only [List.length_append, List.length_take, List.length_drop, List.length_cons, List.length_nil, List.length_map] at *; omega) fun v_13 w_18 hs_31 hch_14 => ?_)
        have hs_31d : Sat w [cObj b_1 51 [vw, vc], cL v 3 (encN .i64) (ordF W k), cL v_13 3 (encN .i64) (((ordF W k).take j).drop 0 ++ [k] ++ ((ordF W k).take ((ordF W k).length)).drop j)] _ := hs_31
        have hS_14 : Sat w [cObj b_1 51 [vw, vc], cL v 3 (encN .i64) (ordF W k)] _ := hs_31d.sub ((.cons_cons _ (.cons_cons _ (.cons _ .slnil))))
        refine ⟨hS_14, ?_⟩
        refine RP.ev rfl rfl rfl (fun w' hS' => Ev.assign rfl) hS_14 ?_
        refine RP.fin ?_
        refine CW.region ?_
        refine RT.ev rfl rfl (Ev.addI (b := 1) rfl rfl (by omega)) ?_
        refine RT.ev rfl rfl (Ev.move rfl) ?_
        refine RT.nil ?_
        have hs_32 : Sat w [cObj b_1 51 [vw, vc], cL v 3 (encN .i64) (ordF W k), cL v_13 3 (encN .i64) (ordF W (k + 1))] w_18 := hs_31d.reL 2 rfl (show ((ordF W k).take j).drop 0 ++ [k] ++ ((ordF W k).take ((ordF W k).length)).drop j = ordF W (k + 1) from hok_.symm)
        have hs_33 : Sat w [cObj b_1 51 [vw, vc], cL v_13 3 (encN .i64) (ordF W (k + 1))] w_18 := hs_32.sub ((.cons_cons _ (.cons _ (.cons_cons _ .slnil))))
        exact ⟨(k + 1, v_13), ⟨rfl, rfl, rfl, rfl, rfl, trivial⟩, ⟨hs_33, by omega⟩, (show (W.length - (k + 1)) < (W.length - k) from by omega)⟩
      · have hs_28d : Sat w [cObj b_1 51 [vw, vc], cL v 3 (encN .i64) (ordF W k), cL v_10 3 (encN .i64) ([k])] _ := hs_28
        have hS_15 : Sat w [cObj b_1 51 [vw, vc], cL v 3 (encN .i64) (ordF W k)] _ := hs_28d.sub ((.cons_cons _ (.cons_cons _ (.cons _ .slnil))))
        refine ⟨hS_15, ?_⟩
        have hs_34 : Sat w [cObj b_1 51 [vw, vc], cL v 3 (encN .i64) (ordF W k), cL v_10 3 (encN .i64) ([k]), cL (Value.slice none 0 0) 3 (encN .i64) ([])] _ := hs_28d.newNilL 3 (encN .i64)
        refine RP.eff rfl rfl rfl (OpE.appendL 3 sl22 hs_34 rfl rfl rfl Try.underlying22 (((hs_34.rdL 1 rfl)).sub (a := 0) (b := j) (by omega) (by omega)) (by simp only [List.length_append, List.length_take, List.length_drop, List.length_cons, List.length_nil, List.length_map] at *; omega) (by simp only [List.length_append, List.length_take, List.length_drop, List.length_cons, List.length_nil, List.length_map] at *; omega) fun v_14 w_19 hs_35 hch_15 => ?_)
        have hs_35d : Sat w [cObj b_1 51 [vw, vc], cL v 3 (encN .i64) (ordF W k), cL v_10 3 (encN .i64) ([k]), cL v_14 3 (encN .i64) (((ordF W k).take j).drop 0)] _ := hs_35
        have hS_16 : Sat w [cObj b_1 51 [vw, vc], cL v 3 (encN .i64) (ordF W k)] _ := hs_35d.sub ((.cons_cons _ (.cons_cons _ (.cons _ (.cons _ .slnil)))))
        refine ⟨hS_16, ?_⟩
        refine RP.eff rfl rfl rfl (OpE.appendL 3 sl22 hs_35d rfl rfl rfl Try.underlying22 (hs_35d.rdL 2 rfl) (by simp only [List.length_append, List.length_take, List.length_drop, List.length_cons, List.length_nil, List.length_map] at *; omega) (by simp only [List.length_append, List.length_take, List.length_drop, List.length_cons, List.length_nil, List.length_map] at *; omega) fun v_15 w_20 hs_36 hch_16 => ?_)
        have hs_36d : Sat w [cObj b_1 51 [vw, vc], cL v 3 (encN .i64) (ordF W k), cL v_10 3 (encN .i64) ([k]), cL v_15 3 (encN .i64) (((ordF W k).take j).drop 0 ++ [k])] _ := hs_36
        have hS_17 : Sat w [cObj b_1 51 [vw, vc], cL v 3 (encN .i64) (ordF W k)] _ := hs_36d.sub ((.cons_cons _ (.cons_cons _ (.cons _ (.cons _ .slnil)))))
        refine ⟨hS_17, ?_⟩
        refine RP.eff rfl rfl rfl (OpE.appendL 3 sl22 hs_36d rfl rfl rfl Try.underlying22 (((hs_36d.rdL 1 rfl)).sub (a := j) (b := (ordF W k).length) (by omega) (by omega)) (by simp only [List.length_append, List.length_take, List.length_drop, List.length_cons, List.length_nil, List.length_map] at *; omega) (by simp only [List.length_append, List.length_take, List.length_drop, List.length_cons, List.length_nil, List.length_map] at *; omega) fun v_16 w_21 hs_37 hch_17 => ?_)
        have hs_37d : Sat w [cObj b_1 51 [vw, vc], cL v 3 (encN .i64) (ordF W k), cL v_10 3 (encN .i64) ([k]), cL v_16 3 (encN .i64) (((ordF W k).take j).drop 0 ++ [k] ++ ((ordF W k).take ((ordF W k).length)).drop j)] _ := hs_37
        have hS_18 : Sat w [cObj b_1 51 [vw, vc], cL v 3 (encN .i64) (ordF W k)] _ := hs_37d.sub ((.cons_cons _ (.cons_cons _ (.cons _ (.cons _ .slnil)))))
        refine ⟨hS_18, ?_⟩
        refine RP.ev rfl rfl rfl (fun w' hS' => Ev.assign rfl) hS_18 ?_
        refine RP.fin ?_
        refine CW.region ?_
        refine RT.ev rfl rfl (Ev.addI (b := 1) rfl rfl (by omega)) ?_
        refine RT.ev rfl rfl (Ev.move rfl) ?_
        refine RT.nil ?_
        have hs_38 : Sat w [cObj b_1 51 [vw, vc], cL v 3 (encN .i64) (ordF W k), cL v_10 3 (encN .i64) ([k]), cL v_16 3 (encN .i64) (ordF W (k + 1))] w_21 := hs_37d.reL 3 rfl (show ((ordF W k).take j).drop 0 ++ [k] ++ ((ordF W k).take ((ordF W k).length)).drop j = ordF W (k + 1) from hok_.symm)
        have hs_39 : Sat w [cObj b_1 51 [vw, vc], cL v_16 3 (encN .i64) (ordF W (k + 1))] w_21 := hs_38.sub ((.cons_cons _ (.cons _ (.cons _ (.cons_cons _ .slnil)))))
        exact ⟨(k + 1, v_16), ⟨rfl, rfl, rfl, rfl, rfl, trivial⟩, ⟨hs_39, by omega⟩, (show (W.length - (k + 1)) < (W.length - k) from by omega)⟩
  · refine CW.exit0 ?_
    refine CW.seq ?_
    refine CW.region ?_
    refine RT.ev rfl rfl (Ev.move rfl) ?_
    refine RT.ev rfl rfl (Ev.assign rfl) ?_
    refine RT.nil ?_
    refine CW.ret ?_
    show PostK _ _ _ _ _ _
    refine post1 rfl rfl ?_
    have hs_40 : Sat w [cObj b_1 51 [vw, vc], cL v 3 (encN .i64) (ordN W)] w_2 := hs_4.reL 1 rfl (show ordF W k = ordN W from by rw [show k = W.length by omega]; rfl)
    have hs_41 : Sat w [cL v 3 (encN .i64) (ordN W)] w_2 := hs_40.sub ((.cons _ (.cons_cons _ .slnil)))
    exact hs_41

theorem rsuffix_ok (vw vc : Value) (W : List ByteArray) (s : ByteArray) (w : World) (hv : RdL w vw encTx W) (hvc : vc.oneCell' = true) (hasc : Asc W) (hn : W.length ≤ 1000000) (hsz : ∀ x ∈ W, x.size ≤ 1000000) :
    CallsV Try.prog 44 [(Value.agg #[vw, vc]), (Value.string s)] w fun r w' => Sat w [cL r 3 (encN .i64) (sufN W (ordN W) s)] w' := by
  have hs0 := Sat.start w
  refine callsV_of Try.func44 rfl rfl ?_
  refine CW.seq ?_
  refine CW.region ?_
  refine RT.eff rfl rfl (OpE.box hs0 rfl fun b_1 w_1 hs_1 hch_1 hb_1 => ?_)
  have hs_1d : Sat w [cObj b_1 51 [vw, vc]] _ := hs_1
  refine RT.ev rfl rfl (Ev.assign rfl) ?_
  refine RT.nil ?_
  refine CW.seq ?_
  refine CW.region ?_
  refine RT.ev rfl rfl (Ev.assign rfl) ?_
  refine RT.nil ?_
  refine CW.seq ?_
  refine CW.seq ?_
  have hs_2 : Sat w [cObj b_1 51 [vw, vc], cL (Value.slice none 0 0) 3 (encN .i64) ([])] _ := hs_1d.newNilL 3 (encN .i64)
  have hol := ordN_length W
  refine CW.region ?_
  refine RT.ev rfl rfl (Ev.ldObj agg51 rfl hs_2 (i := 0) rfl rfl) ?_
  refine RT.eff rfl rfl (OpE.call ent54 rfl ((rbyrev_ok _ _ _ _ (hv.ext hs_2.ext) (hvc) (hsz) (hn)).mono fun r_1 w_2 h_1 => ?_))
  have hp_1 := h_1
  have hs_3 : Sat w [cObj b_1 51 [vw, vc], cL (Value.slice none 0 0) 3 (encN .i64) ([]), cL r_1 3 (encN .i64) (ordN W)] _ := hs_2.adds hp_1
  refine RT.ev rfl rfl (Ev.lenL Try.underlying22 rfl (hs_3.rdL 2 rfl)) ?_
  refine RT.ev rfl rfl (Ev.move rfl) ?_
  refine RT.nil ?_
  refine CW.block ?_
  refine CW.loop (α := Nat × Value × List Nat) (fun (k, v, acc) => [(1, (Value.string s)), (2, (Value.pointer (some ⟨b_1, 0, none⟩))), (5, v), (10, r_1), (11, (Value.int .i64 (((ordN W).length : Nat) : Int))), (12, (Value.int .i64 ((k : Nat) : Int)))]) (fun (k, v, acc) w' => Sat w [cObj b_1 51 [vw, vc], cL v 3 (encN .i64) (acc), cL r_1 3 (encN .i64) (ordN W)] w' ∧ (k ≤ (ordN W).length) ∧ (acc = sufN W ((ordN W).take k) s) ∧ (acc.length ≤ k)) (fun (k, v, acc) => (ordN W).length - k) (0, (Value.slice none 0 0), []) ⟨rfl, rfl, rfl, rfl, rfl, rfl, trivial⟩ ⟨hs_3, Nat.zero_le _, rfl, Nat.le_refl _⟩ ?_
  rintro ⟨k, v, acc⟩ w_3 ⟨hs_4, hk, hacc, hal⟩
  show CW _ _ _ _ [(1, (Value.string s)), (2, (Value.pointer (some ⟨b_1, 0, none⟩))), (5, v), (10, r_1), (11, (Value.int .i64 (((ordN W).length : Nat) : Int))), (12, (Value.int .i64 ((k : Nat) : Int)))] _
  refine CW.seq ?_
  refine CW.region ?_
  refine RT.ev rfl rfl (Ev.lssN rfl rfl) ?_
  refine RT.nil ?_
  refine CW.seq ?_
  refine CW.condD rfl (fun hc_1 => ?_) (fun hc_1 => ?_)
  · refine CW.skip ?_
    refine CW.seq ?_
    refine CW.block ?_
    refine CW.seq ?_
    obtain ⟨n_, hn_⟩ : ∃ n_, (ordN W)[k]? = some n_ := ⟨_, List.getElem?_eq_getElem hc_1⟩
    refine CW.region ?_
    refine RT.ev rfl rfl (Ev.idxL (E := encN .i64) sl22 rfl rfl (hs_4.rdL 2 rfl) (by omega)) ?_
    refine RT.ev rfl rfl (Ev.ldL (E := encN .i64) scal3 rfl (hs_4.rdL 2 rfl) hn_ (by decide) rfl) ?_
    refine RT.ev rfl rfl (Ev.assign rfl) ?_
    refine RT.nil ?_
    refine CW.seq ?_
    have hnw := ordN_mem.1 (List.mem_of_getElem? hn_)
    obtain ⟨x, hx⟩ : ∃ x, W[n_]? = some x := ⟨_, List.getElem?_eq_getElem hnw⟩
    have hst := sufN_snoc (s := s) hn_ hx
    have hxs := hsz x (List.mem_of_getElem? hx)
    refine CW.region ?_
    refine RT.ev rfl rfl (Ev.fieldAddr fld51_0 rfl rfl) ?_
    refine RT.ev rfl rfl (Ev.load scal45 rfl (hs_4.cell (i := 0) (j := 0) rfl rfl)) ?_
    refine RT.ev rfl rfl (Ev.move rfl) ?_
    refine RT.ev rfl rfl (Ev.idxL (E := encTx) sl45 rfl rfl (hv.ext hs_4.ext) (by omega)) ?_
    refine RT.ev rfl rfl (Ev.ldL (E := encTx) scal9 rfl (hv.ext hs_4.ext) hx (by decide) rfl) ?_
    refine RT.ev rfl rfl (Ev.assign rfl) ?_
    refine RT.nil ?_
    refine CW.seq ?_
    refine CW.mid (fun L' w' => Weak [(1, (Value.string s)), (2, (Value.pointer (some ⟨b_1, 0, none⟩))), (5, v), (7, (Value.int .i64 ((n_ : Nat) : Int))), (8, (Value.string x)), (10, r_1), (11, (Value.int .i64 (((ordN W).length : Nat) : Int))), (12, (Value.int .i64 ((k : Nat) : Int))), (13, (Value.bool (decide (k < (ordN W).length)))), (36, (Value.bool (decide ((s.size ≤ x.size) ∧ ((x.extract (x.size - s.size) x.size) = s)))))] L' ∧ Sat w [cObj b_1 51 [vw, vc], cL v 3 (encN .i64) (acc), cL r_1 3 (encN .i64) (ordN W)] w') ?_ ?_
    · refine CW.region ?_
      refine RT.ev rfl rfl (Ev.move rfl) ?_
      refine RT.ev rfl rfl (Ev.lenStr Try.underlying9 rfl) ?_
      refine RT.ev rfl rfl (Ev.move rfl) ?_
      refine RT.ev rfl rfl (Ev.lenStr Try.underlying9 rfl) ?_
      refine RT.ev rfl rfl (Ev.geqN rfl rfl) ?_
      refine RT.ev rfl rfl (Ev.move rfl) ?_
      by_cases hg_1 : s.size ≤ x.size
      · refine RT.yes rfl rfl rfl (decide_eq_true hg_1) ?_
        refine RT.ev rfl rfl (Ev.move rfl) ?_
        refine RT.yes rfl rfl rfl (decide_eq_true hg_1) ?_
        refine RT.ev rfl rfl (Ev.move rfl) ?_
        refine RT.yes rfl rfl rfl (decide_eq_true hg_1) ?_
        refine RT.ev rfl rfl (Ev.lenStr Try.underlying9 rfl) ?_
        refine RT.yes rfl rfl rfl (decide_eq_true hg_1) ?_
        refine RT.ev rfl rfl (Ev.move rfl) ?_
        refine RT.yes rfl rfl rfl (decide_eq_true hg_1) ?_
        refine RT.ev rfl rfl (Ev.lenStr Try.underlying9 rfl) ?_
        refine RT.yes rfl rfl rfl (decide_eq_true hg_1) ?_
        refine RT.ev rfl rfl (Ev.subI rfl rfl (by omega) (by omega)) ?_
        refine RT.yes rfl rfl rfl (decide_eq_true hg_1) ?_
        refine RT.ev rfl rfl (Ev.sliceStr (l := (x.size - s.size)) (h := x.size) Try.underlying9 rfl ⟨_, rfl⟩ rfl (by omega) (by omega)) ?_
        refine RT.yes rfl rfl rfl (decide_eq_true hg_1) ?_
        refine RT.ev rfl rfl (Ev.move rfl) ?_
        refine RT.yes rfl rfl rfl (decide_eq_true hg_1) ?_
        refine RT.ev rfl rfl (Ev.strEql rfl rfl) ?_
        refine RT.ev rfl rfl (Ev.pickY rfl (decide_eq_true hg_1) rfl) ?_
        refine RT.nil ?_
        exact ⟨⟨rfl, rfl, rfl, rfl, rfl, rfl, rfl, rfl, rfl, congrArg some (congrArg Value.bool (by simp [hg_1])), trivial⟩, hs_4⟩
      · refine RT.no rfl rfl rfl (decide_eq_false hg_1) rfl ?_
        refine RT.no rfl rfl rfl (decide_eq_false hg_1) rfl ?_
        refine RT.no rfl rfl rfl (decide_eq_false hg_1) rfl ?_
        refine RT.no rfl rfl rfl (decide_eq_false hg_1) rfl ?_
        refine RT.no rfl rfl rfl (decide_eq_false hg_1) rfl ?_
        refine RT.no rfl rfl rfl (decide_eq_false hg_1) rfl ?_
        refine RT.no rfl rfl rfl (decide_eq_false hg_1) rfl ?_
        refine RT.no rfl rfl rfl (decide_eq_false hg_1) rfl ?_
        refine RT.no rfl rfl rfl (decide_eq_false hg_1) rfl ?_
        refine RT.ev rfl rfl (Ev.pickN rfl (decide_eq_false hg_1) rfl) ?_
        refine RT.nil ?_
        exact ⟨⟨rfl, rfl, rfl, rfl, rfl, rfl, rfl, rfl, rfl, congrArg some (congrArg Value.bool (by simp [hg_1])), trivial⟩, hs_4⟩
    · rintro L' w_4 ⟨hw_1, hs_5⟩
      refine CW.weaken _ hw_1 ?_
      refine CW.condD rfl (fun hc_2 => ?_) (fun hc_2 => ?_)
      · refine CW.region ?_
        refine RT.ev rfl rfl (Ev.move rfl) ?_
        refine RT.ev rfl rfl (Ev.move rfl) ?_
        refine RT.eff rfl rfl (OpE.lit1 (encN .i64) n_ sl22 rfl hs_5 rfl fun v_1 w_5 hs_6 hch_2 => ?_)
        have hs_6d : Sat w [cObj b_1 51 [vw, vc], cL v 3 (encN .i64) (acc), cL r_1 3 (encN .i64) (ordN W), cL v_1 3 (encN .i64) ([n_])] _ := hs_6
        refine RT.eff rfl rfl (OpE.appendL 1 sl22 hs_6d rfl rfl rfl Try.underlying22 (hs_6d.rdL 3 rfl) (by simp only [List.length_append, List.length_cons, List.length_nil]; have := ordN_length W; omega) (by simp only [List.length_append, List.length_cons, List.length_nil]; have := ordN_length W; omega) fun v_2 w_6 hs_7 hch_3 => ?_)
        have hs_7d : Sat w [cObj b_1 51 [vw, vc], cL v_2 3 (encN .i64) (acc ++ [n_]), cL r_1 3 (encN .i64) (ordN W)] _ := hs_7.drop 3
        refine RT.ev rfl rfl (Ev.assign rfl) ?_
        refine RT.nil ?_
        refine CW.region ?_
        refine RT.ev rfl rfl (Ev.addI (b := 1) rfl rfl (by omega)) ?_
        refine RT.ev rfl rfl (Ev.move rfl) ?_
        refine RT.nil ?_
        have hs_8 : Sat w [cObj b_1 51 [vw, vc], cL v_2 3 (encN .i64) (acc ++ [n_]), cL r_1 3 (encN .i64) (ordN W)] w_6 := hs_7d.sub ((.cons_cons _ (.cons_cons _ (.cons_cons _ .slnil))))
        exact ⟨(k + 1, v_2, acc ++ [n_]), ⟨rfl, rfl, rfl, rfl, rfl, rfl, trivial⟩, ⟨hs_8, by omega, by rw [hst, if_pos (suf_ext.1 hc_2), hacc], by (try simp only [List.length_append, List.length_cons, List.length_nil]); omega⟩, (show ((ordN W).length - (k + 1)) < ((ordN W).length - k) from by omega)⟩
      · refine CW.skip ?_
        refine CW.region ?_
        refine RT.ev rfl rfl (Ev.addI (b := 1) rfl rfl (by omega)) ?_
        refine RT.ev rfl rfl (Ev.move rfl) ?_
        refine RT.nil ?_
        have hs_9 : Sat w [cObj b_1 51 [vw, vc], cL v 3 (encN .i64) (acc), cL r_1 3 (encN .i64) (ordN W)] w_4 := hs_5.sub ((.cons_cons _ (.cons_cons _ (.cons_cons _ .slnil))))
        exact ⟨(k + 1, v, acc), ⟨rfl, rfl, rfl, rfl, rfl, rfl, trivial⟩, ⟨hs_9, by omega, by rw [hst, if_neg (fun h9 => hc_2 (suf_ext.2 h9)), hacc], by (try simp only [List.length_append, List.length_cons, List.length_nil]); omega⟩, (show ((ordN W).length - (k + 1)) < ((ordN W).length - k) from by omega)⟩
  · refine CW.exit0 ?_
    refine CW.seq ?_
    refine CW.region ?_
    refine RT.ev rfl rfl (Ev.move rfl) ?_
    refine RT.ev rfl rfl (Ev.assign rfl) ?_
    refine RT.nil ?_
    refine CW.ret ?_
    show PostK _ _ _ _ _ _
    refine post1 rfl rfl ?_
    have hs_10 : Sat w [cL v 3 (encN .i64) (acc)] w_3 := hs_4.sub ((.cons _ (.cons_cons _ (.cons _ .slnil))))
    rw [show k = (ordN W).length by omega, List.take_length] at hacc
    rw [← hacc]
    exact hs_10

end Go.Proofs.Ytfhbflhnelbkfaa
