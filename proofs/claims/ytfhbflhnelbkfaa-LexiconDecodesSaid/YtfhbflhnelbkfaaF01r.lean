/- The walks of the functions of F01r, printed by our own program (kwgen.py) out of our descriptions (base.py). -/
import Derived.Test.YtfhbflhnelbkfaaKg
import Derived.Test.YtfhbflhnelbkfaaTab
namespace Go.Proofs.Ytfhbflhnelbkfaa
open Go.RowKit Go.Kw
set_option maxRecDepth 100000
set_option linter.unusedVariables false
set_option linter.unusedSimpArgs false
theorem runits_ok (s : ByteArray) (w : World) (hn : s.size ≤ 1000000) :
    CallsV Try.prog 121 [(Value.string s)] w fun r w' => Sat w [cL r 147 encRU ((uns s.data.toList).map ruT)] w' := by
  have hs0 := Sat.start w
  refine callsV_of Try.func121 rfl rfl ?_
  refine CW.seq ?_
  refine CW.region ?_
  refine RT.ev rfl rfl (Ev.assign rfl) ?_
  refine RT.nil ?_
  refine CW.seq ?_
  refine CW.region ?_
  refine RT.ev rfl rfl (Ev.assign rfl) ?_
  refine RT.nil ?_
  refine CW.seq ?_
  refine CW.seq ?_
  have hs_1 : Sat w [cL (Value.slice none 0 0) 147 (encRU) ([])] _ := hs0.newNilL 147 (encRU)
  refine CW.region ?_
  refine RT.ev rfl rfl (Ev.move rfl) ?_
  refine RT.eff rfl rfl (OpE.rangeStr Try.underlying9 hs_1 rfl fun it_1 w_1 hs_2 => ?_)
  have hs_2d : Sat w [cL (Value.slice none 0 0) 147 (encRU) ([]), cSIt it_1 s (0)] _ := hs_2
  refine RT.nil ?_
  refine CW.block ?_
  refine CW.loop (α := Nat × Value × List RU × List Un) (fun (i, v, l, done) => [(0, (Value.string s)), (3, v), (8, (Value.pointer (some ⟨it_1, 0, none⟩)))]) (fun (i, v, l, done) w' => Sat w [cL v 147 (encRU) (l), cSIt it_1 s (i)] w' ∧ (i ≤ s.size) ∧ (l.length ≤ i) ∧ ((i = 0 ∧ done = [] ∧ l = []) ∨ (∃ r a, a < i ∧ l = done.map ruF ++ [⟨r, a, 0, false⟩] ∧ uns s.data.toList = done ++ ⟨r, a, i - a⟩ :: unsFrom s.data.toList i))) (fun (i, v, l, done) => s.size - i) (0, (Value.slice none 0 0), [], []) ⟨rfl, rfl, rfl, trivial⟩ ⟨hs_2d, Nat.zero_le _, Nat.le_refl _, .inl ⟨rfl, rfl, rfl⟩⟩ ?_
  rintro ⟨i, v, l, done⟩ w_2 ⟨hs_3, hi, hll, hp⟩
  show CW _ _ _ _ [(0, (Value.string s)), (3, v), (8, (Value.pointer (some ⟨it_1, 0, none⟩)))] _
  refine CW.seq ?_
  refine CW.region ?_
  refine RT.eff rfl rfl (OpE.nextStr (i := 1) hs_3 rfl rfl ?_ ?_)
  · intro hnx_1
    refine RT.ev rfl rfl (Ev.extract rfl rfl) ?_
    refine RT.nil ?_
    refine CW.seq ?_
    refine CW.condF rfl (rfl) ?_
    refine CW.exit0 ?_
    refine CW.seqMid (fun L' w' => ∃ (v2 : Value), Weak [(3, v2)] L' ∧ Sat w [cL v2 147 (encRU) ((uns s.data.toList).map ruF)] w') ?_ ?_
    · refine CW.seq ?_
      rcases hp with ⟨hi0, hd0, hl0⟩ | ⟨r, a, ha, hl, hu⟩
      · have hlp : ¬ 0 < l.length := by rw [hl0]; simp
        have hdl : done.length = 0 := by rw [hd0]; rfl
        refine CW.region ?_
        refine RT.ev rfl rfl (Ev.move rfl) ?_
        refine RT.ev rfl rfl (Ev.lenL Try.underlying144 rfl (hs_3.rdL 0 rfl)) ?_
        refine RT.ev rfl rfl (Ev.gtrN (b := 0) rfl rfl) ?_
        refine RT.nil ?_
        refine CW.condF rfl (decide_eq_false hlp) ?_
        refine CW.skip ?_
        have hs_5 : Sat w [cL v 147 (encRU) (done.map ruF), cSIt it_1 s (i)] w_2 := by
          have hq : l = done.map ruF := by rw [hl0, hd0]; rfl
          rw [← hq]; exact hs_3
        have hs_6 : Sat w [cL v 147 (encRU) ((uns s.data.toList).map ruF), cSIt it_1 s (i)] w_2 := by
          have hq : done.map ruF = (uns s.data.toList).map ruF := by rw [hd0]; have h0 : uns s.data.toList = [] := uns_end (s := s) (i := 0) (by omega); rw [h0]
          rw [← hq]; exact hs_5
        have hs_7 : Sat w [cL v 147 (encRU) ((uns s.data.toList).map ruF)] w_2 := hs_6.sub ((.cons_cons _ (.cons _ .slnil)))
        exact ⟨v, ⟨rfl, trivial⟩, hs_7⟩
      · have hx := ru_last hl
        obtain ⟨x, hxd⟩ : ∃ x : RU, x = ⟨r, a, 0, false⟩ := ⟨_, rfl⟩
        rw [← hxd] at hx
        have hxa : x.at_ = a := by rw [hxd]
        have hlp : 0 < l.length := by rw [hl]; simp
        have hdl : done.length + 1 = l.length := by rw [hl]; simp
        refine CW.region ?_
        refine RT.ev rfl rfl (Ev.move rfl) ?_
        refine RT.ev rfl rfl (Ev.lenL Try.underlying144 rfl (hs_3.rdL 0 rfl)) ?_
        refine RT.ev rfl rfl (Ev.gtrN (b := 0) rfl rfl) ?_
        refine RT.nil ?_
        refine CW.condT rfl (decide_eq_true hlp) ?_
        refine CW.region ?_
        refine RT.ev rfl rfl (Ev.move rfl) ?_
        refine RT.ev rfl rfl (Ev.move rfl) ?_
        refine RT.ev rfl rfl (Ev.lenL Try.underlying144 rfl (hs_3.rdL 0 rfl)) ?_
        refine RT.ev rfl rfl (Ev.subI (b := 1) rfl rfl (by omega) (by omega)) ?_
        refine RT.ev rfl rfl (Ev.move rfl) ?_
        refine RT.ev rfl rfl (Ev.lenStr Try.underlying9 rfl) ?_
        refine RT.ev rfl rfl (Ev.move rfl) ?_
        refine RT.ev rfl rfl (Ev.move rfl) ?_
        refine RT.ev rfl rfl (Ev.lenL Try.underlying144 rfl (hs_3.rdL 0 rfl)) ?_
        refine RT.ev rfl rfl (Ev.subI (b := 1) rfl rfl (by omega) (by omega)) ?_
        refine RT.ev rfl rfl (Ev.idxL (E := encRU) sl144 rfl rfl (hs_3.rdL 0 rfl) (by omega)) ?_
        refine RT.ev rfl rfl (Ev.fldL (E := encRU) fld147_1 rfl (hs_3.rdL 0 rfl) (by omega) (by decide)) ?_
        refine RT.ev rfl rfl (Ev.ldLF (E := encRU) scal3 rfl (hs_3.rdL 0 rfl) hx (by decide) rfl) ?_
        refine RT.ev rfl rfl (Ev.subI rfl rfl (by omega) (by omega)) ?_
        refine RT.ev rfl rfl (Ev.idxL (E := encRU) sl144 rfl rfl (hs_3.rdL 0 rfl) (by omega)) ?_
        refine RT.ev rfl rfl (Ev.fldL (E := encRU) fld147_2 rfl (hs_3.rdL 0 rfl) (by omega) (by decide)) ?_
        refine RT.eff rfl rfl (OpE.setFL (E := encRU) 0 (⟨x.r, x.at_, (s.size - x.at_), x.ok⟩) one3 hs_3 rfl rfl rfl rfl hx rfl (by decide) fun w_4 hs_8 hch_1 => ?_)
        have hs_8d : Sat w [cL v 147 (encRU) (l.set (l.length - 1) (⟨x.r, x.at_, (s.size - x.at_), x.ok⟩)), cSIt it_1 s (i)] _ := hs_8
        refine RT.nil ?_
        have hs_9 : Sat w [cL v 147 (encRU) ((done ++ [(⟨r, a, s.size - a⟩ : Un)]).map ruF), cSIt it_1 s (i)] w_4 := by
          have hq : l.set (l.length - 1) (⟨x.r, x.at_, (s.size - x.at_), x.ok⟩) = (done ++ [(⟨r, a, s.size - a⟩ : Un)]).map ruF := by rw [hxd]; exact ru_put _ hl
          rw [← hq]; exact hs_8d
        have hs_10 : Sat w [cL v 147 (encRU) ((uns s.data.toList).map ruF), cSIt it_1 s (i)] w_4 := by
          have hq : (done ++ [(⟨r, a, s.size - a⟩ : Un)]).map ruF = (uns s.data.toList).map ruF := by rw [hu, show i = s.size by omega, uns_end (Nat.le_refl _)]
          rw [← hq]; exact hs_9
        have hs_11 : Sat w [cL v 147 (encRU) ((uns s.data.toList).map ruF)] w_4 := hs_10.sub ((.cons_cons _ (.cons _ .slnil)))
        exact ⟨v, ⟨rfl, trivial⟩, hs_11⟩
    · rintro L' w_5 ⟨v2, hw_1, hs_12⟩
      refine CW.weaken _ hw_1 ?_
      refine CW.seq ?_
      refine CW.seq ?_
      refine CW.region ?_
      refine RT.ev rfl rfl (Ev.move rfl) ?_
      refine RT.ev rfl rfl (Ev.lenL Try.underlying144 rfl (hs_12.rdL 0 rfl)) ?_
      refine RT.ev rfl rfl (Ev.move rfl) ?_
      refine RT.nil ?_
      refine CW.block ?_
      have hul := uns_length s.data.toList
      rw [bsz] at hul
      have hml : ((uns s.data.toList).map ruF).length = (uns s.data.toList).length := List.length_map ..
      have hs_13 : Sat w [cL v2 147 (encRU) (((uns s.data.toList).take 0).map ruT ++ ((uns s.data.toList).drop 0).map ruF)] w_5 := by
        have hq : (uns s.data.toList).map ruF = ((uns s.data.toList).take 0).map ruT ++ ((uns s.data.toList).drop 0).map ruF := by simp
        rw [← hq]; exact hs_12
      refine CW.loop (α := Nat × Value) (fun (k, v) => [(3, v), (57, (Value.int .i64 ((((uns s.data.toList).map ruF).length : Nat) : Int))), (58, (Value.int .i64 ((k : Nat) : Int)))]) (fun (k, v) w' => Sat w [cL v 147 (encRU) (((uns s.data.toList).take k).map ruT ++ ((uns s.data.toList).drop k).map ruF)] w' ∧ (k ≤ (uns s.data.toList).length)) (fun (k, v) => (uns s.data.toList).length - k) (0, v2) ⟨rfl, rfl, rfl, trivial⟩ ⟨hs_13, Nat.zero_le _⟩ ?_
      rintro ⟨k, v⟩ w_6 ⟨hs_14, hk⟩
      show CW _ _ _ _ [(3, v), (57, (Value.int .i64 ((((uns s.data.toList).map ruF).length : Nat) : Int))), (58, (Value.int .i64 ((k : Nat) : Int)))] _
      refine CW.seq ?_
      refine CW.region ?_
      refine RT.ev rfl rfl (Ev.lssN rfl rfl) ?_
      refine RT.nil ?_
      refine CW.seq ?_
      refine CW.condD rfl (fun hc_1 => ?_) (fun hc_1 => ?_)
      · refine CW.skip ?_
        refine CW.seq ?_
        refine CW.block ?_
        refine CW.seq ?_
        refine CW.region ?_
        refine RT.ev rfl rfl (Ev.move rfl) ?_
        refine RT.ev rfl rfl (Ev.assign rfl) ?_
        refine RT.nil ?_
        obtain ⟨u, hu⟩ : ∃ u, (uns s.data.toList)[k]? = some u := ⟨_, List.getElem?_eq_getElem (by simp only [List.length_append, List.length_map, List.length_take, List.length_drop] at *; omega)⟩
        refine CW.region ?_
        refine RT.ev rfl rfl (Ev.move rfl) ?_
        refine RT.ev rfl rfl (Ev.move rfl) ?_
        refine RT.ev rfl rfl (Ev.move rfl) ?_
        refine RT.ev rfl rfl (Ev.move rfl) ?_
        refine RT.ev rfl rfl (Ev.idxL (E := encRU) sl144 rfl rfl (hs_14.rdL 0 rfl) (by simp only [List.length_append, List.length_map, List.length_take, List.length_drop] at *; omega)) ?_
        refine RT.ev rfl rfl (Ev.fldL (E := encRU) fld147_0 rfl (hs_14.rdL 0 rfl) (by simp only [List.length_append, List.length_map, List.length_take, List.length_drop] at *; omega) (by decide)) ?_
        refine RT.ev rfl rfl (Ev.ldLF (E := encRU) scal21 rfl (hs_14.rdL 0 rfl) (ru_get hu) (by decide) rfl) ?_
        refine RT.ev rfl rfl (Ev.neqN (b := 65533) rfl rfl) ?_
        refine RT.ev rfl rfl (Ev.move rfl) ?_
        by_cases hg_1 : (ruF u).r ≠ 65533
        · refine RT.no rfl rfl rfl (decide_eq_true hg_1) rfl ?_
          refine RT.no rfl rfl rfl (decide_eq_true hg_1) rfl ?_
          refine RT.no rfl rfl rfl (decide_eq_true hg_1) rfl ?_
          refine RT.no rfl rfl rfl (decide_eq_true hg_1) rfl ?_
          refine RT.no rfl rfl rfl (decide_eq_true hg_1) rfl ?_
          refine RT.no rfl rfl rfl (decide_eq_true hg_1) rfl ?_
          refine RT.ev rfl rfl (Ev.pickY rfl (decide_eq_true hg_1) rfl) ?_
          refine RT.ev rfl rfl (Ev.idxL (E := encRU) sl144 rfl rfl (hs_14.rdL 0 rfl) (by simp only [List.length_append, List.length_map, List.length_take, List.length_drop] at *; omega)) ?_
          refine RT.ev rfl rfl (Ev.fldL (E := encRU) fld147_3 rfl (hs_14.rdL 0 rfl) (by simp only [List.length_append, List.length_map, List.length_take, List.length_drop] at *; omega) (by decide)) ?_
          refine RT.eff rfl rfl (OpE.setFL (E := encRU) 0 (⟨u.r, u.at_, u.size, true⟩) one4 hs_14 rfl rfl rfl rfl (ru_get hu) rfl (by decide) fun w_7 hs_15 hch_2 => ?_)
          have hs_15d : Sat w [cL v 147 (encRU) ((((uns s.data.toList).take k).map ruT ++ ((uns s.data.toList).drop k).map ruF).set k (⟨u.r, u.at_, u.size, true⟩))] _ := hs_15
          refine RT.nil ?_
          have hs_16 : Sat w [cL v 147 (encRU) (((uns s.data.toList).take (k + 1)).map ruT ++ ((uns s.data.toList).drop (k + 1)).map ruF)] w_7 := by
            have hq : (((uns s.data.toList).take k).map ruT ++ ((uns s.data.toList).drop k).map ruF).set k (⟨u.r, u.at_, u.size, true⟩) = ((uns s.data.toList).take (k + 1)).map ruT ++ ((uns s.data.toList).drop (k + 1)).map ruF := ru_step hu (ru_ok_t hg_1)
            rw [← hq]; exact hs_15d
          refine CW.region ?_
          refine RT.ev rfl rfl (Ev.addI (b := 1) rfl rfl (by omega)) ?_
          refine RT.ev rfl rfl (Ev.move rfl) ?_
          refine RT.nil ?_
          exact ⟨(k + 1, v), ⟨rfl, rfl, rfl, trivial⟩, ⟨hs_16, by simp only [List.length_map] at *; omega⟩, (show ((uns s.data.toList).length - (k + 1)) < ((uns s.data.toList).length - k) from by simp only [List.length_map] at *; omega)⟩
        · refine RT.yes rfl rfl rfl (decide_eq_false hg_1) ?_
          refine RT.ev rfl rfl (Ev.move rfl) ?_
          refine RT.yes rfl rfl rfl (decide_eq_false hg_1) ?_
          refine RT.ev rfl rfl (Ev.move rfl) ?_
          refine RT.yes rfl rfl rfl (decide_eq_false hg_1) ?_
          refine RT.ev rfl rfl (Ev.idxL (E := encRU) sl144 rfl rfl (hs_14.rdL 0 rfl) (by simp only [List.length_append, List.length_map, List.length_take, List.length_drop] at *; omega)) ?_
          refine RT.yes rfl rfl rfl (decide_eq_false hg_1) ?_
          refine RT.ev rfl rfl (Ev.fldL (E := encRU) fld147_2 rfl (hs_14.rdL 0 rfl) (by simp only [List.length_append, List.length_map, List.length_take, List.length_drop] at *; omega) (by decide)) ?_
          refine RT.yes rfl rfl rfl (decide_eq_false hg_1) ?_
          refine RT.ev rfl rfl (Ev.ldLF (E := encRU) scal3 rfl (hs_14.rdL 0 rfl) (ru_get hu) (by decide) rfl) ?_
          refine RT.yes rfl rfl rfl (decide_eq_false hg_1) ?_
          refine RT.ev rfl rfl (Ev.eqlN (b := 3) rfl rfl) ?_
          refine RT.ev rfl rfl (Ev.pickN rfl (decide_eq_false hg_1) rfl) ?_
          refine RT.ev rfl rfl (Ev.idxL (E := encRU) sl144 rfl rfl (hs_14.rdL 0 rfl) (by simp only [List.length_append, List.length_map, List.length_take, List.length_drop] at *; omega)) ?_
          refine RT.ev rfl rfl (Ev.fldL (E := encRU) fld147_3 rfl (hs_14.rdL 0 rfl) (by simp only [List.length_append, List.length_map, List.length_take, List.length_drop] at *; omega) (by decide)) ?_
          refine RT.eff rfl rfl (OpE.setFL (E := encRU) 0 (⟨u.r, u.at_, u.size, decide ((ruF u).size = 3)⟩) one4 hs_14 rfl rfl rfl rfl (ru_get hu) rfl (by decide) fun w_8 hs_17 hch_3 => ?_)
          have hs_17d : Sat w [cL v 147 (encRU) ((((uns s.data.toList).take k).map ruT ++ ((uns s.data.toList).drop k).map ruF).set k (⟨u.r, u.at_, u.size, decide ((ruF u).size = 3)⟩))] _ := hs_17
          refine RT.nil ?_
          have hs_18 : Sat w [cL v 147 (encRU) (((uns s.data.toList).take (k + 1)).map ruT ++ ((uns s.data.toList).drop (k + 1)).map ruF)] w_8 := by
            have hq : (((uns s.data.toList).take k).map ruT ++ ((uns s.data.toList).drop k).map ruF).set k (⟨u.r, u.at_, u.size, decide ((ruF u).size = 3)⟩) = ((uns s.data.toList).take (k + 1)).map ruT ++ ((uns s.data.toList).drop (k + 1)).map ruF := ru_step hu (ru_ok_f hg_1)
            rw [← hq]; exact hs_17d
          refine CW.region ?_
          refine RT.ev rfl rfl (Ev.addI (b := 1) rfl rfl (by omega)) ?_
          refine RT.ev rfl rfl (Ev.move rfl) ?_
          refine RT.nil ?_
          exact ⟨(k + 1, v), ⟨rfl, rfl, rfl, trivial⟩, ⟨hs_18, by simp only [List.length_map] at *; omega⟩, (show ((uns s.data.toList).length - (k + 1)) < ((uns s.data.toList).length - k) from by simp only [List.length_map] at *; omega)⟩
      · refine CW.exit0 ?_
        refine CW.seq ?_
        refine CW.region ?_
        refine RT.ev rfl rfl (Ev.move rfl) ?_
        refine RT.ev rfl rfl (Ev.assign rfl) ?_
        refine RT.nil ?_
        refine CW.ret ?_
        show PostK _ _ _ _ _ _
        refine post1 rfl rfl ?_
        have hs_19 : Sat w [cL v 147 (encRU) ((uns s.data.toList).map ruT)] w_6 := by
          have hq : ((uns s.data.toList).take k).map ruT ++ ((uns s.data.toList).drop k).map ruF = (uns s.data.toList).map ruT := by rw [show k = (uns s.data.toList).length by omega, List.take_length, List.drop_length]; simp
          rw [← hq]; exact hs_14
        exact hs_19
  · intro w_3 hnx_1 hs_4
    have hs_4d : Sat w [cL v 147 (encRU) (l), cSIt it_1 s (i + (dec (s.data.toList.drop i)).2)] _ := hs_4
    refine RT.ev rfl rfl (Ev.extract rfl rfl) ?_
    refine RT.nil ?_
    refine CW.seq ?_
    refine CW.condT rfl (rfl) ?_
    refine CW.skip ?_
    refine CW.block ?_
    refine CW.seq ?_
    refine CW.region ?_
    refine RT.ev rfl rfl (Ev.extract rfl rfl) ?_
    refine RT.ev rfl rfl (Ev.extract rfl rfl) ?_
    refine RT.ev rfl rfl (Ev.assign rfl) ?_
    refine RT.ev rfl rfl (Ev.assign rfl) ?_
    refine RT.nil ?_
    refine CW.seq ?_
    refine CW.seq ?_
    rcases hp with ⟨hi0, hd0, hl0⟩ | ⟨r, a, ha, hl, hu⟩
    · have hlp : ¬ 0 < l.length := by rw [hl0]; simp
      have hdl : done.length = 0 := by rw [hd0]; rfl
      refine CW.region ?_
      refine RT.ev rfl rfl (Ev.move rfl) ?_
      refine RT.ev rfl rfl (Ev.lenL Try.underlying144 rfl (hs_4d.rdL 0 rfl)) ?_
      refine RT.ev rfl rfl (Ev.gtrN (b := 0) rfl rfl) ?_
      refine RT.nil ?_
      refine CW.condF rfl (decide_eq_false hlp) ?_
      refine CW.skip ?_
      have hs_20 : Sat w [cL v 147 (encRU) (done.map ruF), cSIt it_1 s (i + (dec (s.data.toList.drop i)).2)] w_3 := by
        have hq : l = done.map ruF := by rw [hl0, hd0]; rfl
        rw [← hq]; exact hs_4d
      refine CW.region ?_
      refine RT.ev rfl rfl (Ev.move rfl) ?_
      refine RT.ev rfl rfl (Ev.move rfl) ?_
      refine RT.ev rfl rfl (Ev.move rfl) ?_
      refine RT.ev rfl rfl (Ev.build bt147 rfl ⟨rfl, rfl, trivial⟩ rfl) ?_
      refine RT.eff rfl rfl (OpE.lit1A (encRU) (⟨(dec (s.data.toList.drop i)).1, i, 0, false⟩ : RU) sl144 (by decide) (by decide) hs_20 rfl fun v_1 w_9 hs_21 hch_4 => ?_)
      have hs_21d : Sat w [cL v 147 (encRU) (done.map ruF), cSIt it_1 s (i + (dec (s.data.toList.drop i)).2), cL v_1 147 (encRU) ([(⟨(dec (s.data.toList.drop i)).1, i, 0, false⟩ : RU)])] _ := hs_21
      refine RT.eff rfl rfl (OpE.appendL 0 sl144 hs_21d rfl rfl rfl Try.underlying144 (hs_21d.rdL 2 rfl) (by simp only [List.length_append, List.length_map, List.length_cons, List.length_nil] at *; omega) (by simp only [List.length_append, List.length_map, List.length_cons, List.length_nil] at *; omega) fun v_2 w_10 hs_22 hch_5 => ?_)
      have hs_22d : Sat w [cL v_2 147 (encRU) (done.map ruF ++ [(⟨(dec (s.data.toList.drop i)).1, i, 0, false⟩ : RU)]), cSIt it_1 s (i + (dec (s.data.toList.drop i)).2)] _ := hs_22.drop 2
      refine RT.ev rfl rfl (Ev.assign rfl) ?_
      refine RT.nil ?_
      exact ⟨(i + (dec (s.data.toList.drop i)).2, v_2, done.map ruF ++ [(⟨(dec (s.data.toList.drop i)).1, i, 0, false⟩ : RU)], done), ⟨rfl, rfl, rfl, trivial⟩, ⟨hs_22d, dec_roomS hnx_1, by have := dec_pos (s.data.toList.drop i); simp only [List.length_append, List.length_map, List.length_cons, List.length_nil] at *; omega, .inr ⟨(dec (s.data.toList.drop i)).1, i, by have := dec_pos (s.data.toList.drop i); omega, rfl, by subst hd0; subst hi0; exact uns_step hnx_1⟩⟩, (show (s.size - (i + (dec (s.data.toList.drop i)).2)) < (s.size - i) from by have := dec_pos (s.data.toList.drop i); have := dec_roomS hnx_1; omega)⟩
    · have hx := ru_last hl
      obtain ⟨x, hxd⟩ : ∃ x : RU, x = ⟨r, a, 0, false⟩ := ⟨_, rfl⟩
      rw [← hxd] at hx
      have hxa : x.at_ = a := by rw [hxd]
      have hlp : 0 < l.length := by rw [hl]; simp
      have hdl : done.length + 1 = l.length := by rw [hl]; simp
      refine CW.region ?_
      refine RT.ev rfl rfl (Ev.move rfl) ?_
      refine RT.ev rfl rfl (Ev.lenL Try.underlying144 rfl (hs_4d.rdL 0 rfl)) ?_
      refine RT.ev rfl rfl (Ev.gtrN (b := 0) rfl rfl) ?_
      refine RT.nil ?_
      refine CW.condT rfl (decide_eq_true hlp) ?_
      refine CW.region ?_
      refine RT.ev rfl rfl (Ev.move rfl) ?_
      refine RT.ev rfl rfl (Ev.move rfl) ?_
      refine RT.ev rfl rfl (Ev.lenL Try.underlying144 rfl (hs_4d.rdL 0 rfl)) ?_
      refine RT.ev rfl rfl (Ev.subI (b := 1) rfl rfl (by omega) (by omega)) ?_
      refine RT.ev rfl rfl (Ev.move rfl) ?_
      refine RT.ev rfl rfl (Ev.move rfl) ?_
      refine RT.ev rfl rfl (Ev.move rfl) ?_
      refine RT.ev rfl rfl (Ev.lenL Try.underlying144 rfl (hs_4d.rdL 0 rfl)) ?_
      refine RT.ev rfl rfl (Ev.subI (b := 1) rfl rfl (by omega) (by omega)) ?_
      refine RT.ev rfl rfl (Ev.idxL (E := encRU) sl144 rfl rfl (hs_4d.rdL 0 rfl) (by omega)) ?_
      refine RT.ev rfl rfl (Ev.fldL (E := encRU) fld147_1 rfl (hs_4d.rdL 0 rfl) (by omega) (by decide)) ?_
      refine RT.ev rfl rfl (Ev.ldLF (E := encRU) scal3 rfl (hs_4d.rdL 0 rfl) hx (by decide) rfl) ?_
      refine RT.ev rfl rfl (Ev.subI rfl rfl (by omega) (by omega)) ?_
      refine RT.ev rfl rfl (Ev.idxL (E := encRU) sl144 rfl rfl (hs_4d.rdL 0 rfl) (by omega)) ?_
      refine RT.ev rfl rfl (Ev.fldL (E := encRU) fld147_2 rfl (hs_4d.rdL 0 rfl) (by omega) (by decide)) ?_
      refine RT.eff rfl rfl (OpE.setFL (E := encRU) 0 (⟨x.r, x.at_, (i - x.at_), x.ok⟩) one3 hs_4d rfl rfl rfl rfl hx rfl (by decide) fun w_11 hs_23 hch_6 => ?_)
      have hs_23d : Sat w [cL v 147 (encRU) (l.set (l.length - 1) (⟨x.r, x.at_, (i - x.at_), x.ok⟩)), cSIt it_1 s (i + (dec (s.data.toList.drop i)).2)] _ := hs_23
      refine RT.nil ?_
      have hs_24 : Sat w [cL v 147 (encRU) ((done ++ [(⟨r, a, i - a⟩ : Un)]).map ruF), cSIt it_1 s (i + (dec (s.data.toList.drop i)).2)] w_11 := by
        have hq : l.set (l.length - 1) (⟨x.r, x.at_, (i - x.at_), x.ok⟩) = (done ++ [(⟨r, a, i - a⟩ : Un)]).map ruF := by rw [hxd]; exact ru_put _ hl
        rw [← hq]; exact hs_23d
      refine CW.region ?_
      refine RT.ev rfl rfl (Ev.move rfl) ?_
      refine RT.ev rfl rfl (Ev.move rfl) ?_
      refine RT.ev rfl rfl (Ev.move rfl) ?_
      refine RT.ev rfl rfl (Ev.build bt147 rfl ⟨rfl, rfl, trivial⟩ rfl) ?_
      refine RT.eff rfl rfl (OpE.lit1A (encRU) (⟨(dec (s.data.toList.drop i)).1, i, 0, false⟩ : RU) sl144 (by decide) (by decide) hs_24 rfl fun v_3 w_12 hs_25 hch_7 => ?_)
      have hs_25d : Sat w [cL v 147 (encRU) ((done ++ [(⟨r, a, i - a⟩ : Un)]).map ruF), cSIt it_1 s (i + (dec (s.data.toList.drop i)).2), cL v_3 147 (encRU) ([(⟨(dec (s.data.toList.drop i)).1, i, 0, false⟩ : RU)])] _ := hs_25
      refine RT.eff rfl rfl (OpE.appendL 0 sl144 hs_25d rfl rfl rfl Try.underlying144 (hs_25d.rdL 2 rfl) (by simp only [List.length_append, List.length_map, List.length_cons, List.length_nil] at *; omega) (by simp only [List.length_append, List.length_map, List.length_cons, List.length_nil] at *; omega) fun v_4 w_13 hs_26 hch_8 => ?_)
      have hs_26d : Sat w [cL v_4 147 (encRU) ((done ++ [(⟨r, a, i - a⟩ : Un)]).map ruF ++ [(⟨(dec (s.data.toList.drop i)).1, i, 0, false⟩ : RU)]), cSIt it_1 s (i + (dec (s.data.toList.drop i)).2)] _ := hs_26.drop 2
      refine RT.ev rfl rfl (Ev.assign rfl) ?_
      refine RT.nil ?_
      exact ⟨(i + (dec (s.data.toList.drop i)).2, v_4, (done ++ [(⟨r, a, i - a⟩ : Un)]).map ruF ++ [(⟨(dec (s.data.toList.drop i)).1, i, 0, false⟩ : RU)], done ++ [⟨r, a, i - a⟩]), ⟨rfl, rfl, rfl, trivial⟩, ⟨hs_26d, dec_roomS hnx_1, by have := dec_pos (s.data.toList.drop i); simp only [List.length_append, List.length_map, List.length_cons, List.length_nil] at *; omega, .inr ⟨(dec (s.data.toList.drop i)).1, i, by have := dec_pos (s.data.toList.drop i); omega, rfl, by rw [hu, uns_step hnx_1]; simp⟩⟩, (show (s.size - (i + (dec (s.data.toList.drop i)).2)) < (s.size - i) from by have := dec_pos (s.data.toList.drop i); have := dec_roomS hnx_1; omega)⟩

theorem rvalid_ok (s : ByteArray) (w : World) (hn : s.size ≤ 1000000) :
    CallsV Try.prog 91 [(Value.string s)] w fun r w' => r = .bool (validN s) ∧ Sat w [] w' := by
  have hs0 := Sat.start w
  refine callsV_of Try.func91 rfl rfl ?_
  refine CW.seq ?_
  refine CW.region ?_
  refine RT.ev rfl rfl (Ev.assign rfl) ?_
  refine RT.nil ?_
  refine CW.seq ?_
  refine CW.seq ?_
  refine CW.region ?_
  refine RT.ev rfl rfl (Ev.move rfl) ?_
  refine RT.eff rfl rfl (OpE.call ent121 rfl ((runits_ok s _ (hn)).mono fun r_1 w_1 h_1 => ?_))
  have hp_1 := h_1
  have hs_1 : Sat w [cL r_1 147 (encRU) ((uns s.data.toList).map ruT)] _ := hs0.adds hp_1
  refine RT.ev rfl rfl (Ev.lenL Try.underlying144 rfl (hs_1.rdL 0 rfl)) ?_
  refine RT.ev rfl rfl (Ev.move rfl) ?_
  refine RT.nil ?_
  refine CW.block ?_
  refine CW.loop (α := Nat) (fun k => [(6, r_1), (7, (Value.int .i64 ((((uns s.data.toList).map ruT).length : Nat) : Int))), (8, (Value.int .i64 ((k : Nat) : Int)))]) (fun k w' => Sat w [cL r_1 147 (encRU) ((uns s.data.toList).map ruT)] w' ∧ (k ≤ ((uns s.data.toList).map ruT).length) ∧ (((uns s.data.toList).take k).all Un.ok = true)) (fun k => ((uns s.data.toList).map ruT).length - k) 0 ⟨rfl, rfl, rfl, trivial⟩ ⟨hs_1, Nat.zero_le _, rfl⟩ ?_
  rintro k w_2 ⟨hs_2, hk, hall⟩
  show CW _ _ _ _ [(6, r_1), (7, (Value.int .i64 ((((uns s.data.toList).map ruT).length : Nat) : Int))), (8, (Value.int .i64 ((k : Nat) : Int)))] _
  refine CW.seq ?_
  refine CW.region ?_
  refine RT.ev rfl rfl (Ev.lssN rfl rfl) ?_
  refine RT.nil ?_
  refine CW.seq ?_
  refine CW.condD rfl (fun hc_1 => ?_) (fun hc_1 => ?_)
  · refine CW.skip ?_
    refine CW.seq ?_
    refine CW.block ?_
    refine CW.seq ?_
    have hml : ((uns s.data.toList).map ruT).length = (uns s.data.toList).length := List.length_map ..
    obtain ⟨u, hu⟩ : ∃ u, (uns s.data.toList)[k]? = some u := ⟨_, List.getElem?_eq_getElem (by omega)⟩
    have hx : ((uns s.data.toList).map ruT)[k]? = some (ruT u) := by rw [List.getElem?_map, hu]; rfl
    refine CW.region ?_
    refine RT.ev rfl rfl (Ev.idxL (E := encRU) sl144 rfl rfl (hs_2.rdL 0 rfl) (by omega)) ?_
    refine RT.ev rfl rfl (Ev.ldAgg (E := encRU) agg147 rfl (hs_2.rdL 0 rfl) hx (by decide)) ?_
    refine RT.eff rfl rfl (OpE.alloc hs_2 zero147 fun b_1 w_3 hs_3 hch_1 hb_1 => ?_)
    have hs_3d : Sat w [cL r_1 147 (encRU) ((uns s.data.toList).map ruT), cObj b_1 147 [(Value.int .i32 ((0 : Nat) : Int)), (Value.int .i64 ((0 : Nat) : Int)), (Value.int .i64 ((0 : Nat) : Int)), (Value.bool false)]] _ := hs_3
    refine RT.eff rfl rfl (OpE.storeObjA (vs := (encRU).enc (ruT u)) agg147 hs_3d (i := 1) rfl rfl rfl rfl ((encRU).one _) fun w_4 hs_4 hch_2 => ?_)
    have hs_4d : Sat w [cL r_1 147 (encRU) ((uns s.data.toList).map ruT), cObj b_1 147 [(Value.int .i32 (((ruT u).r : Nat) : Int)), (Value.int .i64 (((ruT u).at_ : Nat) : Int)), (Value.int .i64 (((ruT u).size : Nat) : Int)), (Value.bool (ruT u).ok)]] _ := hs_4
    refine RT.nil ?_
    refine CW.seq ?_
    refine CW.region ?_
    refine RT.ev rfl rfl (Ev.fieldAddr fld147_3 rfl rfl) ?_
    refine RT.ev rfl rfl (Ev.load scal4 rfl (hs_4d.cell (i := 1) (j := 3) rfl rfl)) ?_
    refine RT.ev rfl rfl (Ev.notB rfl) ?_
    refine RT.nil ?_
    refine CW.cond rfl (fun hc_2 => ?_) (fun hc_2 => ?_)
    · refine CW.seq ?_
      refine CW.region ?_
      refine RT.ev rfl rfl (Ev.assign rfl) ?_
      refine RT.nil ?_
      refine CW.ret ?_
      show PostK _ _ _ _ _ _
      refine post1 rfl rfl ?_
      have hs_5 : Sat w [] w_4 := hs_4d.sub ((.cons _ (.cons _ .slnil)))
      have hf : validN s = false := by
        cases hq : validN s with
        | false => rfl
        | true =>
          have h1 := List.all_eq_true.1 hq u (List.mem_of_getElem? hu)
          have h2 : u.ok = false := by simpa [ruT] using hc_2
          rw [h1] at h2; cases h2
      rw [hf]
      exact ⟨rfl, hs_5⟩
    · refine CW.skip ?_
      refine CW.region ?_
      refine RT.ev rfl rfl (Ev.addI (b := 1) rfl rfl (by have h1 := uns_length s.data.toList; rw [bsz] at h1; omega)) ?_
      refine RT.ev rfl rfl (Ev.move rfl) ?_
      refine RT.nil ?_
      have hs_6 : Sat w [cL r_1 147 (encRU) ((uns s.data.toList).map ruT)] w_4 := hs_4d.sub ((.cons_cons _ (.cons _ .slnil)))
      exact ⟨k + 1, ⟨rfl, rfl, rfl, trivial⟩, ⟨hs_6, by omega, all_snoc hall hu (by simpa [ruT] using hc_2)⟩, (show (((uns s.data.toList).map ruT).length - (k + 1)) < (((uns s.data.toList).map ruT).length - k) from by omega)⟩
  · refine CW.exit0 ?_
    refine CW.seq ?_
    refine CW.region ?_
    refine RT.ev rfl rfl (Ev.assign rfl) ?_
    refine RT.nil ?_
    refine CW.ret ?_
    show PostK _ _ _ _ _ _
    refine post1 rfl rfl ?_
    have hs_7 : Sat w [] w_2 := hs_2.sub ((.cons _ .slnil))
    have hml : ((uns s.data.toList).map ruT).length = (uns s.data.toList).length := List.length_map ..
    have hf : validN s = true := by rw [show k = (uns s.data.toList).length by omega, List.take_length] at hall; exact hall
    rw [hf]
    exact ⟨rfl, hs_7⟩

theorem rreverse_ok (s : ByteArray) (w : World) (hn : s.size ≤ 1000000) :
    CallsV Try.prog 92 [(Value.string s)] w fun r w' => r = .string (revN s) ∧ Sat w [] w' := by
  have hs0 := Sat.start w
  refine callsV_of Try.func92 rfl rfl ?_
  refine CW.seq ?_
  refine CW.region ?_
  refine RT.ev rfl rfl (Ev.assign rfl) ?_
  refine RT.nil ?_
  refine CW.seq ?_
  refine CW.region ?_
  refine RT.ev rfl rfl (Ev.assign rfl) ?_
  refine RT.nil ?_
  refine CW.seq ?_
  refine CW.seq ?_
  refine CW.region ?_
  refine RT.ev rfl rfl (Ev.move rfl) ?_
  refine RT.eff rfl rfl (OpE.call ent121 rfl ((runits_ok s _ (hn)).mono fun r_1 w_1 h_1 => ?_))
  have hp_1 := h_1
  have hs_1 : Sat w [cL r_1 147 (encRU) ((uns s.data.toList).map ruT)] _ := hs0.adds hp_1
  refine RT.ev rfl rfl (Ev.lenL Try.underlying144 rfl (hs_1.rdL 0 rfl)) ?_
  refine RT.ev rfl rfl (Ev.move rfl) ?_
  refine RT.nil ?_
  refine CW.block ?_
  refine CW.loop (α := Nat × ByteArray) (fun (k, t) => [(0, (Value.string s)), (3, (Value.string t)), (7, r_1), (8, (Value.int .i64 ((((uns s.data.toList).map ruT).length : Nat) : Int))), (9, (Value.int .i64 ((k : Nat) : Int)))]) (fun (k, t) w' => Sat w [cL r_1 147 (encRU) ((uns s.data.toList).map ruT)] w' ∧ (k ≤ ((uns s.data.toList).map ruT).length) ∧ (t = revP s ((uns s.data.toList).take k)) ∧ (t.size ≤ k * 1000000)) (fun (k, t) => ((uns s.data.toList).map ruT).length - k) (0, ByteArray.empty) ⟨rfl, rfl, rfl, rfl, rfl, trivial⟩ ⟨hs_1, Nat.zero_le _, rfl, Nat.zero_le _⟩ ?_
  rintro ⟨k, t⟩ w_2 ⟨hs_2, hk, ht, hts⟩
  show CW _ _ _ _ [(0, (Value.string s)), (3, (Value.string t)), (7, r_1), (8, (Value.int .i64 ((((uns s.data.toList).map ruT).length : Nat) : Int))), (9, (Value.int .i64 ((k : Nat) : Int)))] _
  refine CW.seq ?_
  refine CW.region ?_
  refine RT.ev rfl rfl (Ev.lssN rfl rfl) ?_
  refine RT.nil ?_
  refine CW.seq ?_
  refine CW.condD rfl (fun hc_1 => ?_) (fun hc_1 => ?_)
  · refine CW.skip ?_
    refine CW.seq ?_
    refine CW.block ?_
    refine CW.seq ?_
    have hml : ((uns s.data.toList).map ruT).length = (uns s.data.toList).length := List.length_map ..
    obtain ⟨u, hu⟩ : ∃ u, (uns s.data.toList)[k]? = some u := ⟨_, List.getElem?_eq_getElem (by omega)⟩
    have hx : ((uns s.data.toList).map ruT)[k]? = some (ruT u) := by rw [List.getElem?_map, hu]; rfl
    refine CW.region ?_
    refine RT.ev rfl rfl (Ev.idxL (E := encRU) sl144 rfl rfl (hs_2.rdL 0 rfl) (by omega)) ?_
    refine RT.ev rfl rfl (Ev.ldAgg (E := encRU) agg147 rfl (hs_2.rdL 0 rfl) hx (by decide)) ?_
    refine RT.eff rfl rfl (OpE.alloc hs_2 zero147 fun b_1 w_3 hs_3 hch_1 hb_1 => ?_)
    have hs_3d : Sat w [cL r_1 147 (encRU) ((uns s.data.toList).map ruT), cObj b_1 147 [(Value.int .i32 ((0 : Nat) : Int)), (Value.int .i64 ((0 : Nat) : Int)), (Value.int .i64 ((0 : Nat) : Int)), (Value.bool false)]] _ := hs_3
    refine RT.eff rfl rfl (OpE.storeObjA (vs := (encRU).enc (ruT u)) agg147 hs_3d (i := 1) rfl rfl rfl rfl ((encRU).one _) fun w_4 hs_4 hch_2 => ?_)
    have hs_4d : Sat w [cL r_1 147 (encRU) ((uns s.data.toList).map ruT), cObj b_1 147 [(Value.int .i32 (((ruT u).r : Nat) : Int)), (Value.int .i64 (((ruT u).at_ : Nat) : Int)), (Value.int .i64 (((ruT u).size : Nat) : Int)), (Value.bool (ruT u).ok)]] _ := hs_4
    refine RT.nil ?_
    have hur := (uns_room s.data.toList u (List.mem_of_getElem? hu)).1
    rw [bsz] at hur
    have hus : (ruT u).at_ + (ruT u).size ≤ s.size := hur
    refine CW.region ?_
    refine RT.ev rfl rfl (Ev.move rfl) ?_
    refine RT.ev rfl rfl (Ev.fieldAddr fld147_1 rfl rfl) ?_
    refine RT.ev rfl rfl (Ev.load scal3 rfl (hs_4d.cell (i := 1) (j := 1) rfl rfl)) ?_
    refine RT.ev rfl rfl (Ev.fieldAddr fld147_1 rfl rfl) ?_
    refine RT.ev rfl rfl (Ev.load scal3 rfl (hs_4d.cell (i := 1) (j := 1) rfl rfl)) ?_
    refine RT.ev rfl rfl (Ev.fieldAddr fld147_2 rfl rfl) ?_
    refine RT.ev rfl rfl (Ev.load scal3 rfl (hs_4d.cell (i := 1) (j := 2) rfl rfl)) ?_
    refine RT.ev rfl rfl (Ev.addI rfl rfl (by omega)) ?_
    refine RT.ev rfl rfl (Ev.sliceStr (l := (ruT u).at_) (h := ((ruT u).at_ + (ruT u).size)) Try.underlying9 rfl ⟨_, rfl⟩ ⟨_, rfl⟩ (by omega) (by omega)) ?_
    refine RT.ev rfl rfl (Ev.move rfl) ?_
    refine RT.ev rfl rfl (Ev.strAdd rfl rfl (by have h1 : (s.extract (ruT u).at_ ((ruT u).at_ + (ruT u).size)).size ≤ 1000000 := (by rw [ByteArray.size_extract]; omega); have h2 := uns_length s.data.toList; rw [bsz] at h2; omega)) ?_
    refine RT.ev rfl rfl (Ev.assign rfl) ?_
    refine RT.nil ?_
    refine CW.region ?_
    refine RT.ev rfl rfl (Ev.addI (b := 1) rfl rfl (by have h1 := uns_length s.data.toList; rw [bsz] at h1; omega)) ?_
    refine RT.ev rfl rfl (Ev.move rfl) ?_
    refine RT.nil ?_
    have hs_5 : Sat w [cL r_1 147 (encRU) ((uns s.data.toList).map ruT)] w_4 := hs_4d.sub ((.cons_cons _ (.cons _ .slnil)))
    exact ⟨(k + 1, ((s.extract ((ruT u).at_) ((ruT u).at_ + (ruT u).size)) ++ t)), ⟨rfl, rfl, rfl, rfl, rfl, trivial⟩, ⟨hs_5, by omega, by rw [List.take_add_one, hu]; exact (by rw [ht]; exact (revP_snoc s _ u).symm), by rw [ByteArray.size_append, ByteArray.size_extract]; omega⟩, (show (((uns s.data.toList).map ruT).length - (k + 1)) < (((uns s.data.toList).map ruT).length - k) from by omega)⟩
  · refine CW.exit0 ?_
    refine CW.seq ?_
    refine CW.region ?_
    refine RT.ev rfl rfl (Ev.move rfl) ?_
    refine RT.ev rfl rfl (Ev.assign rfl) ?_
    refine RT.nil ?_
    refine CW.ret ?_
    show PostK _ _ _ _ _ _
    refine post1 rfl rfl ?_
    have hs_6 : Sat w [] w_2 := hs_2.sub ((.cons _ .slnil))
    have hml : ((uns s.data.toList).map ruT).length = (uns s.data.toList).length := List.length_map ..
    rw [show k = (uns s.data.toList).length by omega, List.take_length, revP_uns] at ht
    rw [ht]
    exact ⟨rfl, hs_6⟩

end Go.Proofs.Ytfhbflhnelbkfaa
