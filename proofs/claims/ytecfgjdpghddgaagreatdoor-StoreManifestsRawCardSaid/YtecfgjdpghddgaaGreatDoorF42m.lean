/- The walks of the functions of F42m, printed by our own program (kwgen.py) out of our descriptions (base.py). -/
import Derived.Test.YtecfgjdpghddgaaGreatDoorF42v
import Derived.Test.YtecfgjdpghddgaaGreatDoorTab
import Derived.Test.YtecfgjdpghddgaaGreatDoorF42n
import Derived.Test.YtecfgjdpghddgaaGreatDoorKy
import Derived.Test.YtecfgjdpghddgaaGreatDoorKp
import Derived.Test.YtecfgjdpghddgaaGreatDoorM02
set_option linter.unusedVariables false
set_option linter.unusedSimpArgs false
set_option linter.unusedSectionVars false
namespace Go.Proofs.YtecfgjdpghddgaaGreatDoor
open Go.RowKit Go.Kw
set_option maxRecDepth 100000
theorem r42attrs_n (v : Value) (l : List (ByteArray × Bool)) (w : World) (hv : RdL w v encAt l) (hn : l.length ≤ 1000000) :
    CallsV Tryz.prog 57 [v] w fun r w' => r = .bool (atsB l) ∧ Sat w [] w' := by
  have hs0 := Sat.start w
  refine callsV_of Tryz.func57 rfl rfl ?_
  refine .seq <| .region <| .s rfl rfl <| .nil <| .seq <| .region <| .m rfl rfl <| .e rfl (.build bt96 rfl ⟨(hv.ext hs0.ext).oneCell, trivial⟩ rfl) <| .f rfl (.call ent97 rfl ((r6validate_n _ (l) _ (hv.ext hs0.ext) hn).mono fun r_1 w_1 h_1 => ?_))
  obtain ⟨ri_1, rk_1, re_1, rfl, hre_1, hp_1⟩ := h_1
  have hs_1 := hs0.adds hp_1
  refine .m rfl rfl <| .e rfl (.extract rfl rfl) <| .e rfl (.extract rfl rfl) <| .e rfl (.extract rfl rfl) <| .s rfl rfl <| .s rfl rfl <| .s rfl rfl <| .nil <| .seq <| .region <| .m rfl rfl <| .e rfl (.eql rfl rfl) <| .s rfl rfl <| .nil <| .ret ?_
  show PostK _ _ _ _ _ _
  refine post1 rfl rfl ?_
  have hs_2 : Sat w [] w_1 := hs_1.sub (.slnil)
  exact ⟨congrArg Value.bool (by unfold atsB; exact decide_eq_decide.2 hre_1), hs_2⟩
set_option maxHeartbeats 1000000 in
theorem may_n (av pv rv : Value) (al : List (ByteArray × Bool)) (nx jr : Int) (pl : List Pc) (w : World) (ha : RdL w av encAt al) (hna : al.length ≤ 200000) (hp : RdL w pv encPc pl) (hnp : pl.length ≤ 200000) (hrow : ∀ p ∈ pl, RdL w p.sv.val encTx p.ns) (hdl : ∀ p ∈ pl, p.ns.length ≤ 9223372036854775807) (hrv : rv.oneCell' = true) :
    CallsV Tryz.prog 26 [(.agg #[av, (.int .i64 (nx)), (.int .i64 (jr)), pv, rv])] w fun r w' => r = .bool (stB al nx jr pl) ∧ Sat w [] w' := by
  have hs0 := Sat.start w
  refine callsV_of Tryz.func26 rfl rfl ?_
  refine .seq <| .region <| .f rfl (.box hs0 rfl fun b_1 w_1 hs_1 hch_1 hb_1 => ?_)
  refine .s rfl rfl <| .nil <| .seq <| .seq <| .mid (fun L' w' => Weak [(0, (.agg #[av, (.int .i64 (nx)), (.int .i64 (jr)), pv, rv])), (1, (.pointer (some ⟨b_1, 0, none⟩))), (2, (.bool false)), (35, (.bool (decide ((((((!(atsB al)) = true) ∨ ((1000000000 : Int) < (nx : Int))) ∨ ((jr : Int) < (1 : Int))) ∨ ((nx : Int) ≤ (jr : Int))) ∨ (16 < pl.length)))))] L' ∧ Sat w [cObj b_1 27 [av, (.int .i64 (nx)), (.int .i64 (jr)), pv, rv]] w') ?_ ?_
  · refine .region <| .e rfl (.fieldAddr fld27_0 rfl rfl) <| .e rfl (.load scal23 rfl (hs_1.cell (i := 0) (j := 0) rfl rfl)) <| .f rfl (.call ent57 rfl ((r42attrs_n _ (al) _ (ha.ext hs_1.ext) (by omega)).mono fun r_1 w_2 h_1 => ?_))
    obtain ⟨rfl, hp_1⟩ := h_1
    have hs_2 := hs_1.adds hp_1
    refine .e rfl (.notB rfl) <| .m rfl rfl ?_
    by_cases hg_1 : (!(atsB al)) = true
    · refine .no rfl rfl rfl (hg_1) rfl <| .no rfl rfl rfl (hg_1) rfl <| .no rfl rfl rfl (hg_1) rfl <| .e rfl (.pickY rfl (hg_1) rfl) <| .m rfl rfl <| .no rfl rfl rfl (rfl) rfl <| .no rfl rfl rfl (rfl) rfl <| .no rfl rfl rfl (rfl) rfl <| .e rfl (.pickY rfl (rfl) rfl) <| .m rfl rfl <| .no rfl rfl rfl (rfl) rfl <| .no rfl rfl rfl (rfl) rfl <| .no rfl rfl rfl (rfl) rfl <| .no rfl rfl rfl (rfl) rfl <| .no rfl rfl rfl (rfl) rfl <| .e rfl (.pickY rfl (rfl) rfl) <| .m rfl rfl <| .no rfl rfl rfl (rfl) rfl <| .no rfl rfl rfl (rfl) rfl <| .no rfl rfl rfl (rfl) rfl <| .no rfl rfl rfl (rfl) rfl <| .e rfl (.pickY rfl (rfl) rfl) <| .nil ?_
      exact ⟨⟨rfl, rfl, rfl, congrArg some (congrArg Value.bool (by simp [hg_1])), trivial⟩, hs_2⟩
    · refine .yes rfl rfl rfl (by simpa using hg_1) <| .e rfl (.fieldAddr fld27_1 rfl rfl) <| .yes rfl rfl rfl (by simpa using hg_1) <| .e rfl (.load scal3 rfl (hs_2.cell (i := 0) (j := 1) rfl rfl)) <| .yes rfl rfl rfl (by simpa using hg_1) <| .e rfl (.gtr rfl rfl) <| .e rfl (.pickN rfl (by simpa using hg_1) rfl) <| .m rfl rfl ?_
      by_cases hg_2 : (1000000000 : Int) < (nx : Int)
      · refine .no rfl rfl rfl (decide_eq_true hg_2) rfl <| .no rfl rfl rfl (decide_eq_true hg_2) rfl <| .no rfl rfl rfl (decide_eq_true hg_2) rfl <| .e rfl (.pickY rfl (decide_eq_true hg_2) rfl) <| .m rfl rfl <| .no rfl rfl rfl (rfl) rfl <| .no rfl rfl rfl (rfl) rfl <| .no rfl rfl rfl (rfl) rfl <| .no rfl rfl rfl (rfl) rfl <| .no rfl rfl rfl (rfl) rfl <| .e rfl (.pickY rfl (rfl) rfl) <| .m rfl rfl <| .no rfl rfl rfl (rfl) rfl <| .no rfl rfl rfl (rfl) rfl <| .no rfl rfl rfl (rfl) rfl <| .no rfl rfl rfl (rfl) rfl <| .e rfl (.pickY rfl (rfl) rfl) <| .nil ?_
        exact ⟨⟨rfl, rfl, rfl, congrArg some (congrArg Value.bool (by simp [hg_1, hg_2])), trivial⟩, hs_2⟩
      · refine .yes rfl rfl rfl (decide_eq_false hg_2) <| .e rfl (.fieldAddr fld27_2 rfl rfl) <| .yes rfl rfl rfl (decide_eq_false hg_2) <| .e rfl (.load scal3 rfl (hs_2.cell (i := 0) (j := 2) rfl rfl)) <| .yes rfl rfl rfl (decide_eq_false hg_2) <| .e rfl (.lss rfl rfl) <| .e rfl (.pickN rfl (decide_eq_false hg_2) rfl) <| .m rfl rfl ?_
        by_cases hg_3 : (jr : Int) < (1 : Int)
        · refine .no rfl rfl rfl (decide_eq_true hg_3) rfl <| .no rfl rfl rfl (decide_eq_true hg_3) rfl <| .no rfl rfl rfl (decide_eq_true hg_3) rfl <| .no rfl rfl rfl (decide_eq_true hg_3) rfl <| .no rfl rfl rfl (decide_eq_true hg_3) rfl <| .e rfl (.pickY rfl (decide_eq_true hg_3) rfl) <| .m rfl rfl <| .no rfl rfl rfl (rfl) rfl <| .no rfl rfl rfl (rfl) rfl <| .no rfl rfl rfl (rfl) rfl <| .no rfl rfl rfl (rfl) rfl <| .e rfl (.pickY rfl (rfl) rfl) <| .nil ?_
          exact ⟨⟨rfl, rfl, rfl, congrArg some (congrArg Value.bool (by simp [hg_1, hg_2, hg_3])), trivial⟩, hs_2⟩
        · refine .yes rfl rfl rfl (decide_eq_false hg_3) <| .e rfl (.fieldAddr fld27_2 rfl rfl) <| .yes rfl rfl rfl (decide_eq_false hg_3) <| .e rfl (.load scal3 rfl (hs_2.cell (i := 0) (j := 2) rfl rfl)) <| .yes rfl rfl rfl (decide_eq_false hg_3) <| .e rfl (.fieldAddr fld27_1 rfl rfl) <| .yes rfl rfl rfl (decide_eq_false hg_3) <| .e rfl (.load scal3 rfl (hs_2.cell (i := 0) (j := 1) rfl rfl)) <| .yes rfl rfl rfl (decide_eq_false hg_3) <| .e rfl (.geq rfl rfl) <| .e rfl (.pickN rfl (decide_eq_false hg_3) rfl) <| .m rfl rfl ?_
          by_cases hg_4 : (nx : Int) ≤ (jr : Int)
          · refine .no rfl rfl rfl (decide_eq_true hg_4) rfl <| .no rfl rfl rfl (decide_eq_true hg_4) rfl <| .no rfl rfl rfl (decide_eq_true hg_4) rfl <| .no rfl rfl rfl (decide_eq_true hg_4) rfl <| .e rfl (.pickY rfl (decide_eq_true hg_4) rfl) <| .nil ?_
            exact ⟨⟨rfl, rfl, rfl, congrArg some (congrArg Value.bool (by simp [hg_1, hg_2, hg_3, hg_4])), trivial⟩, hs_2⟩
          · refine .yes rfl rfl rfl (decide_eq_false hg_4) <| .e rfl (.fieldAddr fld27_3 rfl rfl) <| .yes rfl rfl rfl (decide_eq_false hg_4) <| .e rfl (.load scal24 rfl (hs_2.cell (i := 0) (j := 3) rfl rfl)) <| .yes rfl rfl rfl (decide_eq_false hg_4) <| .e rfl (.lenL Tryz.underlying24 rfl (hp.ext hs_2.ext)) <| .yes rfl rfl rfl (decide_eq_false hg_4) <| .e rfl (.gtrN (b := 16) rfl rfl) <| .e rfl (.pickN rfl (decide_eq_false hg_4) rfl) <| .nil ?_
            exact ⟨⟨rfl, rfl, rfl, congrArg some (congrArg Value.bool (by simp [hg_1, hg_2, hg_3, hg_4])), trivial⟩, hs_2⟩
  · rintro L' w_3 ⟨hw_1, hs_3⟩
    refine .weaken _ hw_1 <| .condD rfl (fun hc_1 => ?_) (fun hc_1 => ?_)
    · refine .seq <| .region <| .s rfl rfl <| .nil <| .ret ?_
      show PostK _ _ _ _ _ _
      refine post1 rfl rfl ?_
      have hs_4 : Sat w [] w_3 := hs_3.sub ((.cons _ .slnil))
      have hno : stB al nx jr pl = false := stB_no.2 fun h9 => by
        obtain ⟨h1, h2, h3, h4, h5, _⟩ := h9
        have h8 := hc_1
        rw [atsB_iff.2 h1] at h8
        simp only [Bool.not_true, Bool.false_eq_true, false_or] at h8
        omega
      exact ⟨by rw [hno], hs_4⟩
    · refine .skip <| .seq <| .seq ?_
      have hok1 : atsOk al ∧ nx ≤ 1000000000 ∧ 1 ≤ jr ∧ jr < nx ∧ pl.length ≤ 16 := by have h9 := hc_1; simp only [not_or] at h9; exact ⟨atsB_iff.1 (by simpa using h9.1.1.1.1), by omega, by omega, by omega, by omega⟩
      refine .region <| .e rfl (.fieldAddr fld27_3 rfl rfl) <| .e rfl (.load scal24 rfl (hs_3.cell (i := 0) (j := 3) rfl rfl)) <| .e rfl (.lenL Tryz.underlying24 rfl (hp.ext hs_3.ext)) <| .m rfl rfl <| .nil <| .block <| .loop (α := Nat) (fun k => [(1, (.pointer (some ⟨b_1, 0, none⟩))), (37, pv), (38, (.int .i64 pl.length)), (39, (.int .i64 k))]) (fun k w' => Sat w [cObj b_1 27 [av, (.int .i64 (nx)), (.int .i64 (jr)), pv, rv]] w' ∧ (k ≤ pl.length) ∧ (∀ i, i < k → pcOkAt nx jr pl i)) (fun k => pl.length - k) 0 ⟨rfl, rfl, rfl, rfl, trivial⟩ ⟨hs_3, Nat.zero_le _, fun i hi => absurd hi (Nat.not_lt_zero i)⟩ ?_
      rintro k w_4 ⟨hs_5, hk, hall⟩
      show CW _ _ _ _ [(1, (.pointer (some ⟨b_1, 0, none⟩))), (37, pv), (38, (.int .i64 pl.length)), (39, (.int .i64 k))] _
      refine .seq <| .region <| .e rfl (.lssN rfl rfl) <| .nil <| .seq <| .condD rfl (fun hc_2 => ?_) (fun hc_2 => ?_)
      · refine .skip <| .seq <| .block <| .seq ?_
        obtain ⟨x, hx⟩ : ∃ x, (pl)[k]? = some x := ⟨_, List.getElem?_eq_getElem hc_2⟩
        have hxd := hdl x (mem_of_get hx)
        refine .region <| .m rfl rfl <| .e rfl (.idxL (E := encPc) sl24 rfl rfl (hp.ext hs_5.ext) (by omega)) <| .e rfl (.ldAgg (E := encPc) agg72 rfl (hp.ext hs_5.ext) hx (by decide)) <| .f rfl (.alloc hs_5 zero72 fun b_2 w_5 hs_6 hch_2 hb_2 => ?_)
        refine .s rfl rfl <| .f rfl (.storeObjA (vs := (encPc).enc x) agg72 hs_6 (i := 1) rfl rfl rfl rfl ((encPc).one _) fun w_6 hs_7 hch_3 => ?_)
        refine .nil <| .seq <| .seq <| .mid (fun L' w' => Weak [(1, (.pointer (some ⟨b_1, 0, none⟩))), (3, (.int .i64 k)), (4, (.pointer (some ⟨b_2, 0, none⟩))), (37, pv), (38, (.int .i64 pl.length)), (39, (.int .i64 k)), (40, (.bool (decide (k < pl.length)))), (66, (.bool (decide (((((x.f : Int) < (1 : Int)) ∨ ((nx : Int) ≤ (x.f : Int))) ∨ ((x.f : Int) = (jr : Int))) ∨ (64 < x.ns.length)))))] L' ∧ Sat w [cObj b_1 27 [av, (.int .i64 (nx)), (.int .i64 (jr)), pv, rv], cObj b_2 72 [(.int .i64 (x.f)), x.sv.val]] w') ?_ ?_
        · refine .region <| .e rfl (.fieldAddr fld72_0 rfl rfl) <| .e rfl (.load scal3 rfl (hs_7.cell (i := 1) (j := 0) rfl rfl)) <| .e rfl (.lss rfl rfl) <| .m rfl rfl ?_
          by_cases hg_5 : (x.f : Int) < (1 : Int)
          · refine .no rfl rfl rfl (decide_eq_true hg_5) rfl <| .no rfl rfl rfl (decide_eq_true hg_5) rfl <| .no rfl rfl rfl (decide_eq_true hg_5) rfl <| .no rfl rfl rfl (decide_eq_true hg_5) rfl <| .no rfl rfl rfl (decide_eq_true hg_5) rfl <| .e rfl (.pickY rfl (decide_eq_true hg_5) rfl) <| .m rfl rfl <| .no rfl rfl rfl (rfl) rfl <| .no rfl rfl rfl (rfl) rfl <| .no rfl rfl rfl (rfl) rfl <| .no rfl rfl rfl (rfl) rfl <| .no rfl rfl rfl (rfl) rfl <| .e rfl (.pickY rfl (rfl) rfl) <| .m rfl rfl <| .no rfl rfl rfl (rfl) rfl <| .no rfl rfl rfl (rfl) rfl <| .no rfl rfl rfl (rfl) rfl <| .no rfl rfl rfl (rfl) rfl <| .e rfl (.pickY rfl (rfl) rfl) <| .nil ?_
            exact ⟨⟨rfl, rfl, rfl, rfl, rfl, rfl, rfl, congrArg some (congrArg Value.bool (by simp [hg_5])), trivial⟩, hs_7⟩
          · refine .yes rfl rfl rfl (decide_eq_false hg_5) <| .e rfl (.fieldAddr fld72_0 rfl rfl) <| .yes rfl rfl rfl (decide_eq_false hg_5) <| .e rfl (.load scal3 rfl (hs_7.cell (i := 1) (j := 0) rfl rfl)) <| .yes rfl rfl rfl (decide_eq_false hg_5) <| .e rfl (.fieldAddr fld27_1 rfl rfl) <| .yes rfl rfl rfl (decide_eq_false hg_5) <| .e rfl (.load scal3 rfl (hs_7.cell (i := 0) (j := 1) rfl rfl)) <| .yes rfl rfl rfl (decide_eq_false hg_5) <| .e rfl (.geq rfl rfl) <| .e rfl (.pickN rfl (decide_eq_false hg_5) rfl) <| .m rfl rfl ?_
            by_cases hg_6 : (nx : Int) ≤ (x.f : Int)
            · refine .no rfl rfl rfl (decide_eq_true hg_6) rfl <| .no rfl rfl rfl (decide_eq_true hg_6) rfl <| .no rfl rfl rfl (decide_eq_true hg_6) rfl <| .no rfl rfl rfl (decide_eq_true hg_6) rfl <| .no rfl rfl rfl (decide_eq_true hg_6) rfl <| .e rfl (.pickY rfl (decide_eq_true hg_6) rfl) <| .m rfl rfl <| .no rfl rfl rfl (rfl) rfl <| .no rfl rfl rfl (rfl) rfl <| .no rfl rfl rfl (rfl) rfl <| .no rfl rfl rfl (rfl) rfl <| .e rfl (.pickY rfl (rfl) rfl) <| .nil ?_
              exact ⟨⟨rfl, rfl, rfl, rfl, rfl, rfl, rfl, congrArg some (congrArg Value.bool (by simp [hg_5, hg_6])), trivial⟩, hs_7⟩
            · refine .yes rfl rfl rfl (decide_eq_false hg_6) <| .e rfl (.fieldAddr fld72_0 rfl rfl) <| .yes rfl rfl rfl (decide_eq_false hg_6) <| .e rfl (.load scal3 rfl (hs_7.cell (i := 1) (j := 0) rfl rfl)) <| .yes rfl rfl rfl (decide_eq_false hg_6) <| .e rfl (.fieldAddr fld27_2 rfl rfl) <| .yes rfl rfl rfl (decide_eq_false hg_6) <| .e rfl (.load scal3 rfl (hs_7.cell (i := 0) (j := 2) rfl rfl)) <| .yes rfl rfl rfl (decide_eq_false hg_6) <| .e rfl (.eql rfl rfl) <| .e rfl (.pickN rfl (decide_eq_false hg_6) rfl) <| .m rfl rfl ?_
              by_cases hg_7 : (x.f : Int) = (jr : Int)
              · refine .no rfl rfl rfl (decide_eq_true hg_7) rfl <| .no rfl rfl rfl (decide_eq_true hg_7) rfl <| .no rfl rfl rfl (decide_eq_true hg_7) rfl <| .no rfl rfl rfl (decide_eq_true hg_7) rfl <| .e rfl (.pickY rfl (decide_eq_true hg_7) rfl) <| .nil ?_
                exact ⟨⟨rfl, rfl, rfl, rfl, rfl, rfl, rfl, congrArg some (congrArg Value.bool (by simp [hg_5, hg_6, hg_7])), trivial⟩, hs_7⟩
              · refine .yes rfl rfl rfl (decide_eq_false hg_7) <| .e rfl (.fieldAddr fld72_1 rfl rfl) <| .yes rfl rfl rfl (decide_eq_false hg_7) <| .e rfl (.load scal61 rfl (hs_7.cell (i := 1) (j := 1) rfl rfl)) <| .yes rfl rfl rfl (decide_eq_false hg_7) <| .e rfl (.lenL Tryz.underlying61 rfl ((hrow x (mem_of_get hx)).ext hs_7.ext)) <| .yes rfl rfl rfl (decide_eq_false hg_7) <| .e rfl (.gtrN (b := 64) rfl rfl) <| .e rfl (.pickN rfl (decide_eq_false hg_7) rfl) <| .nil ?_
                exact ⟨⟨rfl, rfl, rfl, rfl, rfl, rfl, rfl, congrArg some (congrArg Value.bool (by simp [hg_5, hg_6, hg_7])), trivial⟩, hs_7⟩
        · rintro L' w_7 ⟨hw_2, hs_8⟩
          refine .weaken _ hw_2 <| .condD rfl (fun hc_3 => ?_) (fun hc_3 => ?_)
          · refine .seq <| .region <| .s rfl rfl <| .nil <| .ret ?_
            show PostK _ _ _ _ _ _
            refine post1 rfl rfl ?_
            have hs_9 : Sat w [] w_7 := hs_8.sub ((.cons _ (.cons _ .slnil)))
            have hno : stB al nx jr pl = false := stB_no.2 fun h9 => by
              obtain ⟨h1, h2, h3, h4⟩ := h9.2.2.2.2.2 k x hx
              rcases hc_3 with ((h5 | h5) | h5) | h5
              · omega
              · omega
              · exact h3 (by rw [h5]; exact List.mem_cons_self ..)
              · have := h4.2; omega
            exact ⟨by rw [hno], hs_9⟩
          · refine .skip <| .seq <| .seq ?_
            have h6ok := hc_3
            refine .region <| .e rfl (.fieldAddr fld27_3 rfl rfl) <| .e rfl (.load scal24 rfl (hs_8.cell (i := 0) (j := 3) rfl rfl)) <| .m rfl rfl <| .e rfl (.sliceL (E := encPc) (a := 0) (c := k) sl24 rfl (hp.ext hs_8.ext) rfl ⟨_, rfl⟩ (Nat.zero_le _) (by omega)) <| .e rfl (.lenL Tryz.underlying24 rfl (((hp.ext hs_8.ext)).sub (a := 0) (b := k) (Nat.zero_le _) (by omega))) <| .m rfl rfl <| .nil <| .block <| .loop (α := Nat) (fun j => [(1, (.pointer (some ⟨b_1, 0, none⟩))), (3, (.int .i64 k)), (4, (.pointer (some ⟨b_2, 0, none⟩))), (37, pv), (38, (.int .i64 pl.length)), (39, (.int .i64 k)), (70, (subSl (encPc).s pv 0 k)), (71, (.int .i64 ((((pl).take k).drop 0).length : Nat))), (72, (.int .i64 j))]) (fun j w' => Sat w [cObj b_1 27 [av, (.int .i64 (nx)), (.int .i64 (jr)), pv, rv], cObj b_2 72 [(.int .i64 (x.f)), x.sv.val]] w' ∧ (∀ i, i < j → ∀ q, (pl.take k)[i]? = some q → q.f ≠ x.f)) (fun j => (((pl).take k).drop 0).length - j) 0 ⟨rfl, rfl, rfl, rfl, rfl, rfl, rfl, rfl, rfl, trivial⟩ ⟨hs_8, fun i hi => absurd hi (Nat.not_lt_zero i)⟩ ?_
            rintro j w_8 ⟨hs_10, hin⟩
            show CW _ _ _ _ [(1, (.pointer (some ⟨b_1, 0, none⟩))), (3, (.int .i64 k)), (4, (.pointer (some ⟨b_2, 0, none⟩))), (37, pv), (38, (.int .i64 pl.length)), (39, (.int .i64 k)), (70, (subSl (encPc).s pv 0 k)), (71, (.int .i64 ((((pl).take k).drop 0).length : Nat))), (72, (.int .i64 j))] _
            refine .seq <| .region <| .e rfl (.lssN rfl rfl) <| .nil <| .seq <| .condD rfl (fun hc_4 => ?_) (fun hc_4 => ?_)
            · refine .skip <| .seq <| .block <| .seq ?_
              obtain ⟨y, hy⟩ : ∃ y, (((pl).take k).drop 0)[j]? = some y := ⟨_, List.getElem?_eq_getElem hc_4⟩
              have hjl : j < k := by have h9 := hc_4; rw [List.length_drop, List.length_take] at h9; omega
              have hyl : (pl.take k)[j]? = some y := by have h9 := hy; rw [List.drop_zero] at h9; exact h9
              have hym : y ∈ pl := List.mem_of_mem_take (mem_of_get hyl)
              refine .region <| .e rfl (.idxL (E := encPc) sl24 rfl rfl (((hp.ext hs_10.ext)).sub (a := 0) (b := k) (Nat.zero_le _) (by omega)) (by omega)) <| .e rfl (.ldAgg (E := encPc) agg72 rfl (((hp.ext hs_10.ext)).sub (a := 0) (b := k) (Nat.zero_le _) (by omega)) hy (by decide)) <| .f rfl (.alloc hs_10 zero72 fun b_3 w_9 hs_11 hch_4 hb_3 => ?_)
              refine .f rfl (.storeObjA (vs := (encPc).enc y) agg72 hs_11 (i := 2) rfl rfl rfl rfl ((encPc).one _) fun w_10 hs_12 hch_5 => ?_)
              refine .nil <| .seq <| .region <| .e rfl (.fieldAddr fld72_0 rfl rfl) <| .e rfl (.load scal3 rfl (hs_12.cell (i := 2) (j := 0) rfl rfl)) <| .e rfl (.fieldAddr fld72_0 rfl rfl) <| .e rfl (.load scal3 rfl (hs_12.cell (i := 1) (j := 0) rfl rfl)) <| .e rfl (.eql rfl rfl) <| .nil <| .condD rfl (fun hc_5 => ?_) (fun hc_5 => ?_)
              · refine .seq <| .region <| .s rfl rfl <| .nil <| .ret ?_
                show PostK _ _ _ _ _ _
                refine post1 rfl rfl ?_
                have hs_13 : Sat w [] w_10 := hs_12.sub ((.cons _ (.cons _ (.cons _ .slnil))))
                have hno : stB al nx jr pl = false := stB_no.2 fun h9 => by
                  obtain ⟨h1, h2, h3, h4⟩ := h9.2.2.2.2.2 k x hx
                  exact h3 (List.mem_cons_of_mem _ (by rw [← hc_5]; exact List.mem_map_of_mem (mem_of_get hyl)))
                exact ⟨by rw [hno], hs_13⟩
              · refine .skip <| .region <| .e rfl (.addI (b := 1) rfl rfl (by omega)) <| .m rfl rfl <| .nil ?_
                have hs_14 : Sat w [_, _] w_10 := hs_12.sub ((.cons_cons _ (.cons_cons _ (.cons _ .slnil))))
                exact ⟨j + 1, ⟨rfl, rfl, rfl, rfl, rfl, rfl, rfl, rfl, rfl, trivial⟩, ⟨hs_14, fun i hi q hq => by
      rcases Nat.lt_or_ge i j with h | h
      · exact hin i h q hq
      · have e : i = j := by omega
        subst e
        rw [hyl] at hq; cases hq; exact hc_5⟩, (show ((((pl).take k).drop 0).length - (j + 1)) < ((((pl).take k).drop 0).length - j) from by omega)⟩
            · refine .exit0 <| .seq ?_
              have hjn := hc_4
              refine .region <| .e rfl (.fieldAddr fld72_1 rfl rfl) <| .e rfl (.load scal61 rfl (hs_10.cell (i := 1) (j := 1) rfl rfl)) <| .e rfl (.lenL Tryz.underlying61 rfl ((hrow x (mem_of_get hx)).ext hs_10.ext)) <| .m rfl rfl <| .nil <| .block <| .loop (α := Nat) (fun m => [(1, (.pointer (some ⟨b_1, 0, none⟩))), (4, (.pointer (some ⟨b_2, 0, none⟩))), (37, pv), (38, (.int .i64 pl.length)), (39, (.int .i64 k)), (83, x.sv.val), (84, (.int .i64 x.ns.length)), (85, (.int .i64 m))]) (fun m w' => Sat w [cObj b_1 27 [av, (.int .i64 (nx)), (.int .i64 (jr)), pv, rv], cObj b_2 72 [(.int .i64 (x.f)), x.sv.val]] w' ∧ (m ≤ x.ns.length) ∧ (∀ i, i < m → ∀ z, x.ns[i]? = some z → nameB z = true ∧ (0 < i → ∀ y, x.ns[i - 1]? = some y → SLt y z))) (fun m => x.ns.length - m) 0 ⟨rfl, rfl, rfl, rfl, rfl, rfl, rfl, rfl, trivial⟩ ⟨hs_10, Nat.zero_le _, fun i hi => absurd hi (Nat.not_lt_zero i)⟩ ?_
              rintro m w_11 ⟨hs_15, hm, hdn⟩
              show CW _ _ _ _ [(1, (.pointer (some ⟨b_1, 0, none⟩))), (4, (.pointer (some ⟨b_2, 0, none⟩))), (37, pv), (38, (.int .i64 pl.length)), (39, (.int .i64 k)), (83, x.sv.val), (84, (.int .i64 x.ns.length)), (85, (.int .i64 m))] _
              refine .seq <| .region <| .e rfl (.lssN rfl rfl) <| .nil <| .seq <| .condD rfl (fun hc_6 => ?_) (fun hc_6 => ?_)
              · refine .skip <| .seq <| .block <| .seq ?_
                obtain ⟨z, hz⟩ : ∃ z, x.ns[m]? = some z := ⟨_, List.getElem?_eq_getElem hc_6⟩
                obtain ⟨q, hq⟩ : ∃ q : ByteArray, 0 < m → x.ns[m - 1]? = some q := by rcases Nat.eq_zero_or_pos m with h | h; exact ⟨ByteArray.empty, fun h9 => absurd h9 (by omega)⟩; exact ⟨_, fun _ => List.getElem?_eq_getElem (show m - 1 < x.ns.length by omega)⟩
                refine .region <| .m rfl rfl <| .e rfl (.idxL (E := encTx) sl61 rfl rfl ((hrow x (mem_of_get hx)).ext hs_15.ext) (by omega)) <| .e rfl (.ldL (E := encTx) scal9 rfl ((hrow x (mem_of_get hx)).ext hs_15.ext) hz (by decide) rfl) <| .s rfl rfl <| .s rfl rfl <| .nil <| .seq <| .mid (fun L' w' => Weak [(1, (.pointer (some ⟨b_1, 0, none⟩))), (4, (.pointer (some ⟨b_2, 0, none⟩))), (7, (.int .i64 m)), (8, (.string z)), (37, pv), (38, (.int .i64 pl.length)), (39, (.int .i64 k)), (83, x.sv.val), (84, (.int .i64 x.ns.length)), (85, (.int .i64 m)), (86, (.bool (decide (m < x.ns.length)))), (106, (.bool (decide (((!(nameB z)) = true) ∨ ((0 < m) ∧ (¬ SLt q z))))))] L' ∧ Sat w [cObj b_1 27 [av, (.int .i64 (nx)), (.int .i64 (jr)), pv, rv], cObj b_2 72 [(.int .i64 (x.f)), x.sv.val]] w') ?_ ?_
                · refine .region <| .m rfl rfl <| .f rfl (.call ent58 rfl ((rvalidName_n z _).mono fun r_2 w_12 h_2 => ?_))
                  obtain ⟨rfl, hp_2⟩ := h_2
                  have hs_16 := hs_15.adds hp_2
                  refine .e rfl (.notB rfl) <| .m rfl rfl ?_
                  by_cases hg_8 : (!(nameB z)) = true
                  · refine .no rfl rfl rfl (hg_8) rfl <| .no rfl rfl rfl (hg_8) rfl <| .no rfl rfl rfl (hg_8) rfl <| .noU rfl rfl rfl rfl <| .noU rfl rfl rfl rfl <| .noU rfl rfl rfl rfl <| .noU rfl rfl rfl rfl <| .noU rfl rfl rfl rfl <| .noU rfl rfl rfl rfl <| .noU rfl rfl rfl rfl <| .noU rfl rfl rfl rfl <| .no rfl rfl rfl (hg_8) rfl <| .e rfl (.pickY rfl (hg_8) rfl) <| .nil ?_
                    exact ⟨⟨rfl, rfl, rfl, rfl, rfl, rfl, rfl, rfl, rfl, rfl, rfl, congrArg some (congrArg Value.bool (by simp [hg_8])), trivial⟩, hs_16⟩
                  · refine .yes rfl rfl rfl (by simpa using hg_8) <| .m rfl rfl <| .yes rfl rfl rfl (by simpa using hg_8) <| .e rfl (.gtrN (b := 0) rfl rfl) <| .yes rfl rfl rfl (by simpa using hg_8) <| .m rfl rfl ?_
                    by_cases hg_9 : 0 < m
                    · refine .yes rfl rfl rfl (decide_eq_true hg_9) <| .e rfl (.fieldAddr fld72_1 rfl rfl) <| .yes rfl rfl rfl (decide_eq_true hg_9) <| .e rfl (.load scal61 rfl (hs_16.cell (i := 1) (j := 1) rfl rfl)) <| .yes rfl rfl rfl (decide_eq_true hg_9) <| .m rfl rfl <| .yes rfl rfl rfl (decide_eq_true hg_9) <| .e rfl (.subI (b := 1) rfl rfl (by omega) (by omega)) <| .yes rfl rfl rfl (decide_eq_true hg_9) <| .e rfl (.idxL (E := encTx) sl61 rfl rfl ((hrow x (mem_of_get hx)).ext hs_16.ext) (by omega)) <| .yes rfl rfl rfl (decide_eq_true hg_9) <| .e rfl (.ldL (E := encTx) scal9 rfl ((hrow x (mem_of_get hx)).ext hs_16.ext) (hq (by omega)) (by decide) rfl) <| .yes rfl rfl rfl (decide_eq_true hg_9) <| .m rfl rfl <| .yes rfl rfl rfl (decide_eq_true hg_9) <| .e rfl (.strGeq rfl rfl) <| .yes rfl rfl rfl (by simpa using hg_8) <| .e rfl (.pickY rfl (decide_eq_true hg_9) rfl) <| .e rfl (.pickN rfl (by simpa using hg_8) rfl) <| .nil ?_
                      exact ⟨⟨rfl, rfl, rfl, rfl, rfl, rfl, rfl, rfl, rfl, rfl, rfl, congrArg some (congrArg Value.bool (by simp [hg_8, hg_9])), trivial⟩, hs_16⟩
                    · refine .no rfl rfl rfl (decide_eq_false hg_9) rfl <| .no rfl rfl rfl (decide_eq_false hg_9) rfl <| .no rfl rfl rfl (decide_eq_false hg_9) rfl <| .no rfl rfl rfl (decide_eq_false hg_9) rfl <| .no rfl rfl rfl (decide_eq_false hg_9) rfl <| .no rfl rfl rfl (decide_eq_false hg_9) rfl <| .no rfl rfl rfl (decide_eq_false hg_9) rfl <| .no rfl rfl rfl (decide_eq_false hg_9) rfl <| .yes rfl rfl rfl (by simpa using hg_8) <| .e rfl (.pickN rfl (decide_eq_false hg_9) rfl) <| .e rfl (.pickN rfl (by simpa using hg_8) rfl) <| .nil ?_
                      exact ⟨⟨rfl, rfl, rfl, rfl, rfl, rfl, rfl, rfl, rfl, rfl, rfl, congrArg some (congrArg Value.bool (by simp [hg_8, hg_9])), trivial⟩, hs_16⟩
                · rintro L' w_13 ⟨hw_3, hs_17⟩
                  refine .weaken _ hw_3 <| .condD rfl (fun hc_7 => ?_) (fun hc_7 => ?_)
                  · refine .seq <| .region <| .s rfl rfl <| .nil <| .ret ?_
                    show PostK _ _ _ _ _ _
                    refine post1 rfl rfl ?_
                    have hs_18 : Sat w [] w_13 := hs_17.sub ((.cons _ (.cons _ .slnil)))
                    have hno : stB al nx jr pl = false := stB_no.2 fun h9 => by
                      obtain ⟨h1, h2, h3, h4⟩ := h9.2.2.2.2.2 k x hx
                      obtain ⟨h6, h7⟩ := h4.1 m z hz
                      rcases hc_7 with h5 | h5
                      · rw [h6] at h5; cases h5
                      · exact h5.2 (h7 (by omega) q (hq (by omega)))
                    exact ⟨by rw [hno], hs_18⟩
                  · refine .skip <| .region <| .e rfl (.addI (b := 1) rfl rfl (by omega)) <| .m rfl rfl <| .nil ?_
                    exact ⟨m + 1, ⟨rfl, rfl, rfl, rfl, rfl, rfl, rfl, rfl, trivial⟩, ⟨hs_17, by omega, fun i hi t ht => by
      rcases Nat.lt_or_ge i m with h | h
      · exact hdn i h t ht
      · have e : i = m := by omega
        subst e
        rw [hz] at ht; cases ht
        refine ⟨by cases h8 : nameB z <;> simp_all, fun h0 u hu => ?_⟩
        rw [hq h0] at hu; cases hu
        exact Classical.byContradiction fun h7 => hc_7 (.inr ⟨by omega, h7⟩)⟩, (show (x.ns.length - (m + 1)) < (x.ns.length - m) from by omega)⟩
              · refine .exit0 ?_
                have hmn := hc_6
                refine .region <| .e rfl (.addI (b := 1) rfl rfl (by omega)) <| .m rfl rfl <| .nil ?_
                have hs_19 : Sat w [_] w_11 := hs_15.sub ((.cons_cons _ (.cons _ .slnil)))
                exact ⟨k + 1, ⟨rfl, rfl, rfl, rfl, trivial⟩, ⟨hs_19, by omega, fun i hi z hz => by
      rcases Nat.lt_or_ge i k with h | h
      · exact hall i h z hz
      · have e : i = k := by omega
        subst e
        rw [hx] at hz; cases hz
        have h7 := h6ok
        simp only [not_or] at h7
        refine ⟨by omega, by omega, fun hm => ?_, all_lt_len hdn (by omega), by omega⟩
        rcases List.mem_cons.1 hm with h8 | h8
        · exact h7.1.2 h8
        · obtain ⟨q, hq, hqe⟩ := List.mem_map.1 h8
          obtain ⟨t, ht⟩ := List.getElem?_of_mem hq
          have h5 := (List.getElem?_eq_some_iff.1 ht).1
          have h4 := hjn
          rw [List.length_take] at h5
          rw [List.length_drop, List.length_take] at h4
          exact hin t (by omega) q ht hqe⟩, (show (pl.length - (k + 1)) < (pl.length - k) from by omega)⟩
      · refine .exit0 <| .seq <| .region <| .s rfl rfl <| .nil <| .ret ?_
        show PostK _ _ _ _ _ _
        refine post1 rfl rfl ?_
        have hs_20 : Sat w [] w_4 := hs_5.sub ((.cons _ .slnil))
        have hyes : stB al nx jr pl = true := stB_iff.2 ⟨hok1.1, hok1.2.1, hok1.2.2.1, hok1.2.2.2.1, hok1.2.2.2.2, fun i z hz => hall i (by have := (List.getElem?_eq_some_iff.1 hz).1; omega) z hz⟩
        exact ⟨by rw [hyes], hs_20⟩
end Go.Proofs.YtecfgjdpghddgaaGreatDoor
namespace Go.Proofs.YtecfgjdpghddgaaGreatDoor
open Go.RowKit Go.Kw
set_option maxRecDepth 100000
theorem atS_ok : atB Tryz.prog 70 = true := by kernel_rfl
theorem decS_size {n : Nat} (h : n < 10000000000000000000) : (decS n).size ≤ 19 := by unfold decS; rw [bs_size]; exact decN_length (k := 18) h
theorem decS_one {n : Nat} (h : n < 10) : strOf [48 + n] = decS n := by unfold decS decN; rw [if_pos h]; rfl
theorem decS_more {n : Nat} (h : ¬ n < 10) : decS (n / 10) ++ decS (n % 10) = decS n := by
  unfold decS; rw [bs_app]
  conv => rhs; unfold decN
  rw [if_neg h]
  conv => lhs; rw [decN.eq_def (n % 10)]
  rw [if_pos (by omega)]
theorem decimal_step (n : Nat) (w : World) (hn : n ≤ 4611686018427387904) (ih : ∀ (m : Nat) (w : World), m < n → CallsV Tryz.prog 27 [.int .i64 ((m : Nat) : Int)] w fun r w' => r = .string (decS m) ∧ Sat w [] w') :
    CallsV Tryz.prog 27 [(.int .i64 n)] w fun r w' => r = .string (decS n) ∧ Sat w [] w' := by
  have hs0 := Sat.start w
  refine callsV_of Tryz.func27 rfl rfl ?_
  refine .seq <| .region <| .s rfl rfl <| .nil <| .seq <| .seq <| .region <| .m rfl rfl <| .e rfl (.lssN (b := 0) rfl rfl) <| .nil <| .condF rfl (decide_eq_false (by omega)) <| .skip <| .seq <| .seq <| .region <| .m rfl rfl <| .e rfl (.lssN (b := 10) rfl rfl) <| .nil <| .condD rfl (fun hc_1 => ?_) (fun hc_1 => ?_)
  · refine .seq <| .region <| .m rfl rfl <| .e rfl (.addI (a := 48) rfl rfl (by omega)) <| .e rfl (.convK (by rw [Tryz.underlying3]; rfl) Tryz.underlying5 rfl (wrap_u rfl (by (try simp only [IntKind.bits]); omega))) <| .f rfl (.lit1 (encN .u8) (48 + n) sl43 rfl hs0 rfl fun v_1 w_1 hs_1 hch_1 => ?_)
    refine .e rfl (.bytesStr Tryz.underlying43 Tryz.underlying9 Tryz.underlying5 rfl (hs_1.rdL 0 rfl)) <| .s rfl rfl <| .nil <| .ret ?_
    show PostK _ _ _ _ _ _
    refine post1 rfl rfl ?_
    have hs_2 : Sat w [] w_1 := hs_1.sub ((.cons _ .slnil))
    exact ⟨by rw [decS_one hc_1], hs_2⟩
  · refine .skip <| .seq <| .region <| .m rfl rfl <| .e rfl (.quo (b := 10) rfl rfl (by omega) (by unfold inI64; omega)) <| .f rfl (.call ent27 rfl ((ih (n / 10) _ (by omega)).mono fun r_1 w_2 h_1 => ?_))
    obtain ⟨rfl, hp_1⟩ := h_1
    have hs_3 := hs0.adds hp_1
    refine .m rfl rfl <| .e rfl (.rem (b := 10) rfl rfl (by omega)) <| .f rfl (.call ent27 rfl ((ih (n % 10) _ (by omega)).mono fun r_2 w_3 h_2 => ?_))
    obtain ⟨rfl, hp_2⟩ := h_2
    have hs_4 := hs_3.adds hp_2
    refine .e rfl (.strAdd rfl rfl (by have h1 := decS_size (n := n / 10) (by omega); have h2 := decS_size (n := n % 10) (by omega); omega)) <| .s rfl rfl <| .nil <| .ret ?_
    show PostK _ _ _ _ _ _
    refine post1 rfl rfl ?_
    have hs_5 : Sat w [] w_3 := hs_4.sub (.slnil)
    exact ⟨by rw [decS_more hc_1], hs_5⟩
theorem decimal_n (n : Nat) (w : World) (hn : n ≤ 4611686018427387904) : CallsV Tryz.prog 27 [.int .i64 ((n : Nat) : Int)] w fun r w' => r = .string (decS n) ∧ Sat w [] w' := by
  induction n using Nat.strongRecOn generalizing w with
  | _ n ih => exact decimal_step n w hn fun m w h => ih m h w (by omega)
theorem decimal_i (z : Int) (w : World) (h0 : 0 ≤ z) (hz : z ≤ 1000000000) : CallsV Tryz.prog 27 [.int .i64 z] w fun r w' => r = .string (decS z.toNat) ∧ Sat w [] w' := by
  obtain ⟨n, rfl⟩ := Int.eq_ofNat_of_zero_le h0
  exact decimal_n n w (by omega)
theorem split_n (s : ByteArray) (c : UInt8) (w : World) (hn : s.size ≤ 1000000) :
    CallsV Tryz.prog 37 [(.string s), (.int .u8 c.toNat)] w fun r w' => Sat w [cL r 9 encTx (cutB c s)] w' := by
  have hs0 := Sat.start w
  refine callsV_of Tryz.func37 rfl rfl ?_
  refine .seq <| .region <| .s rfl rfl <| .nil <| .seq <| .region <| .s rfl rfl <| .nil <| .seq <| .region <| .s rfl rfl <| .nil <| .seq <| .seq <| .region <| .s rfl rfl <| .nil <| .block ?_
  have hs_1 := hs0.newNilL 9 (encTx)
  refine .loop (α := Nat × Nat × Value × List ByteArray) (fun (k, f, v, o) => [(0, (.string s)), (1, (.int .u8 c.toNat)), (5, v), (6, (.int .i64 f)), (7, (.int .i64 k))]) (fun (k, f, v, o) w' => Sat w [cL v 9 (encTx) (o)] w' ∧ (k ≤ s.size + 1) ∧ (k ≤ s.size → f ≤ k ∧ noCut c s.data.toList f k ∧ o ++ (cutL c (s.data.toList.drop f)).map bs = cutB c s) ∧ (s.size < k → o = cutB c s) ∧ (o.length ≤ k)) (fun (k, f, v, o) => s.size + 1 - k) (0, 0, (.slice none 0 0), []) ⟨rfl, rfl, rfl, rfl, rfl, trivial⟩ ⟨hs_1, Nat.zero_le _, fun _ => ⟨Nat.le_refl _, fun j x h1 h2 => absurd h2 (by omega), rfl⟩, fun h => absurd h (by omega), Nat.le_refl _⟩ ?_
  rintro ⟨k, f, v, o⟩ w_1 ⟨hs_2, hk, hf, he, hol⟩
  show CW _ _ _ _ [(0, (.string s)), (1, (.int .u8 c.toNat)), (5, v), (6, (.int .i64 f)), (7, (.int .i64 k))] _
  refine .seq <| .seq <| .region <| .m rfl rfl <| .m rfl rfl <| .e rfl (.lenStr Tryz.underlying9 rfl) <| .e rfl (.leqN rfl rfl) <| .nil <| .condD rfl (fun hc_1 => ?_) (fun hc_1 => ?_)
  · refine .skip <| .seq <| .block <| .seq ?_
    obtain ⟨hf1, hf2, hf3⟩ := hf hc_1
    obtain ⟨b, hb⟩ : ∃ b, k < s.size → s.data.toList[k]? = some b := by rcases Nat.lt_or_ge k s.size with h | h; exact ⟨_, fun _ => List.getElem?_eq_getElem (show k < s.data.toList.length from h)⟩; exact ⟨0, fun h9 => absurd h9 (by omega)⟩
    refine .mid (fun L' w' => Weak [(0, (.string s)), (1, (.int .u8 c.toNat)), (5, v), (6, (.int .i64 f)), (7, (.int .i64 k)), (11, (.bool (decide (k ≤ s.size)))), (24, (.bool (decide ((k = s.size) ∨ (b.toNat = c.toNat)))))] L' ∧ Sat w [cL v 9 (encTx) (o)] w') ?_ ?_
    · refine .region <| .m rfl rfl <| .m rfl rfl <| .e rfl (.lenStr Tryz.underlying9 rfl) <| .e rfl (.eqlN rfl rfl) <| .m rfl rfl ?_
      by_cases hg_1 : k = s.size
      · refine .no rfl rfl rfl (decide_eq_true hg_1) rfl <| .no rfl rfl rfl (decide_eq_true hg_1) rfl <| .no rfl rfl rfl (decide_eq_true hg_1) rfl <| .no rfl rfl rfl (decide_eq_true hg_1) rfl <| .no rfl rfl rfl (decide_eq_true hg_1) rfl <| .e rfl (.pickY rfl (decide_eq_true hg_1) rfl) <| .nil ?_
        exact ⟨⟨rfl, rfl, rfl, rfl, rfl, rfl, congrArg some (congrArg Value.bool (by simp [hg_1])), trivial⟩, hs_2⟩
      · refine .yes rfl rfl rfl (decide_eq_false hg_1) <| .m rfl rfl <| .yes rfl rfl rfl (decide_eq_false hg_1) <| .m rfl rfl <| .yes rfl rfl rfl (decide_eq_false hg_1) <| .e rfl (.idxStr Tryz.underlying9 rfl rfl (hb (by omega))) <| .yes rfl rfl rfl (decide_eq_false hg_1) <| .m rfl rfl <| .yes rfl rfl rfl (decide_eq_false hg_1) <| .e rfl (.eqlN rfl rfl) <| .e rfl (.pickN rfl (decide_eq_false hg_1) rfl) <| .nil ?_
        exact ⟨⟨rfl, rfl, rfl, rfl, rfl, rfl, congrArg some (congrArg Value.bool (by simp [hg_1])), trivial⟩, hs_2⟩
    · rintro L' w_2 ⟨hw_1, hs_3⟩
      refine .weaken _ hw_1 <| .condD rfl (fun hc_2 => ?_) (fun hc_2 => ?_)
      · refine .region <| .m rfl rfl <| .m rfl rfl <| .m rfl rfl <| .m rfl rfl <| .e rfl (.sliceStr (l := f) (h := k) Tryz.underlying9 rfl ⟨_, rfl⟩ ⟨_, rfl⟩ (by omega) (by omega)) <| .f rfl (.lit1 (encTx) (s.extract f k) sl61 rfl hs_3 rfl fun v_1 w_3 hs_4 hch_1 => ?_)
        refine .f rfl (.appendL 0 sl61 hs_4 rfl rfl rfl Tryz.underlying61 (hs_4.rdL 1 rfl) (by simp only [List.length_cons, List.length_nil]; omega) (by simp only [List.length_cons, List.length_nil]; omega) fun v_2 w_4 hs_5 hch_2 => ?_)
        have hs_5d : Sat w [cL v_2 9 (encTx) (o ++ [(s.extract f k)])] _ := hs_5.drop 1
        refine .m rfl rfl <| .e rfl (.addI (b := 1) rfl rfl (by omega)) <| .s rfl rfl <| .s rfl rfl <| .nil <| .region <| .m rfl rfl <| .e rfl (.addI (b := 1) rfl rfl (by omega)) <| .s rfl rfl <| .nil ?_
        exact ⟨(k + 1, k + 1, v_2, o ++ [(s.extract f k)]), ⟨rfl, rfl, rfl, rfl, rfl, trivial⟩, ⟨hs_5d, by omega, fun hk2 => ⟨Nat.le_refl _, fun j x h1 h2 => absurd h2 (by omega), by
      have hq := cut_step hf1 hf2 (show s.data.toList[k]? = some c from by
        rcases hc_2 with h9 | h9
        · omega
        · rw [hb (by omega), UInt8.toNat_inj.1 h9])
      rw [← hf3, hq, ext_bs]; simp⟩, fun hk2 => by
      have hk3 : k = s.size := by omega
      rw [← hf3, cut_end hf1 hf2 (show k = s.data.toList.length from hk3), ext_bs]; rfl, by simp only [List.length_append, List.length_cons, List.length_nil]; omega⟩, (show (s.size + 1 - (k + 1)) < (s.size + 1 - k) from by omega)⟩
      · refine .skip <| .region <| .m rfl rfl <| .e rfl (.addI (b := 1) rfl rfl (by omega)) <| .s rfl rfl <| .nil ?_
        exact ⟨(k + 1, f, v, o), ⟨rfl, rfl, rfl, rfl, rfl, trivial⟩, ⟨hs_3, by omega, fun hk2 => ⟨by omega, fun j x h1 h2 hx => by
      rcases Nat.lt_or_ge j k with h | h
      · exact hf2 j x h1 h hx
      · have e : j = k := by omega
        subst e
        rw [hb (by omega)] at hx; cases hx
        exact fun h9 => hc_2 (.inr (by rw [h9])), hf3⟩, fun hk2 => absurd (.inl (by omega)) hc_2, by omega⟩, (show (s.size + 1 - (k + 1)) < (s.size + 1 - k) from by omega)⟩
  · refine .exit0 <| .seq <| .region <| .m rfl rfl <| .s rfl rfl <| .nil <| .ret ?_
    show PostK _ _ _ _ _ _
    refine post1 rfl rfl ?_
    have hs_6 : Sat w [cL v 9 (encTx) (cutB c s)] w_1 := by
      have hq : o = cutB c s := he (by omega)
      rw [← hq]; exact hs_2
    exact hs_6
theorem numR_n (s : ByteArray) (w : World) :
    CallsV Tryz.prog 38 [(.string s)] w fun r w' => r = .int .i64 ((numR s : Nat) : Int) ∧ Sat w [] w' := by
  have hs0 := Sat.start w
  refine callsV_of Tryz.func38 rfl rfl ?_
  refine .seq <| .region <| .s rfl rfl <| .nil <| .seq <| .region <| .s rfl rfl <| .nil <| .seq <| .seq <| .region <| .s rfl rfl <| .nil <| .block <| .loop (α := Nat × Nat) (fun (k, n) => [(0, (.string s)), (3, (.int .i64 n)), (4, (.int .i64 k))]) (fun (k, n) w' => Sat w [] w' ∧ (k ≤ s.size ∧ k ≤ 10) ∧ (n = numL (s.data.toList.take k)) ∧ (n + 29 ≤ 29 * 10 ^ k)) (fun (k, n) => 10 - k) (0, 0) ⟨rfl, rfl, rfl, trivial⟩ ⟨hs0, ⟨Nat.zero_le _, by omega⟩, rfl, by omega⟩ ?_
  rintro ⟨k, n⟩ w_1 ⟨hs_1, hk, hn, hb⟩
  show CW _ _ _ _ [(0, (.string s)), (3, (.int .i64 n)), (4, (.int .i64 k))] _
  refine .seq <| .seq <| .mid (fun L' w' => Weak [(0, (.string s)), (3, (.int .i64 n)), (4, (.int .i64 k)), (12, (.bool (decide ((k < s.size) ∧ (k < 10)))))] L' ∧ Sat w [] w') ?_ ?_
  · refine .region <| .m rfl rfl <| .m rfl rfl <| .e rfl (.lenStr Tryz.underlying9 rfl) <| .e rfl (.lssN rfl rfl) <| .m rfl rfl ?_
    by_cases hg_1 : k < s.size
    · refine .yes rfl rfl rfl (decide_eq_true hg_1) <| .m rfl rfl <| .yes rfl rfl rfl (decide_eq_true hg_1) <| .e rfl (.lssN (b := 10) rfl rfl) <| .e rfl (.pickY rfl (decide_eq_true hg_1) rfl) <| .nil ?_
      exact ⟨⟨rfl, rfl, rfl, congrArg some (congrArg Value.bool (by simp [hg_1])), trivial⟩, hs_1⟩
    · refine .no rfl rfl rfl (decide_eq_false hg_1) rfl <| .no rfl rfl rfl (decide_eq_false hg_1) rfl <| .e rfl (.pickN rfl (decide_eq_false hg_1) rfl) <| .nil ?_
      exact ⟨⟨rfl, rfl, rfl, congrArg some (congrArg Value.bool (by simp [hg_1])), trivial⟩, hs_1⟩
  · rintro L' w_2 ⟨hw_1, hs_2⟩
    refine .weaken _ hw_1 <| .condD rfl (fun hc_1 => ?_) (fun hc_1 => ?_)
    · refine .skip <| .seq <| .block ?_
      have hck := hc_1
      obtain ⟨b, hb⟩ : ∃ b, s.data.toList[k]? = some b := ⟨_, List.getElem?_eq_getElem (show k < s.data.toList.length from hck.1)⟩
      have hp9 : 10 ^ k ≤ 10 ^ 9 := Nat.pow_le_pow_right (by omega) (by omega)
      have hp1 : 10 ^ (k + 1) = 10 * 10 ^ k := by rw [Nat.pow_succ, Nat.mul_comm]
      have hbl := Nat.mod_lt (b.toNat + 208) (show 0 < 256 by omega)
      refine .region <| .m rfl rfl <| .e rfl (.mulI (a := 10) rfl rfl (by omega)) <| .m rfl rfl <| .m rfl rfl <| .e rfl (.idxStr Tryz.underlying9 rfl rfl hb) <| .e rfl (.sub8 (b := 48) (m := 208) rfl rfl rfl) <| .e rfl (.convK (by rw [Tryz.underlying5]; rfl) Tryz.underlying3 rfl (wrap_i (by omega))) <| .e rfl (.addI rfl rfl (by omega)) <| .s rfl rfl <| .nil <| .region <| .m rfl rfl <| .e rfl (.addI (b := 1) rfl rfl (by omega)) <| .s rfl rfl <| .nil ?_
      exact ⟨(k + 1, (10 * n + (b.toNat + 208) % 256)), ⟨rfl, rfl, rfl, trivial⟩, ⟨hs_2, ⟨by omega, by omega⟩, by rw [take_succ_of hb, numL_snoc, ← hn], by omega⟩, (show (10 - (k + 1)) < (10 - k) from by omega)⟩
    · refine .exit0 <| .seq <| .region <| .m rfl rfl <| .s rfl rfl <| .nil <| .ret ?_
      show PostK _ _ _ _ _ _
      refine post1 rfl rfl ?_
      have hq : n = numR s := by
        unfold numR
        rcases Nat.lt_or_ge k 10 with h | h
        · rw [hn, List.take_of_length_le (show s.data.toList.length ≤ k from by have : s.data.toList.length = s.size := rfl; omega), List.take_of_length_le (show s.data.toList.length ≤ 10 from by have : s.data.toList.length = s.size := rfl; omega)]
        · rw [hn, show k = 10 by omega]
      exact ⟨by rw [hq], hs_2⟩
theorem sameAt_n (v u : Value) (l : List (ByteArray × Bool)) (w : World) (hv : RdL w v encAt l) (hu : RdL w u encAt l) (hn : l.length ≤ 1000000) :
    CallsV Tryz.prog 33 [v, u] w fun r w' => r = .bool true ∧ Sat w [] w' := by
  have hs0 := Sat.start w
  refine callsV_of Tryz.func33 rfl rfl ?_
  refine .seq <| .region <| .s rfl rfl <| .nil <| .seq <| .seq <| .region <| .m rfl rfl <| .e rfl (.lenL Tryz.underlying23 rfl (hv.ext hs0.ext)) <| .m rfl rfl <| .e rfl (.lenL Tryz.underlying23 rfl (hu.ext hs0.ext)) <| .e rfl (.neqN rfl rfl) <| .nil <| .condF rfl (decide_eq_false (by simp)) <| .skip <| .seq <| .seq <| .region <| .m rfl rfl <| .e rfl (.lenL Tryz.underlying23 rfl (hv.ext hs0.ext)) <| .m rfl rfl <| .nil <| .block <| .loop (α := Nat) (fun k => [(0, v), (1, u), (12, (.int .i64 l.length)), (13, (.int .i64 k))]) (fun k w' => Sat w [] w' ∧ (k ≤ l.length)) (fun k => l.length - k) 0 ⟨rfl, rfl, rfl, rfl, trivial⟩ ⟨hs0, Nat.zero_le _⟩ ?_
  rintro k w_1 ⟨hs_1, hk⟩
  show CW _ _ _ _ [(0, v), (1, u), (12, (.int .i64 l.length)), (13, (.int .i64 k))] _
  refine .seq <| .region <| .e rfl (.lssN rfl rfl) <| .nil <| .seq <| .condD rfl (fun hc_1 => ?_) (fun hc_1 => ?_)
  · refine .skip <| .seq <| .block <| .seq <| .region <| .m rfl rfl <| .s rfl rfl <| .nil <| .seq ?_
    obtain ⟨x, hx⟩ : ∃ x, (l)[k]? = some x := ⟨_, List.getElem?_eq_getElem hc_1⟩
    refine .draw (fun w' => Sat w [] w') (.free 0 (.free 1 (.free 2 (.free 3 (.free 4 (.free 5 (.free 6 (.free 7 (.free 8 .fin))))))))) mixed (by kernel_rfl) ?_
    have hs_2 := hs_1.drew
    refine .m rfl rfl hs_2 <| .m rfl rfl hs_2 <| .e rfl (fun w' hS' => .idxL (E := encAt) sl23 rfl rfl (hv.ext hS'.ext) (by omega)) hs_2 <| .e rfl (fun w' hS' => .ldAgg (E := encAt) agg70 rfl (hv.ext hS'.ext) hx (by decide)) hs_2 <| .m rfl rfl hs_2 <| .m rfl rfl hs_2 <| .e rfl (fun w' hS' => .idxL (E := encAt) sl23 rfl rfl (hu.ext hS'.ext) (by omega)) hs_2 <| .e rfl (fun w' hS' => .ldAgg (E := encAt) agg70 rfl (hu.ext hS'.ext) hx (by decide)) hs_2 <| .e rfl (fun w' hS' => .neqAt (a := x) atS_ok rfl rfl) hs_2 <| .fin <| .condF rfl (rfl) <| .skip <| .region <| .e rfl (.addI (b := 1) rfl rfl (by omega)) <| .m rfl rfl <| .nil ?_
    exact ⟨k + 1, ⟨rfl, rfl, rfl, rfl, trivial⟩, ⟨hs_2, by omega⟩, (show (l.length - (k + 1)) < (l.length - k) from by omega)⟩
  · refine .exit0 <| .seq <| .region <| .s rfl rfl <| .nil <| .ret ?_
    show PostK _ _ _ _ _ _
    refine post1 rfl rfl ?_
    exact ⟨rfl, hs_1⟩
theorem sameTx_n (v u : Value) (l : List ByteArray) (w : World) (hv : RdL w v encTx l) (hu : RdL w u encTx l) (hn : l.length ≤ 9223372036854775807) :
    CallsV Tryz.prog 62 [v, u] w fun r w' => r = .bool true ∧ Sat w [] w' := by
  have hs0 := Sat.start w
  refine callsV_of Tryz.func62 rfl rfl ?_
  refine .seq <| .region <| .s rfl rfl <| .nil <| .seq <| .seq <| .region <| .m rfl rfl <| .e rfl (.lenL Tryz.underlying61 rfl (hv.ext hs0.ext)) <| .m rfl rfl <| .e rfl (.lenL Tryz.underlying61 rfl (hu.ext hs0.ext)) <| .e rfl (.neqN rfl rfl) <| .nil <| .condF rfl (decide_eq_false (by simp)) <| .skip <| .seq <| .seq <| .region <| .m rfl rfl <| .e rfl (.lenL Tryz.underlying61 rfl (hv.ext hs0.ext)) <| .m rfl rfl <| .nil <| .block <| .loop (α := Nat) (fun k => [(0, v), (1, u), (12, (.int .i64 l.length)), (13, (.int .i64 k))]) (fun k w' => Sat w [] w' ∧ (k ≤ l.length)) (fun k => l.length - k) 0 ⟨rfl, rfl, rfl, rfl, trivial⟩ ⟨hs0, Nat.zero_le _⟩ ?_
  rintro k w_1 ⟨hs_1, hk⟩
  show CW _ _ _ _ [(0, v), (1, u), (12, (.int .i64 l.length)), (13, (.int .i64 k))] _
  refine .seq <| .region <| .e rfl (.lssN rfl rfl) <| .nil <| .seq <| .condD rfl (fun hc_1 => ?_) (fun hc_1 => ?_)
  · refine .skip <| .seq <| .block <| .seq <| .region <| .m rfl rfl <| .s rfl rfl <| .nil <| .seq ?_
    obtain ⟨x, hx⟩ : ∃ x, (l)[k]? = some x := ⟨_, List.getElem?_eq_getElem hc_1⟩
    refine .draw (fun w' => Sat w [] w') (.free 0 (.free 1 (.free 2 (.free 3 (.free 4 (.free 5 (.free 6 (.free 7 (.free 8 .fin))))))))) mixed (by kernel_rfl) ?_
    have hs_2 := hs_1.drew
    refine .m rfl rfl hs_2 <| .m rfl rfl hs_2 <| .e rfl (fun w' hS' => .idxL (E := encTx) sl61 rfl rfl (hv.ext hS'.ext) (by omega)) hs_2 <| .e rfl (fun w' hS' => .ldL (E := encTx) scal9 rfl (hv.ext hS'.ext) hx (by decide) rfl) hs_2 <| .m rfl rfl hs_2 <| .m rfl rfl hs_2 <| .e rfl (fun w' hS' => .idxL (E := encTx) sl61 rfl rfl (hu.ext hS'.ext) (by omega)) hs_2 <| .e rfl (fun w' hS' => .ldL (E := encTx) scal9 rfl (hu.ext hS'.ext) hx (by decide) rfl) hs_2 <| .e rfl (fun w' hS' => .strNeq rfl rfl) hs_2 <| .fin <| .condF rfl (decide_eq_false (by simp)) <| .skip <| .region <| .e rfl (.addI (b := 1) rfl rfl (by omega)) <| .m rfl rfl <| .nil ?_
    exact ⟨k + 1, ⟨rfl, rfl, rfl, rfl, trivial⟩, ⟨hs_2, by omega⟩, (show (l.length - (k + 1)) < (l.length - k) from by omega)⟩
  · refine .exit0 <| .seq <| .region <| .s rfl rfl <| .nil <| .ret ?_
    show PostK _ _ _ _ _ _
    refine post1 rfl rfl ?_
    exact ⟨rfl, hs_1⟩
abbrev encPcQ := encPc
theorem samePc_n (v u : Value) (pl ql : List Pc) (w : World) (hp : RdL w v encPc pl) (hq : RdL w u encPcQ ql) (he : pl.map pcV = ql.map pcV) (hrow : ∀ p ∈ pl, RdL w p.sv.val encTx p.ns) (hrowq : ∀ p ∈ ql, RdL w p.sv.val encTx p.ns) (hdl : ∀ p ∈ pl, p.ns.length ≤ 9223372036854775807) (hn : pl.length ≤ 1000000) :
    CallsV Tryz.prog 34 [v, u] w fun r w' => r = .bool true ∧ Sat w [] w' := by
  have hs0 := Sat.start w
  have hlen : pl.length = ql.length := by have h9 := congrArg List.length he; simpa using h9
  refine callsV_of Tryz.func34 rfl rfl ?_
  refine .seq <| .region <| .s rfl rfl <| .nil <| .seq <| .seq <| .region <| .m rfl rfl <| .e rfl (.lenL Tryz.underlying24 rfl (hp.ext hs0.ext)) <| .m rfl rfl <| .e rfl (.lenL Tryz.underlying24 rfl (hq.ext hs0.ext)) <| .e rfl (.neqN rfl rfl) <| .nil <| .condF rfl (decide_eq_false (fun h9 => h9 hlen)) <| .skip <| .seq <| .seq <| .region <| .m rfl rfl <| .e rfl (.lenL Tryz.underlying24 rfl (hp.ext hs0.ext)) <| .m rfl rfl <| .nil <| .block <| .loop (α := Nat) (fun k => [(0, v), (1, u), (12, (.int .i64 pl.length)), (13, (.int .i64 k))]) (fun k w' => Sat w [] w' ∧ (k ≤ pl.length)) (fun k => pl.length - k) 0 ⟨rfl, rfl, rfl, rfl, trivial⟩ ⟨hs0, Nat.zero_le _⟩ ?_
  rintro k w_1 ⟨hs_1, hk⟩
  show CW _ _ _ _ [(0, v), (1, u), (12, (.int .i64 pl.length)), (13, (.int .i64 k))] _
  refine .seq <| .region <| .e rfl (.lssN rfl rfl) <| .nil <| .seq <| .condD rfl (fun hc_1 => ?_) (fun hc_1 => ?_)
  · refine .skip <| .seq <| .block <| .seq <| .region <| .m rfl rfl <| .s rfl rfl <| .nil <| .seq ?_
    obtain ⟨x, hx⟩ : ∃ x, (pl)[k]? = some x := ⟨_, List.getElem?_eq_getElem hc_1⟩
    obtain ⟨y, hy⟩ : ∃ y, ql[k]? = some y := ⟨_, List.getElem?_eq_getElem (by omega)⟩
    have hxy : x.f = y.f ∧ x.ns = y.ns := by have h9 := congrArg (fun z => z[k]?) he; simp only [List.getElem?_map, hx, hy, Option.map_some, Option.some.injEq] at h9; exact ⟨congrArg Prod.fst h9, congrArg Prod.snd h9⟩
    refine .draw (fun w' => Sat w [] w') (.free 0 (.free 1 (.free 2 (.free 3 (.free 4 (.free 5 (.free 6 (.free 7 (.free 8 (.free 9 (.free 10 (.free 11 (.free 12 (.free 13 (.free 14 (.free 15 (.free 16 (.free 17 (.free 18 (.free 19 (.free 20 (.free 21 (.one 22 (.free 23 (.free 24 .fin))))))))))))))))))))))))) mixed (by kernel_rfl) ?_
    have hs_2 := hs_1.drew
    refine .m rfl rfl hs_2 <| .m rfl rfl hs_2 <| .e rfl (fun w' hS' => .idxL (E := encPc) sl24 rfl rfl (hp.ext hS'.ext) (by omega)) hs_2 <| .e rfl (fun w' hS' => .fldL (E := encPc) fld72_0 rfl (hp.ext hS'.ext) (by omega) (by decide)) hs_2 <| .e rfl (fun w' hS' => .ldLF (E := encPc) scal3 rfl (hp.ext hS'.ext) hx (by decide) rfl) hs_2 <| .m rfl rfl hs_2 <| .m rfl rfl hs_2 <| .e rfl (fun w' hS' => .idxL (E := encPcQ) sl24 rfl rfl (hq.ext hS'.ext) (by omega)) hs_2 <| .e rfl (fun w' hS' => .fldL (E := encPcQ) fld72_0 rfl (hq.ext hS'.ext) (by omega) (by decide)) hs_2 <| .e rfl (fun w' hS' => .ldLF (E := encPcQ) scal3 rfl (hq.ext hS'.ext) hy (by decide) rfl) hs_2 <| .e rfl (fun w' hS' => .neq rfl rfl) hs_2 <| .m rfl rfl hs_2 <| .evYes rfl rfl rfl rfl (decide_eq_false (fun h9 => h9 hxy.1)) rfl (fun w' hS' => .move rfl) hs_2 <| .evYes rfl rfl rfl rfl (decide_eq_false (fun h9 => h9 hxy.1)) rfl (fun w' hS' => .move rfl) hs_2 <| .evYes rfl rfl rfl rfl (decide_eq_false (fun h9 => h9 hxy.1)) rfl (fun w' hS' => .idxL (E := encPc) sl24 rfl rfl (hp.ext hS'.ext) (by omega)) hs_2 <| .evYes rfl rfl rfl rfl (decide_eq_false (fun h9 => h9 hxy.1)) rfl (fun w' hS' => .fldL (E := encPc) fld72_1 rfl (hp.ext hS'.ext) (by omega) (by decide)) hs_2 <| .evYes rfl rfl rfl rfl (decide_eq_false (fun h9 => h9 hxy.1)) rfl (fun w' hS' => .ldLF (E := encPc) scal61 rfl (hp.ext hS'.ext) hx (by decide) rfl) hs_2 <| .evYes rfl rfl rfl rfl (decide_eq_false (fun h9 => h9 hxy.1)) rfl (fun w' hS' => .move rfl) hs_2 <| .evYes rfl rfl rfl rfl (decide_eq_false (fun h9 => h9 hxy.1)) rfl (fun w' hS' => .move rfl) hs_2 <| .evYes rfl rfl rfl rfl (decide_eq_false (fun h9 => h9 hxy.1)) rfl (fun w' hS' => .idxL (E := encPcQ) sl24 rfl rfl (hq.ext hS'.ext) (by omega)) hs_2 <| .evYes rfl rfl rfl rfl (decide_eq_false (fun h9 => h9 hxy.1)) rfl (fun w' hS' => .fldL (E := encPcQ) fld72_1 rfl (hq.ext hS'.ext) (by omega) (by decide)) hs_2 <| .evYes rfl rfl rfl rfl (decide_eq_false (fun h9 => h9 hxy.1)) rfl (fun w' hS' => .ldLF (E := encPcQ) scal61 rfl (hq.ext hS'.ext) hy (by decide) rfl) hs_2 <| .effYes rfl rfl rfl rfl (decide_eq_false (fun h9 => h9 hxy.1)) rfl (OpE.call ent62 rfl ((sameTx_n _ _ x.ns _ ((hrow x (mem_of_get hx)).ext hs_2.ext) (hxy.2 ▸ ((hrowq y (mem_of_get hy)).ext hs_2.ext)) (hdl x (mem_of_get hx))).mono fun r_1 w_2 h_1 => ?_))
    obtain ⟨rfl, hp_1⟩ := h_1
    have hs_3 := hs_2.adds hp_1
    have hS_1 : Sat w [] _ := hs_3.sub (.slnil)
    refine ⟨hS_1, ?_⟩
    refine .evYes rfl rfl rfl rfl (decide_eq_false (fun h9 => h9 hxy.1)) rfl (fun w' hS' => .notB rfl) hS_1 <| .e rfl (fun w' hS' => .pickN rfl (decide_eq_false (fun h9 => h9 hxy.1)) rfl) hS_1 <| .fin <| .condF rfl (rfl) <| .skip <| .region <| .e rfl (.addI (b := 1) rfl rfl (by omega)) <| .m rfl rfl <| .nil ?_
    exact ⟨k + 1, ⟨rfl, rfl, rfl, rfl, trivial⟩, ⟨hs_3, by omega⟩, (show (pl.length - (k + 1)) < (pl.length - k) from by omega)⟩
  · refine .exit0 <| .seq <| .region <| .s rfl rfl <| .nil <| .ret ?_
    show PostK _ _ _ _ _ _
    refine post1 rfl rfl ?_
    exact ⟨rfl, hs_1⟩
theorem sameRec_n (w : World) :
    CallsV Tryz.prog 35 [(.slice none 0 0), (.slice none 0 0)] w fun r w' => r = .bool true ∧ Sat w [] w' := by
  have hs0 := Sat.start w
  refine callsV_of Tryz.func35 rfl rfl ?_
  refine .seq <| .region <| .s rfl rfl <| .nil <| .seq <| .seq <| .region <| .m rfl rfl <| .e rfl (.lenL (l := ([] : List Nat)) (E := encN .u8) Tryz.underlying25 rfl (RdL.nil _ _)) <| .m rfl rfl <| .e rfl (.lenL (l := ([] : List Nat)) (E := encN .u8) Tryz.underlying25 rfl (RdL.nil _ _)) <| .e rfl (.neqN (a := 0) (b := 0) rfl rfl) <| .nil <| .condF rfl (rfl) <| .skip <| .seq <| .seq <| .region <| .m rfl rfl <| .e rfl (.lenL (l := ([] : List Nat)) (E := encN .u8) Tryz.underlying25 rfl (RdL.nil _ _)) <| .m rfl rfl <| .nil <| .block <| .loop (α := Unit) (fun _ => [(12, (.int .i64 (0 : Nat))), (13, (.int .i64 (0 : Nat)))]) (fun _ w' => Sat w [] w') (fun _ => 0) () ⟨rfl, rfl, trivial⟩ hs0 ?_
  rintro _ w_1 hs_1
  show CW _ _ _ _ [(12, (.int .i64 (0 : Nat))), (13, (.int .i64 (0 : Nat)))] _
  refine .seq <| .region <| .e rfl (.lssN (a := 0) (b := 0) rfl rfl) <| .nil <| .seq <| .condF rfl (rfl) <| .exit0 <| .seq <| .region <| .s rfl rfl <| .nil <| .ret ?_
  show PostK _ _ _ _ _ _
  refine post1 rfl rfl ?_
  exact ⟨rfl, hs_1⟩
theorem sameSt_n (av bv pv qv : Value) (al : List (ByteArray × Bool)) (nx jr : Int) (pl ql : List Pc) (w : World) (ha : RdL w av encAt al) (hb : RdL w bv encAt al) (hna : al.length ≤ 200000) (hp : RdL w pv encPc pl) (hq : RdL w qv encPcQ ql) (hnp : pl.length ≤ 200000) (he : pl.map pcV = ql.map pcV) (hrow : ∀ p ∈ pl, RdL w p.sv.val encTx p.ns) (hrowq : ∀ p ∈ ql, RdL w p.sv.val encTx p.ns) (hdl : ∀ p ∈ pl, p.ns.length ≤ 9223372036854775807) :
    CallsV Tryz.prog 10 [(.agg #[av, (.int .i64 (nx)), (.int .i64 (jr)), pv, (.slice none 0 0)]), (.agg #[bv, (.int .i64 (nx)), (.int .i64 (jr)), qv, (.slice none 0 0)])] w fun r w' => r = .bool true ∧ Sat w [] w' := by
  have hs0 := Sat.start w
  refine callsV_of Tryz.func10 rfl rfl ?_
  refine .seq <| .region <| .f rfl (.box hs0 rfl fun b_1 w_1 hs_1 hch_1 hb_1 => ?_)
  refine .f rfl (.box hs_1 rfl fun b_2 w_2 hs_2 hch_2 hb_2 => ?_)
  refine .s rfl rfl <| .nil <| .seq <| .region <| .e rfl (.fieldAddr fld27_0 rfl rfl) <| .e rfl (.load scal23 rfl (hs_2.cell (i := 0) (j := 0) rfl rfl)) <| .e rfl (.fieldAddr fld27_0 rfl rfl) <| .e rfl (.load scal23 rfl (hs_2.cell (i := 1) (j := 0) rfl rfl)) <| .f rfl (.call ent33 rfl ((sameAt_n _ _ al _ (ha.ext hs_2.ext) (hb.ext hs_2.ext) (by omega)).mono fun r_1 w_3 h_1 => ?_))
  obtain ⟨rfl, hp_1⟩ := h_1
  have hs_3 : Sat w [_, _] _ := hs_2.adds hp_1
  refine .m rfl rfl <| .yes rfl rfl rfl (rfl) <| .e rfl (.fieldAddr fld27_1 rfl rfl) <| .yes rfl rfl rfl (rfl) <| .e rfl (.load scal3 rfl (hs_3.cell (i := 0) (j := 1) rfl rfl)) <| .yes rfl rfl rfl (rfl) <| .e rfl (.fieldAddr fld27_1 rfl rfl) <| .yes rfl rfl rfl (rfl) <| .e rfl (.load scal3 rfl (hs_3.cell (i := 1) (j := 1) rfl rfl)) <| .yes rfl rfl rfl (rfl) <| .e rfl (.eql rfl rfl) <| .e rfl (.pickY rfl (rfl) rfl) <| .m rfl rfl <| .yes rfl rfl rfl (decide_eq_true rfl) <| .e rfl (.fieldAddr fld27_2 rfl rfl) <| .yes rfl rfl rfl (decide_eq_true rfl) <| .e rfl (.load scal3 rfl (hs_3.cell (i := 0) (j := 2) rfl rfl)) <| .yes rfl rfl rfl (decide_eq_true rfl) <| .e rfl (.fieldAddr fld27_2 rfl rfl) <| .yes rfl rfl rfl (decide_eq_true rfl) <| .e rfl (.load scal3 rfl (hs_3.cell (i := 1) (j := 2) rfl rfl)) <| .yes rfl rfl rfl (decide_eq_true rfl) <| .e rfl (.eql rfl rfl) <| .e rfl (.pickY rfl (decide_eq_true rfl) rfl) <| .m rfl rfl <| .yes rfl rfl rfl (decide_eq_true rfl) <| .e rfl (.fieldAddr fld27_3 rfl rfl) <| .yes rfl rfl rfl (decide_eq_true rfl) <| .e rfl (.load scal24 rfl (hs_3.cell (i := 0) (j := 3) rfl rfl)) <| .yes rfl rfl rfl (decide_eq_true rfl) <| .e rfl (.fieldAddr fld27_3 rfl rfl) <| .yes rfl rfl rfl (decide_eq_true rfl) <| .e rfl (.load scal24 rfl (hs_3.cell (i := 1) (j := 3) rfl rfl)) <| .yes rfl rfl rfl (decide_eq_true rfl) <| .f rfl (.call ent34 rfl ((samePc_n _ _ pl ql _ (hp.ext hs_3.ext) (hq.ext hs_3.ext) he (fun p hp9 => (hrow p hp9).ext hs_3.ext) (fun p hp9 => (hrowq p hp9).ext hs_3.ext) hdl (by omega)).mono fun r_2 w_4 h_2 => ?_))
  obtain ⟨rfl, hp_2⟩ := h_2
  have hs_4 := hs_3.adds hp_2
  refine .e rfl (.pickY rfl (decide_eq_true rfl) rfl) <| .m rfl rfl <| .yes rfl rfl rfl (rfl) <| .e rfl (.fieldAddr fld27_4 rfl rfl) <| .yes rfl rfl rfl (rfl) <| .e rfl (.load scal25 rfl (hs_4.cell (i := 0) (j := 4) rfl rfl)) <| .yes rfl rfl rfl (rfl) <| .e rfl (.fieldAddr fld27_4 rfl rfl) <| .yes rfl rfl rfl (rfl) <| .e rfl (.load scal25 rfl (hs_4.cell (i := 1) (j := 4) rfl rfl)) <| .yes rfl rfl rfl (rfl) <| .f rfl (.call ent35 rfl ((sameRec_n _).mono fun r_3 w_5 h_3 => ?_))
  obtain ⟨rfl, hp_3⟩ := h_3
  have hs_5 := hs_4.adds hp_3
  refine .e rfl (.pickY rfl (rfl) rfl) <| .s rfl rfl <| .nil <| .ret ?_
  show PostK _ _ _ _ _ _
  refine post1 rfl rfl ?_
  have hs_6 : Sat w [] w_5 := hs_5.sub ((.cons _ (.cons _ .slnil)))
  exact ⟨rfl, hs_6⟩
end Go.Proofs.YtecfgjdpghddgaaGreatDoor
