/- The walks of the functions of F14e, printed by our own program (kwgen.py) out of our descriptions (base.py). -/
import Derived.Test.YtfhbflhnelbkfaaF14l
import Derived.Test.YtfhbflhnelbkfaaM14d
import Derived.Test.YtfhbflhnelbkfaaTab
namespace Go.Proofs.Ytfhbflhnelbkfaa
open Go.RowKit Go.Kw
set_option maxRecDepth 100000
set_option linter.unusedVariables false
set_option linter.unusedSimpArgs false
theorem hencode_ok (v u : Value) (l syms : List Nat) (w : World) (hv : RdL w v (encN .i64) l) (hu : RdL w u (encN .i64) syms) (hn : l.length ≤ 1024) (hval : validB l = true) (hsn : syms.length ≤ 4096) (hsy : ∀ s ∈ syms, s < l.length ∧ 0 < lenKey l s) :
    CallsV Try.prog 101 [v, u] w fun r w' => ∃ v', r = .tuple #[v', .int .i64 ((hufB l syms).length : Int), .int .i64 0] ∧ Sat w [cL v' 5 (encN .u8) (packB (hufB l syms))] w' := by
  have hs0 := Sat.start w
  refine callsV_of Try.func101 rfl rfl ?_
  refine CW.seq ?_
  have hgl := GoodLens.of_valid hval
  refine CW.region ?_
  refine RT.ev rfl rfl (Ev.assign rfl) <| RT.ev rfl rfl (Ev.assign rfl) <| RT.ev rfl rfl (Ev.assign rfl) ?_
  refine RT.nil ?_
  refine CW.seq ?_
  refine CW.block ?_
  refine CW.seq ?_
  refine CW.region ?_
  refine RT.ev rfl rfl (Ev.move rfl) ?_
  refine RT.eff rfl rfl (OpE.call ent126 rfl ((valid_ok _ (l) _ (hv.ext hs0.ext) (hn)).mono fun r_1 w_1 h_1 => ?_))
  obtain ⟨rfl, hp_1⟩ := h_1
  have hs_1 : Sat w [] _ := hs0.adds hp_1
  refine RT.ev rfl rfl (Ev.notB rfl) <| RT.ev rfl rfl (Ev.assign rfl) ?_
  refine RT.nil ?_
  refine CW.condF rfl (by rw [hval]; rfl) ?_
  refine CW.seq ?_
  refine CW.region ?_
  refine RT.ev rfl rfl (Ev.move rfl) <| RT.ev rfl rfl (Ev.lenL Try.underlying22 rfl (hu.ext hs_1.ext)) <| RT.ev rfl rfl (Ev.gtrN (b := 4096) rfl rfl) <| RT.ev rfl rfl (Ev.assign rfl) ?_
  refine RT.nil ?_
  refine CW.condF rfl (decide_eq_false (by omega)) ?_
  refine CW.skip ?_
  refine CW.seq ?_
  refine CW.region ?_
  refine RT.ev rfl rfl (Ev.move rfl) ?_
  refine RT.eff rfl rfl (OpE.call ent137 rfl ((codesOf_ok _ (l) _ (hv.ext hs_1.ext) (hn) (validB_le hval)).mono fun r_2 w_2 h_2 => ?_))
  have hp_2 := h_2
  have hs_2 : Sat w [cL r_2 108 (encN .u64) (codesN l)] _ := hs_1.adds hp_2
  refine RT.ev rfl rfl (Ev.assign rfl) ?_
  refine RT.nil ?_
  refine CW.seq ?_
  refine CW.region ?_
  refine RT.eff rfl rfl (OpE.call ent138 rfl ((newWriter_ok _).mono fun r_3 w_3 h_3 => ?_))
  obtain ⟨b_1, rfl, hp_3⟩ := h_3
  have hs_3 : Sat w [cL r_2 108 (encN .u64) (codesN l), cObj b_1 214 [(Value.slice none 0 0), (Value.int .i64 ((0 : Nat) : Int))], cL (Value.slice none 0 0) 5 (encN .u8) ([])] _ := hs_2.adds hp_3
  refine RT.ev rfl rfl (Ev.assign rfl) ?_
  refine RT.nil ?_
  refine CW.seq ?_
  refine CW.region ?_
  refine RT.ev rfl rfl (Ev.move rfl) <| RT.ev rfl rfl (Ev.makeFuncB rfl) <| RT.ev rfl rfl (Ev.assign rfl) ?_
  refine RT.nil ?_
  refine CW.seq ?_
  refine CW.seq ?_
  refine CW.region ?_
  refine RT.ev rfl rfl (Ev.move rfl) <| RT.ev rfl rfl (Ev.lenL Try.underlying22 rfl (hu.ext hs_3.ext)) <| RT.ev rfl rfl (Ev.move rfl) ?_
  refine RT.nil ?_
  refine CW.block ?_
  refine CW.loop (α := Nat × Value × List Bool) (fun (k, wv, bits) => [(0, v), (7, r_2), (8, (Value.pointer (some ⟨b_1, 0, none⟩))), (9, (Value.func (.func 139) #[(Value.pointer (some ⟨b_1, 0, none⟩))] #[])), (25, u), (26, (Value.int .i64 ((syms.length : Nat) : Int))), (27, (Value.int .i64 ((k : Nat) : Int)))]) (fun (k, wv, bits) w' => Sat w [cL r_2 108 (encN .u64) (codesN l), cObj b_1 214 [wv, (Value.int .i64 (((bits).length : Nat) : Int))], cL wv 5 (encN .u8) (packB (bits))] w' ∧ (k ≤ syms.length) ∧ (bits = hufB l (syms.take k)) ∧ (bits.length ≤ 15 * k)) (fun (k, wv, bits) => syms.length - k) (0, (.slice none 0 0), []) ⟨rfl, rfl, rfl, rfl, rfl, rfl, rfl, trivial⟩ ⟨hs_3, Nat.zero_le _, rfl, Nat.le_refl _⟩ ?_
  rintro ⟨k, wv, bits⟩ w_4 ⟨hs_4, hk, hbits, hbl⟩
  show CW _ _ _ _ [(0, v), (7, r_2), (8, (Value.pointer (some ⟨b_1, 0, none⟩))), (9, (Value.func (.func 139) #[(Value.pointer (some ⟨b_1, 0, none⟩))] #[])), (25, u), (26, (Value.int .i64 ((syms.length : Nat) : Int))), (27, (Value.int .i64 ((k : Nat) : Int)))] _
  refine CW.seq ?_
  refine CW.region ?_
  refine RT.ev rfl rfl (Ev.lssN rfl rfl) ?_
  refine RT.nil ?_
  refine CW.seq ?_
  refine CW.condD rfl (fun hc_1 => ?_) (fun hc_1 => ?_)
  · refine CW.skip ?_
    refine CW.seq ?_
    refine CW.block ?_
    refine CW.seq ?_
    obtain ⟨x, hx⟩ : ∃ x, (syms)[k]? = some x := ⟨_, List.getElem?_eq_getElem hc_1⟩
    refine CW.region ?_
    refine RT.ev rfl rfl (Ev.idxL (E := encN .i64) sl22 rfl rfl (hu.ext hs_4.ext) (by omega)) <| RT.ev rfl rfl (Ev.ldL (E := encN .i64) scal3 rfl (hu.ext hs_4.ext) hx (by decide) rfl) <| RT.ev rfl rfl (Ev.assign rfl) ?_
    refine RT.nil ?_
    refine CW.seq ?_
    refine CW.seq ?_
    have hx0 := hsy x (mem_of_get hx)
    have hlx := lenKey_some hx0.1
    have hcdx := (code_of hgl hx0.2).2
    have hl15 := hgl.le x
    have hcl := codesN_length l
    refine CW.mid (fun L' w' => Weak [(0, v), (7, r_2), (8, (Value.pointer (some ⟨b_1, 0, none⟩))), (9, (Value.func (.func 139) #[(Value.pointer (some ⟨b_1, 0, none⟩))] #[])), (11, (Value.int .i64 ((x : Nat) : Int))), (25, u), (26, (Value.int .i64 ((syms.length : Nat) : Int))), (27, (Value.int .i64 ((k : Nat) : Int))), (28, (Value.bool (decide (k < syms.length)))), (45, (Value.bool (decide (((x < 0) ∨ (l.length ≤ x)) ∨ ((lenKey l x) = 0)))))] L' ∧ Sat w [cL r_2 108 (encN .u64) (codesN l), cObj b_1 214 [wv, (Value.int .i64 (((bits).length : Nat) : Int))], cL wv 5 (encN .u8) (packB (bits))] w') ?_ ?_
    · refine CW.region ?_
      refine RT.ev rfl rfl (Ev.move rfl) <| RT.ev rfl rfl (Ev.lssN (b := 0) rfl rfl) <| RT.ev rfl rfl (Ev.move rfl) ?_
      by_cases hg_1 : x < 0
      · refine RT.no rfl rfl rfl (decide_eq_true hg_1) rfl ?_
        refine RT.no rfl rfl rfl (decide_eq_true hg_1) rfl ?_
        refine RT.no rfl rfl rfl (decide_eq_true hg_1) rfl ?_
        refine RT.no rfl rfl rfl (decide_eq_true hg_1) rfl ?_
        refine RT.ev rfl rfl (Ev.pickY rfl (decide_eq_true hg_1) rfl) <| RT.ev rfl rfl (Ev.move rfl) ?_
        refine RT.no rfl rfl rfl (rfl) rfl ?_
        refine RT.no rfl rfl rfl (rfl) rfl ?_
        refine RT.no rfl rfl rfl (rfl) rfl ?_
        refine RT.no rfl rfl rfl (rfl) rfl ?_
        refine RT.no rfl rfl rfl (rfl) rfl ?_
        refine RT.ev rfl rfl (Ev.pickY rfl (rfl) rfl) ?_
        refine RT.nil ?_
        exact ⟨⟨rfl, rfl, rfl, rfl, rfl, rfl, rfl, rfl, rfl, congrArg some (congrArg Value.bool (by simp [hg_1])), trivial⟩, hs_4⟩
      · refine RT.yes rfl rfl rfl (decide_eq_false hg_1) ?_
        refine RT.ev rfl rfl (Ev.move rfl) ?_
        refine RT.yes rfl rfl rfl (decide_eq_false hg_1) ?_
        refine RT.ev rfl rfl (Ev.move rfl) ?_
        refine RT.yes rfl rfl rfl (decide_eq_false hg_1) ?_
        refine RT.ev rfl rfl (Ev.lenL Try.underlying22 rfl (hv.ext hs_4.ext)) ?_
        refine RT.yes rfl rfl rfl (decide_eq_false hg_1) ?_
        refine RT.ev rfl rfl (Ev.geqN rfl rfl) <| RT.ev rfl rfl (Ev.pickN rfl (decide_eq_false hg_1) rfl) <| RT.ev rfl rfl (Ev.move rfl) ?_
        by_cases hg_2 : l.length ≤ x
        · refine RT.no rfl rfl rfl (decide_eq_true hg_2) rfl ?_
          refine RT.no rfl rfl rfl (decide_eq_true hg_2) rfl ?_
          refine RT.no rfl rfl rfl (decide_eq_true hg_2) rfl ?_
          refine RT.no rfl rfl rfl (decide_eq_true hg_2) rfl ?_
          refine RT.no rfl rfl rfl (decide_eq_true hg_2) rfl ?_
          refine RT.ev rfl rfl (Ev.pickY rfl (decide_eq_true hg_2) rfl) ?_
          refine RT.nil ?_
          exact ⟨⟨rfl, rfl, rfl, rfl, rfl, rfl, rfl, rfl, rfl, congrArg some (congrArg Value.bool (by simp [hg_1, hg_2])), trivial⟩, hs_4⟩
        · refine RT.yes rfl rfl rfl (decide_eq_false hg_2) ?_
          refine RT.ev rfl rfl (Ev.move rfl) ?_
          refine RT.yes rfl rfl rfl (decide_eq_false hg_2) ?_
          refine RT.ev rfl rfl (Ev.move rfl) ?_
          refine RT.yes rfl rfl rfl (decide_eq_false hg_2) ?_
          refine RT.ev rfl rfl (Ev.idxL (E := encN .i64) sl22 rfl rfl (hv.ext hs_4.ext) (by omega)) ?_
          refine RT.yes rfl rfl rfl (decide_eq_false hg_2) ?_
          refine RT.ev rfl rfl (Ev.ldL (E := encN .i64) scal3 rfl (hv.ext hs_4.ext) hlx (by decide) rfl) ?_
          refine RT.yes rfl rfl rfl (decide_eq_false hg_2) ?_
          refine RT.ev rfl rfl (Ev.eqlN (b := 0) rfl rfl) <| RT.ev rfl rfl (Ev.pickN rfl (decide_eq_false hg_2) rfl) ?_
          refine RT.nil ?_
          exact ⟨⟨rfl, rfl, rfl, rfl, rfl, rfl, rfl, rfl, rfl, congrArg some (congrArg Value.bool (by simp [hg_1, hg_2])), trivial⟩, hs_4⟩
    · rintro L' w_5 ⟨hw_1, hs_5⟩
      refine CW.weaken _ hw_1 ?_
      refine CW.condF rfl (decide_eq_false (by omega)) ?_
      refine CW.skip ?_
      have hshp_1 := (hs_5.rdL (E := encN .u8) 2 rfl).shp (by decide)
      refine CW.draw (fun w' => Sat w [cL r_2 108 (encN .u64) (codesN l)] w') (.free 0 (.free 1 (.free 2 (.free 3 (.free 4 (.free 5 (.free 6 (.free 7 (.free 8 (.one 9 .fin)))))))))) mixed (by kernel_rfl) ?_
      have hs_6 := hs_5.drew
      have hS_1 : Sat w [cL r_2 108 (encN .u64) (codesN l)] _ := hs_6.sub ((.cons_cons _ (.cons _ (.cons _ .slnil))))
      refine RP.ev rfl rfl rfl (fun w' hS' => Ev.move rfl) hS_1 ?_
      refine RP.ev rfl rfl rfl (fun w' hS' => Ev.move rfl) hS_1 ?_
      refine RP.ev rfl rfl rfl (fun w' hS' => Ev.move rfl) hS_1 ?_
      refine RP.ev rfl rfl rfl (fun w' hS' => Ev.idxL (E := encN .u64) sl167 rfl rfl (hS'.rdL 0 rfl) (by omega)) hS_1 ?_
      refine RP.ev rfl rfl rfl (fun w' hS' => Ev.ldL (E := encN .u64) scal108 rfl (hS'.rdL 0 rfl) (code_of hgl hx0.2).1 (by decide) rfl) hS_1 ?_
      refine RP.ev rfl rfl rfl (fun w' hS' => Ev.move rfl) hS_1 ?_
      refine RP.ev rfl rfl rfl (fun w' hS' => Ev.move rfl) hS_1 ?_
      refine RP.ev rfl rfl rfl (fun w' hS' => Ev.idxL (E := encN .i64) sl22 rfl rfl (hv.ext hS'.ext) (by omega)) hS_1 ?_
      refine RP.ev rfl rfl rfl (fun w' hS' => Ev.ldL (E := encN .i64) scal3 rfl (hv.ext hS'.ext) hlx (by decide) rfl) hS_1 ?_
      have hA_1 : Sat w ([cObj b_1 214 [wv, (Value.int .i64 (((bits).length : Nat) : Int))], cL wv 5 (encN .u8) (packB (bits))] ++ ([cL r_2 108 (encN .u64) (codesN l)] ++ [])) _ := (Sat.order [1, 2, 0] (by decide) hs_6.tail).cut 2
      refine RP.eff rfl rfl rfl (OpE.callb ent139 rfl rfl ((wbits_ok _ _ _ _ _ (bits) ((cdOf l x)) ((lenKey l x)) hA_1 (hcdx) (by omega) (by omega)).mono fun r_4 w_6 h_4 => ?_))
      obtain ⟨rfl, wv_1, hp_4⟩ := h_4
      have hs_7 : Sat w [cL r_2 108 (encN .u64) (codesN l), cObj b_1 214 [wv_1, (Value.int .i64 (((bits ++ lowB ((cdOf l x)) ((lenKey l x))).length : Nat) : Int))], cL wv_1 5 (encN .u8) (packB (bits ++ lowB ((cdOf l x)) ((lenKey l x))))] _ := (Sat.order [2, 0, 1] (by decide) hp_4.join).untail
      have hS_2 : Sat w [cL r_2 108 (encN .u64) (codesN l)] _ := hs_7.sub ((.cons_cons _ (.cons _ (.cons _ .slnil))))
      refine ⟨hS_2, ?_⟩
      refine RP.fin ?_
      refine CW.region ?_
      refine RT.ev rfl rfl (Ev.addI (b := 1) rfl rfl (by omega)) <| RT.ev rfl rfl (Ev.move rfl) ?_
      refine RT.nil ?_
      exact ⟨(k + 1, wv_1, bits ++ lowB ((cdOf l x)) ((lenKey l x))), ⟨rfl, rfl, rfl, rfl, rfl, rfl, rfl, trivial⟩, ⟨hs_7, by omega, by rw [take_succ_of hx, hufB_snoc, hbits], by simp only [List.length_append, lowB_length]; omega⟩, (show (syms.length - (k + 1)) < (syms.length - k) from by omega)⟩
  · refine CW.exit0 ?_
    refine CW.seq ?_
    refine CW.region ?_
    refine RT.ev rfl rfl (Ev.move rfl) ?_
    refine RT.eff rfl rfl (OpE.call ent140 rfl ((wbytes_ok _ _ (packB (bits)) _ (hs_4.cell (i := 1) (j := 0) rfl rfl) (hs_4.rdL 2 rfl) (by rw [packB_length]; omega)).mono fun r_5 w_7 h_5 => ?_))
    have hp_5 := h_5
    have hs_8 : Sat w [cL r_2 108 (encN .u64) (codesN l), cObj b_1 214 [wv, (Value.int .i64 (((bits).length : Nat) : Int))], cL wv 5 (encN .u8) (packB (bits)), cL r_5 5 (encN .u8) (packB (bits))] _ := hs_4.adds hp_5
    refine RT.ev rfl rfl (Ev.move rfl) ?_
    refine RT.eff rfl rfl (OpE.call ent141 rfl ((wlen_ok _ ((bits).length) _ (hs_8.cell (i := 1) (j := 1) rfl rfl)).mono fun r_6 w_8 h_6 => ?_))
    obtain ⟨rfl, hp_6⟩ := h_6
    have hs_9 : Sat w [cL r_2 108 (encN .u64) (codesN l), cObj b_1 214 [wv, (Value.int .i64 (((bits).length : Nat) : Int))], cL wv 5 (encN .u8) (packB (bits)), cL r_5 5 (encN .u8) (packB (bits))] _ := hs_8.adds hp_6
    refine RT.ev rfl rfl (Ev.assign rfl) <| RT.ev rfl rfl (Ev.assign rfl) <| RT.ev rfl rfl (Ev.assign rfl) ?_
    refine RT.nil ?_
    refine CW.ret ?_
    show PostK _ _ _ _ _ _
    refine post3 rfl rfl rfl rfl ?_
    have hs_10 : Sat w [cL r_5 5 (encN .u8) (packB (bits))] w_8 := hs_9.sub ((.cons _ (.cons _ (.cons _ (.cons_cons _ .slnil)))))
    have hkl : bits = hufB l syms := by rw [hbits, show k = syms.length by omega, List.take_length]
    subst hkl
    exact ⟨_, rfl, hs_10⟩

end Go.Proofs.Ytfhbflhnelbkfaa
