/- The walks of the functions of F14t, printed by our own program (kwgen.py) out of our descriptions (base.py). -/
import Derived.Test.YtfhbflhnelbkfaaF14d
import Derived.Test.YtfhbflhnelbkfaaTab
namespace Go.Proofs.Ytfhbflhnelbkfaa
open Go.RowKit Go.Kw
set_option maxRecDepth 100000
set_option linter.unusedVariables false
set_option linter.unusedSimpArgs false
set_option maxHeartbeats 1000000 in
theorem tableOf_ok (v : Value) (l : List Nat) (w : World) (hv : RdL w v (encN .i64) l) (hn : l.length ≤ 1024) (hval : validB l = true) :
    CallsV Try.prog 128 [v] w fun r w' => ∃ g S, r = .pointer (some ⟨g, 0, none⟩) ∧ S.map Prod.snd = (T14 l).2.1 ∧ Sat w [tabC g 206 (T14 l).1 S (T14 l).2.2, cRows 3 (encN .i64) S] w' := by
  have hs0 := Sat.start w
  refine callsV_of Try.func128 rfl rfl ?_
  refine CW.seq ?_
  have hgl := GoodLens.of_valid hval
  have hiol := inOrd_length l
  refine CW.region ?_
  refine RT.ev rfl rfl (Ev.assign rfl) ?_
  refine RT.nil ?_
  refine CW.seq ?_
  refine CW.region ?_
  refine RT.ev rfl rfl (Ev.build bt206 rfl trivial rfl) ?_
  refine RT.eff rfl rfl (OpE.box hs0 rfl fun b_1 w_1 hs_1 hch_1 hb_1 => ?_)
  have hs_1d : Sat w [cObj b_1 206 [(Value.int .u64 ((0 : Nat) : Int)), (Value.int .u64 ((0 : Nat) : Int)), (Value.int .u64 ((0 : Nat) : Int)), (Value.int .u64 ((0 : Nat) : Int)), (Value.int .u64 ((0 : Nat) : Int)), (Value.int .u64 ((0 : Nat) : Int)), (Value.int .u64 ((0 : Nat) : Int)), (Value.int .u64 ((0 : Nat) : Int)), (Value.int .u64 ((0 : Nat) : Int)), (Value.int .u64 ((0 : Nat) : Int)), (Value.int .u64 ((0 : Nat) : Int)), (Value.int .u64 ((0 : Nat) : Int)), (Value.int .u64 ((0 : Nat) : Int)), (Value.int .u64 ((0 : Nat) : Int)), (Value.int .u64 ((0 : Nat) : Int)), (Value.int .u64 ((0 : Nat) : Int)), (Value.slice none 0 0), (Value.slice none 0 0), (Value.slice none 0 0), (Value.slice none 0 0), (Value.slice none 0 0), (Value.slice none 0 0), (Value.slice none 0 0), (Value.slice none 0 0), (Value.slice none 0 0), (Value.slice none 0 0), (Value.slice none 0 0), (Value.slice none 0 0), (Value.slice none 0 0), (Value.slice none 0 0), (Value.slice none 0 0), (Value.slice none 0 0), (Value.int .i64 ((0 : Nat) : Int))]] _ := hs_1
  refine RT.ev rfl rfl (Ev.assign rfl) ?_
  refine RT.nil ?_
  refine CW.seq ?_
  refine CW.region ?_
  refine RT.ev rfl rfl (Ev.move rfl) ?_
  refine RT.eff rfl rfl (OpE.call ent137 rfl ((codesOf_ok _ (l) _ (hv.ext hs_1d.ext) (hn) (validB_le hval)).mono fun r_1 w_2 h_1 => ?_))
  have hp_1 := h_1
  have hs_2 : Sat w [cObj b_1 206 [(Value.int .u64 ((0 : Nat) : Int)), (Value.int .u64 ((0 : Nat) : Int)), (Value.int .u64 ((0 : Nat) : Int)), (Value.int .u64 ((0 : Nat) : Int)), (Value.int .u64 ((0 : Nat) : Int)), (Value.int .u64 ((0 : Nat) : Int)), (Value.int .u64 ((0 : Nat) : Int)), (Value.int .u64 ((0 : Nat) : Int)), (Value.int .u64 ((0 : Nat) : Int)), (Value.int .u64 ((0 : Nat) : Int)), (Value.int .u64 ((0 : Nat) : Int)), (Value.int .u64 ((0 : Nat) : Int)), (Value.int .u64 ((0 : Nat) : Int)), (Value.int .u64 ((0 : Nat) : Int)), (Value.int .u64 ((0 : Nat) : Int)), (Value.int .u64 ((0 : Nat) : Int)), (Value.slice none 0 0), (Value.slice none 0 0), (Value.slice none 0 0), (Value.slice none 0 0), (Value.slice none 0 0), (Value.slice none 0 0), (Value.slice none 0 0), (Value.slice none 0 0), (Value.slice none 0 0), (Value.slice none 0 0), (Value.slice none 0 0), (Value.slice none 0 0), (Value.slice none 0 0), (Value.slice none 0 0), (Value.slice none 0 0), (Value.slice none 0 0), (Value.int .i64 ((0 : Nat) : Int))], cL r_1 108 (encN .u64) (codesN l)] _ := hs_1d.adds hp_1
  refine RT.ev rfl rfl (Ev.assign rfl) ?_
  refine RT.nil ?_
  refine CW.seq ?_
  refine CW.seq ?_
  refine CW.region ?_
  refine RT.ev rfl rfl (Ev.move rfl) ?_
  refine RT.eff rfl rfl (OpE.call ent168 rfl ((inOrder_ok _ (l) _ (hv.ext hs_2.ext) (hn) (fun x hx => by have := validB_le hval x hx; omega)).mono fun r_2 w_3 h_2 => ?_))
  have hp_2 := h_2
  have hs_3 : Sat w [cObj b_1 206 [(Value.int .u64 ((0 : Nat) : Int)), (Value.int .u64 ((0 : Nat) : Int)), (Value.int .u64 ((0 : Nat) : Int)), (Value.int .u64 ((0 : Nat) : Int)), (Value.int .u64 ((0 : Nat) : Int)), (Value.int .u64 ((0 : Nat) : Int)), (Value.int .u64 ((0 : Nat) : Int)), (Value.int .u64 ((0 : Nat) : Int)), (Value.int .u64 ((0 : Nat) : Int)), (Value.int .u64 ((0 : Nat) : Int)), (Value.int .u64 ((0 : Nat) : Int)), (Value.int .u64 ((0 : Nat) : Int)), (Value.int .u64 ((0 : Nat) : Int)), (Value.int .u64 ((0 : Nat) : Int)), (Value.int .u64 ((0 : Nat) : Int)), (Value.int .u64 ((0 : Nat) : Int)), (Value.slice none 0 0), (Value.slice none 0 0), (Value.slice none 0 0), (Value.slice none 0 0), (Value.slice none 0 0), (Value.slice none 0 0), (Value.slice none 0 0), (Value.slice none 0 0), (Value.slice none 0 0), (Value.slice none 0 0), (Value.slice none 0 0), (Value.slice none 0 0), (Value.slice none 0 0), (Value.slice none 0 0), (Value.slice none 0 0), (Value.slice none 0 0), (Value.int .i64 ((0 : Nat) : Int))], cL r_1 108 (encN .u64) (codesN l), cL r_2 3 (encN .i64) (inOrd (l))] _ := hs_2.adds hp_2
  refine RT.ev rfl rfl (Ev.lenL Try.underlying22 rfl (hs_3.rdL 2 rfl)) <| RT.ev rfl rfl (Ev.move rfl) ?_
  refine RT.nil ?_
  refine CW.block ?_
  have hs_4 : Sat w [tabC b_1 206 (List.replicate 16 0) (List.replicate 16 (⟨none, 0, 0⟩, [])) (0), cL r_1 108 (encN .u64) (codesN l), cL r_2 3 (encN .i64) (inOrd (l))] w_3 := hs_3
  have hs_5 : Sat w [tabC b_1 206 (List.replicate 16 0) (List.replicate 16 (⟨none, 0, 0⟩, [])) (0), cL r_1 108 (encN .u64) (codesN l), cL r_2 3 (encN .i64) (inOrd (l)), cRows 3 (encN .i64) (List.replicate 16 (⟨none, 0, 0⟩, []))] w_3 := hs_4.nilRows 3 (encN .i64) 16
  have hs_7 : Sat w [tabC b_1 206 (List.replicate 16 0) (List.replicate 16 (⟨none, 0, 0⟩, [])) (0), cRows 3 (encN .i64) (List.replicate 16 (⟨none, 0, 0⟩, [])), cL r_1 108 (encN .u64) (codesN l), cL r_2 3 (encN .i64) (inOrd (l))] w_3 := ((Sat.order [0, 3, 1, 2] (by decide) hs_5.tail).untail).sub ((.cons_cons _ (.cons_cons _ (.cons_cons _ (.cons_cons _ .slnil)))))
  refine CW.loop (α := Nat × List Nat × List (SV × List Nat) × Nat) (fun (k, F, S, lo) => [(0, v), (3, (Value.pointer (some ⟨b_1, 0, none⟩))), (4, r_1), (13, r_2), (14, (Value.int .i64 (((inOrd (l)).length : Nat) : Int))), (15, (Value.int .i64 ((k : Nat) : Int)))]) (fun (k, F, S, lo) w' => Sat w [tabC b_1 206 (F) (S) (lo), cRows 3 (encN .i64) (S), cL r_1 108 (encN .u64) (codesN l), cL r_2 3 (encN .i64) (inOrd (l))] w' ∧ (k ≤ (inOrd l).length) ∧ (F = (tabN l ((inOrd l).take k)).1) ∧ (S.map Prod.snd = (tabN l ((inOrd l).take k)).2.1) ∧ (lo = (tabN l ((inOrd l).take k)).2.2) ∧ (F.length = 16) ∧ (S.length = 16)) (fun (k, F, S, lo) => (inOrd l).length - k) (0, List.replicate 16 0, List.replicate 16 (⟨none, 0, 0⟩, []), 0) ⟨rfl, rfl, rfl, rfl, rfl, rfl, trivial⟩ ⟨hs_7, Nat.zero_le _, rfl, rfl, rfl, rfl, rfl⟩ ?_
  rintro ⟨k, F, S, lo⟩ w_4 ⟨hs_8, hk, hTF, hTS, hTl, hFl, hSl⟩
  show CW _ _ _ _ [(0, v), (3, (Value.pointer (some ⟨b_1, 0, none⟩))), (4, r_1), (13, r_2), (14, (Value.int .i64 (((inOrd (l)).length : Nat) : Int))), (15, (Value.int .i64 ((k : Nat) : Int)))] _
  refine CW.seq ?_
  refine CW.region ?_
  refine RT.ev rfl rfl (Ev.lssN rfl rfl) ?_
  refine RT.nil ?_
  refine CW.seq ?_
  refine CW.condD rfl (fun hc_1 => ?_) (fun hc_1 => ?_)
  · refine CW.skip ?_
    refine CW.seq ?_
    refine CW.block ?_
    refine CW.seq ?_
    obtain ⟨x, hx⟩ : ∃ x, (inOrd (l))[k]? = some x := ⟨_, List.getElem?_eq_getElem hc_1⟩
    refine CW.region ?_
    refine RT.ev rfl rfl (Ev.idxL (E := encN .i64) sl22 rfl rfl (hs_8.rdL 3 rfl) (by omega)) <| RT.ev rfl rfl (Ev.ldL (E := encN .i64) scal3 rfl (hs_8.rdL 3 rfl) hx (by decide) rfl) <| RT.ev rfl rfl (Ev.assign rfl) ?_
    refine RT.nil ?_
    refine CW.seq ?_
    have hxm := inOrd_mem l x (mem_of_get hx)
    have hlx := lenKey_some hxm.1
    have hl15 := hgl.le x
    refine CW.region ?_
    refine RT.ev rfl rfl (Ev.move rfl) <| RT.ev rfl rfl (Ev.move rfl) <| RT.ev rfl rfl (Ev.idxL (E := encN .i64) sl22 rfl rfl (hv.ext hs_8.ext) (by omega)) <| RT.ev rfl rfl (Ev.ldL (E := encN .i64) scal3 rfl (hv.ext hs_8.ext) hlx (by decide) rfl) <| RT.ev rfl rfl (Ev.assign rfl) ?_
    refine RT.nil ?_
    refine CW.seq ?_
    refine CW.seq ?_
    obtain ⟨p, hp⟩ : ∃ p, S[lenKey l x]? = some p := ⟨_, List.getElem?_eq_getElem (by omega)⟩
    have hpd := mapsnd hp
    have hsp := tabN_spec l hgl.le ((inOrd l).take k)
    have hp2 : p.2.length ≤ 1024 := by
      have h1 := (hsp.2.2.1 (lenKey l x) (by omega)).1
      rw [← hTS, hpd] at h1
      rw [h1]
      have h2 := List.length_filter_le (fun z => lenKey l z == lenKey l x) ((inOrd l).take k)
      have h3 := inOrd_length l
      rw [List.length_take] at h2; omega
    have hcl := codesN_length l
    refine CW.region ?_
    refine RT.ev rfl rfl (Ev.move rfl) <| RT.ev rfl rfl (Ev.move rfl) <| RT.ev rfl rfl (Ev.nilCheck rfl) <| RT.ev rfl rfl (Ev.fieldAddr fld206_1 rfl rfl) <| RT.ev rfl rfl (Ev.idxArr arr204 rfl rfl (by omega)) <| RT.ev rfl rfl (Ev.load scal22 rfl (hs_8.tabS 0 rfl (by (try simp only [List.length_set]); assumption) hp)) <| RT.ev rfl rfl (Ev.lenL Try.underlying22 rfl (hs_8.rdRows 1 rfl hp)) <| RT.ev rfl rfl (Ev.eqlN (b := 0) rfl rfl) ?_
    refine RT.nil ?_
    refine CW.condD rfl (fun hc_2 => ?_) (fun hc_2 => ?_)
    · refine CW.draw (fun w' => Sat w [cRows 3 (encN .i64) (S), cL r_1 108 (encN .u64) (codesN l), cL r_2 3 (encN .i64) (inOrd (l))] w') (.free 0 (.free 1 (.free 2 (.free 3 (.free 4 (.free 5 (.free 6 (.free 7 (.free 8 (.one 9 .fin)))))))))) mixed (by kernel_rfl) ?_
      have hs_9 := hs_8.drew
      have hS_1 : Sat w [cRows 3 (encN .i64) (S), cL r_1 108 (encN .u64) (codesN l), cL r_2 3 (encN .i64) (inOrd (l))] _ := hs_9.sub ((.cons _ (.cons_cons _ (.cons_cons _ (.cons_cons _ .slnil)))))
      refine RP.ev rfl rfl rfl (fun w' hS' => Ev.move rfl) hS_1 ?_
      refine RP.ev rfl rfl rfl (fun w' hS' => Ev.move rfl) hS_1 ?_
      refine RP.ev rfl rfl rfl (fun w' hS' => Ev.move rfl) hS_1 ?_
      refine RP.ev rfl rfl rfl (fun w' hS' => Ev.move rfl) hS_1 ?_
      refine RP.ev rfl rfl rfl (fun w' hS' => Ev.idxL (E := encN .u64) sl167 rfl rfl (hS'.rdL 1 rfl) (by omega)) hS_1 ?_
      refine RP.ev rfl rfl rfl (fun w' hS' => Ev.ldL (E := encN .u64) scal108 rfl (hS'.rdL 1 rfl) (code_of hgl hxm.2).1 (by decide) rfl) hS_1 ?_
      refine RP.ev rfl rfl rfl (fun w' hS' => Ev.nilCheck rfl) hS_1 ?_
      refine RP.ev rfl rfl rfl (fun w' hS' => Ev.fieldAddr fld206_0 rfl rfl) hS_1 ?_
      refine RP.ev rfl rfl rfl (fun w' hS' => Ev.idxArr arr203 rfl rfl (by omega)) hS_1 ?_
      refine RP.eff rfl rfl rfl (OpE.setTabF (a := (cdOf l x)) 0 one108 hs_9 rfl rfl rfl (by omega) fun w_5 hs_10 hch_2 => ?_)
      have hs_10d : Sat w [tabC b_1 206 (F.set (lenKey l x) (cdOf l x)) (S) (lo), cRows 3 (encN .i64) (S), cL r_1 108 (encN .u64) (codesN l), cL r_2 3 (encN .i64) (inOrd (l))] _ := hs_10
      have hS_2 : Sat w [cRows 3 (encN .i64) (S), cL r_1 108 (encN .u64) (codesN l), cL r_2 3 (encN .i64) (inOrd (l))] _ := hs_10d.sub ((.cons _ (.cons_cons _ (.cons_cons _ (.cons_cons _ .slnil)))))
      refine ⟨hS_2, ?_⟩
      refine RP.fin ?_
      refine CW.seq ?_
      have hs_11 : Sat w [tabC b_1 206 (F.set (lenKey l x) (cdOf l x)) (S) (lo), cRows 3 (encN .i64) (S.eraseIdx (lenKey l x)), cL r_1 108 (encN .u64) (codesN l), cL r_2 3 (encN .i64) (inOrd (l)), cL p.1.val 3 (encN .i64) (p.2)] w_5 := Sat.rowOut (A := [tabC b_1 206 (F.set (lenKey l x) (cdOf l x)) (S) (lo), cRows 3 (encN .i64) (S), cL r_1 108 (encN .u64) (codesN l), cL r_2 3 (encN .i64) (inOrd (l))]) hs_10d 1 rfl hp
      have hshp_1 := (hs_11.rdL (E := encN .i64) 4 rfl).shp (by decide)
      refine CW.draw2 (fun w' => Sat w [tabC b_1 206 (F.set (lenKey l x) (cdOf l x)) (S) (lo), cRows 3 (encN .i64) (S.eraseIdx (lenKey l x)), cL r_1 108 (encN .u64) (codesN l), cL r_2 3 (encN .i64) (inOrd (l))] w') (fun w' => Sat w [cRows 3 (encN .i64) (S.eraseIdx (lenKey l x)), cL r_1 108 (encN .u64) (codesN l), cL r_2 3 (encN .i64) (inOrd (l))] w') 14 (.free 0 (.free 1 (.free 2 (.free 3 (.free 4 (.free 5 (.free 6 (.free 7 (.free 8 (.loose 11 (.loose 12 (.one 9 (.one 10 (.free 13 (.bar 14 .fin))))))))))))))) (fun w' h => h.sub ((.cons _ (.cons_cons _ (.cons_cons _ (.cons_cons _ .slnil)))))) mixed (by kernel_rfl) ?_
      have hs_12 := hs_11.drew
      have hS_3 : Sat w [tabC b_1 206 (F.set (lenKey l x) (cdOf l x)) (S) (lo), cRows 3 (encN .i64) (S.eraseIdx (lenKey l x)), cL r_1 108 (encN .u64) (codesN l), cL r_2 3 (encN .i64) (inOrd (l))] _ := hs_12.sub ((.cons_cons _ (.cons_cons _ (.cons_cons _ (.cons_cons _ (.cons _ .slnil))))))
      refine RP.ev rfl rfl rfl (fun w' hS' => Ev.move rfl) hS_3 ?_
      refine RP.ev rfl rfl rfl (fun w' hS' => Ev.move rfl) hS_3 ?_
      refine RP.ev rfl rfl rfl (fun w' hS' => Ev.move rfl) hS_3 ?_
      refine RP.ev rfl rfl rfl (fun w' hS' => Ev.move rfl) hS_3 ?_
      refine RP.ev rfl rfl rfl (fun w' hS' => Ev.nilCheck rfl) hS_3 ?_
      refine RP.ev rfl rfl rfl (fun w' hS' => Ev.fieldAddr fld206_1 rfl rfl) hS_3 ?_
      refine RP.ev rfl rfl rfl (fun w' hS' => Ev.idxArr arr204 rfl rfl (by omega)) hS_3 ?_
      refine RP.ev rfl rfl rfl (fun w' hS' => Ev.load scal22 rfl (hS'.tabS 0 rfl (by (try simp only [List.length_set]); assumption) hp)) hS_3 ?_
      refine RP.ev rfl rfl rfl (fun w' hS' => Ev.move rfl) hS_3 ?_
      refine RP.loose rfl rfl rfl (fun w' hS' => Ev.nilCheck rfl) hS_3 ?_
      refine RP.loose rfl rfl rfl (fun w' hS' => Ev.fieldAddr fld206_1 rfl rfl) hS_3 ?_
      refine RP.eff rfl rfl rfl (OpE.lit1 (encN .i64) x sl22 rfl hs_12 rfl fun v_1 w_6 hs_13 hch_3 => ?_)
      have hs_13d : Sat w [tabC b_1 206 (F.set (lenKey l x) (cdOf l x)) (S) (lo), cRows 3 (encN .i64) (S.eraseIdx (lenKey l x)), cL r_1 108 (encN .u64) (codesN l), cL r_2 3 (encN .i64) (inOrd (l)), cL p.1.val 3 (encN .i64) (p.2), cL v_1 3 (encN .i64) ([x])] _ := hs_13
      have hS_4 : Sat w [tabC b_1 206 (F.set (lenKey l x) (cdOf l x)) (S) (lo), cRows 3 (encN .i64) (S.eraseIdx (lenKey l x)), cL r_1 108 (encN .u64) (codesN l), cL r_2 3 (encN .i64) (inOrd (l))] _ := hs_13d.sub ((.cons_cons _ (.cons_cons _ (.cons_cons _ (.cons_cons _ (.cons _ (.cons _ .slnil)))))))
      refine ⟨hS_4, ?_⟩
      refine RP.eff rfl rfl rfl (OpE.appendL 4 sl22 hs_13d rfl rfl rfl Try.underlying22 (hs_13d.rdL 5 rfl) (by simp; omega) (by simp; omega) fun v_2 w_7 hs_14 hch_4 => ?_)
      have hs_14d : Sat w [tabC b_1 206 (F.set (lenKey l x) (cdOf l x)) (S) (lo), cRows 3 (encN .i64) (S.eraseIdx (lenKey l x)), cL r_1 108 (encN .u64) (codesN l), cL r_2 3 (encN .i64) (inOrd (l)), cL v_2 3 (encN .i64) (p.2 ++ [x])] _ := hs_14.drop 5
      obtain ⟨sv_1, hsv_1, hsv_1n⟩ := (hs_14d.rdL 4 rfl).sv
      subst hsv_1
      have hS_5 : Sat w [tabC b_1 206 (F.set (lenKey l x) (cdOf l x)) (S) (lo), cRows 3 (encN .i64) (S.eraseIdx (lenKey l x)), cL r_1 108 (encN .u64) (codesN l), cL r_2 3 (encN .i64) (inOrd (l))] _ := hs_14d.sub ((.cons_cons _ (.cons_cons _ (.cons_cons _ (.cons_cons _ (.cons _ .slnil))))))
      refine ⟨hS_5, ?_⟩
      refine RP.ev rfl rfl rfl (fun w' hS' => Ev.idxArr arr204 rfl rfl (by omega)) hS_5 ?_
      refine RP.bar rfl rfl rfl (OpE.setTabS (sv_1, p.2 ++ [x]) 0 one22 hs_14d rfl rfl rfl (by (try simp only [List.length_set]); assumption) (by omega) fun w_8 hs_15 hch_5 => ?_)
      have hs_15d : Sat w [tabC b_1 206 (F.set (lenKey l x) (cdOf l x)) (S.set (lenKey l x) (sv_1, p.2 ++ [x])) (lo), cRows 3 (encN .i64) (S.eraseIdx (lenKey l x)), cL r_1 108 (encN .u64) (codesN l), cL r_2 3 (encN .i64) (inOrd (l)), cL sv_1.val 3 (encN .i64) (p.2 ++ [x])] _ := hs_15
      have hS_6 : Sat w [cRows 3 (encN .i64) (S.eraseIdx (lenKey l x)), cL r_1 108 (encN .u64) (codesN l), cL r_2 3 (encN .i64) (inOrd (l))] _ := hs_15d.sub ((.cons _ (.cons_cons _ (.cons_cons _ (.cons_cons _ (.cons _ .slnil))))))
      refine ⟨hS_6, ?_⟩
      refine RP.fin ?_
      have hs_16 : Sat w [tabC b_1 206 (F.set (lenKey l x) (cdOf l x)) (S.set (lenKey l x) (sv_1, p.2 ++ [x])) (lo), cRows 3 (encN .i64) (S.set (lenKey l x) (sv_1, p.2 ++ [x])), cL r_1 108 (encN .u64) (codesN l), cL r_2 3 (encN .i64) (inOrd (l))] w_8 := Sat.rowIn (A := [tabC b_1 206 (F.set (lenKey l x) (cdOf l x)) (S.set (lenKey l x) (sv_1, p.2 ++ [x])) (lo), cRows 3 (encN .i64) (S.eraseIdx (lenKey l x)), cL r_1 108 (encN .u64) (codesN l), cL r_2 3 (encN .i64) (inOrd (l))]) hs_15d 1 rfl (by omega)
      refine CW.weaken [(0, _), (3, _), (4, _), (6, _), (7, _), (13, _), (14, _), (15, _), (16, _), (30, _)] ⟨rfl, rfl, rfl, rfl, rfl, rfl, rfl, rfl, rfl, rfl, trivial⟩ ?_
      refine CW.region ?_
      refine RT.ev rfl rfl (Ev.move rfl) <| RT.ev rfl rfl (Ev.move rfl) <| RT.ev rfl rfl (Ev.nilCheck rfl) <| RT.ev rfl rfl (Ev.fieldAddr fld206_2 rfl rfl) ?_
      refine RT.eff rfl rfl (OpE.setTabN (a := (lenKey l x)) 0 one3 hs_16 rfl rfl rfl (by (try simp only [List.length_set]); assumption) (by (try simp only [List.length_set]); assumption) fun w_9 hs_17 hch_6 => ?_)
      have hs_17d : Sat w [tabC b_1 206 (F.set (lenKey l x) (cdOf l x)) (S.set (lenKey l x) (sv_1, p.2 ++ [x])) ((lenKey l x)), cRows 3 (encN .i64) (S.set (lenKey l x) (sv_1, p.2 ++ [x])), cL r_1 108 (encN .u64) (codesN l), cL r_2 3 (encN .i64) (inOrd (l))] _ := hs_17
      refine RT.nil ?_
      refine CW.region ?_
      refine RT.ev rfl rfl (Ev.addI (b := 1) rfl rfl (by omega)) <| RT.ev rfl rfl (Ev.move rfl) ?_
      refine RT.nil ?_
      exact ⟨(k + 1, F.set (lenKey l x) (cdOf l x), S.set (lenKey l x) (sv_1, p.2 ++ [x]), lenKey l x), ⟨rfl, rfl, rfl, rfl, rfl, rfl, trivial⟩, ⟨hs_17d, by omega, by rw [take_succ_of hx, tabN_snoc, tStep, ← hTS, hpd, ← hTF]; simp [hc_2], by rw [take_succ_of hx, tabN_snoc, tStep, ← hTS, hpd, List.map_set], by rw [take_succ_of hx, tabN_snoc, tStep], by (try simp only [List.length_set]); exact hFl, by simp only [List.length_set]; exact hSl⟩, (show ((inOrd l).length - (k + 1)) < ((inOrd l).length - k) from by omega)⟩
    · refine CW.skip ?_
      refine CW.seq ?_
      have hs_18 : Sat w [tabC b_1 206 (F) (S) (lo), cRows 3 (encN .i64) (S.eraseIdx (lenKey l x)), cL r_1 108 (encN .u64) (codesN l), cL r_2 3 (encN .i64) (inOrd (l)), cL p.1.val 3 (encN .i64) (p.2)] w_4 := Sat.rowOut (A := [tabC b_1 206 (F) (S) (lo), cRows 3 (encN .i64) (S), cL r_1 108 (encN .u64) (codesN l), cL r_2 3 (encN .i64) (inOrd (l))]) hs_8 1 rfl hp
      have hshp_2 := (hs_18.rdL (E := encN .i64) 4 rfl).shp (by decide)
      refine CW.draw2 (fun w' => Sat w [tabC b_1 206 (F) (S) (lo), cRows 3 (encN .i64) (S.eraseIdx (lenKey l x)), cL r_1 108 (encN .u64) (codesN l), cL r_2 3 (encN .i64) (inOrd (l))] w') (fun w' => Sat w [cRows 3 (encN .i64) (S.eraseIdx (lenKey l x)), cL r_1 108 (encN .u64) (codesN l), cL r_2 3 (encN .i64) (inOrd (l))] w') 14 (.free 0 (.free 1 (.free 2 (.free 3 (.free 4 (.free 5 (.free 6 (.free 7 (.free 8 (.loose 11 (.loose 12 (.one 9 (.one 10 (.free 13 (.bar 14 .fin))))))))))))))) (fun w' h => h.sub ((.cons _ (.cons_cons _ (.cons_cons _ (.cons_cons _ .slnil)))))) mixed (by kernel_rfl) ?_
      have hs_19 := hs_18.drew
      have hS_7 : Sat w [tabC b_1 206 (F) (S) (lo), cRows 3 (encN .i64) (S.eraseIdx (lenKey l x)), cL r_1 108 (encN .u64) (codesN l), cL r_2 3 (encN .i64) (inOrd (l))] _ := hs_19.sub ((.cons_cons _ (.cons_cons _ (.cons_cons _ (.cons_cons _ (.cons _ .slnil))))))
      refine RP.ev rfl rfl rfl (fun w' hS' => Ev.move rfl) hS_7 ?_
      refine RP.ev rfl rfl rfl (fun w' hS' => Ev.move rfl) hS_7 ?_
      refine RP.ev rfl rfl rfl (fun w' hS' => Ev.move rfl) hS_7 ?_
      refine RP.ev rfl rfl rfl (fun w' hS' => Ev.move rfl) hS_7 ?_
      refine RP.ev rfl rfl rfl (fun w' hS' => Ev.nilCheck rfl) hS_7 ?_
      refine RP.ev rfl rfl rfl (fun w' hS' => Ev.fieldAddr fld206_1 rfl rfl) hS_7 ?_
      refine RP.ev rfl rfl rfl (fun w' hS' => Ev.idxArr arr204 rfl rfl (by omega)) hS_7 ?_
      refine RP.ev rfl rfl rfl (fun w' hS' => Ev.load scal22 rfl (hS'.tabS 0 rfl (by (try simp only [List.length_set]); assumption) hp)) hS_7 ?_
      refine RP.ev rfl rfl rfl (fun w' hS' => Ev.move rfl) hS_7 ?_
      refine RP.loose rfl rfl rfl (fun w' hS' => Ev.nilCheck rfl) hS_7 ?_
      refine RP.loose rfl rfl rfl (fun w' hS' => Ev.fieldAddr fld206_1 rfl rfl) hS_7 ?_
      refine RP.eff rfl rfl rfl (OpE.lit1 (encN .i64) x sl22 rfl hs_19 rfl fun v_3 w_10 hs_20 hch_7 => ?_)
      have hs_20d : Sat w [tabC b_1 206 (F) (S) (lo), cRows 3 (encN .i64) (S.eraseIdx (lenKey l x)), cL r_1 108 (encN .u64) (codesN l), cL r_2 3 (encN .i64) (inOrd (l)), cL p.1.val 3 (encN .i64) (p.2), cL v_3 3 (encN .i64) ([x])] _ := hs_20
      have hS_8 : Sat w [tabC b_1 206 (F) (S) (lo), cRows 3 (encN .i64) (S.eraseIdx (lenKey l x)), cL r_1 108 (encN .u64) (codesN l), cL r_2 3 (encN .i64) (inOrd (l))] _ := hs_20d.sub ((.cons_cons _ (.cons_cons _ (.cons_cons _ (.cons_cons _ (.cons _ (.cons _ .slnil)))))))
      refine ⟨hS_8, ?_⟩
      refine RP.eff rfl rfl rfl (OpE.appendL 4 sl22 hs_20d rfl rfl rfl Try.underlying22 (hs_20d.rdL 5 rfl) (by simp; omega) (by simp; omega) fun v_4 w_11 hs_21 hch_8 => ?_)
      have hs_21d : Sat w [tabC b_1 206 (F) (S) (lo), cRows 3 (encN .i64) (S.eraseIdx (lenKey l x)), cL r_1 108 (encN .u64) (codesN l), cL r_2 3 (encN .i64) (inOrd (l)), cL v_4 3 (encN .i64) (p.2 ++ [x])] _ := hs_21.drop 5
      obtain ⟨sv_2, hsv_2, hsv_2n⟩ := (hs_21d.rdL 4 rfl).sv
      subst hsv_2
      have hS_9 : Sat w [tabC b_1 206 (F) (S) (lo), cRows 3 (encN .i64) (S.eraseIdx (lenKey l x)), cL r_1 108 (encN .u64) (codesN l), cL r_2 3 (encN .i64) (inOrd (l))] _ := hs_21d.sub ((.cons_cons _ (.cons_cons _ (.cons_cons _ (.cons_cons _ (.cons _ .slnil))))))
      refine ⟨hS_9, ?_⟩
      refine RP.ev rfl rfl rfl (fun w' hS' => Ev.idxArr arr204 rfl rfl (by omega)) hS_9 ?_
      refine RP.bar rfl rfl rfl (OpE.setTabS (sv_2, p.2 ++ [x]) 0 one22 hs_21d rfl rfl rfl (by (try simp only [List.length_set]); assumption) (by omega) fun w_12 hs_22 hch_9 => ?_)
      have hs_22d : Sat w [tabC b_1 206 (F) (S.set (lenKey l x) (sv_2, p.2 ++ [x])) (lo), cRows 3 (encN .i64) (S.eraseIdx (lenKey l x)), cL r_1 108 (encN .u64) (codesN l), cL r_2 3 (encN .i64) (inOrd (l)), cL sv_2.val 3 (encN .i64) (p.2 ++ [x])] _ := hs_22
      have hS_10 : Sat w [cRows 3 (encN .i64) (S.eraseIdx (lenKey l x)), cL r_1 108 (encN .u64) (codesN l), cL r_2 3 (encN .i64) (inOrd (l))] _ := hs_22d.sub ((.cons _ (.cons_cons _ (.cons_cons _ (.cons_cons _ (.cons _ .slnil))))))
      refine ⟨hS_10, ?_⟩
      refine RP.fin ?_
      have hs_23 : Sat w [tabC b_1 206 (F) (S.set (lenKey l x) (sv_2, p.2 ++ [x])) (lo), cRows 3 (encN .i64) (S.set (lenKey l x) (sv_2, p.2 ++ [x])), cL r_1 108 (encN .u64) (codesN l), cL r_2 3 (encN .i64) (inOrd (l))] w_12 := Sat.rowIn (A := [tabC b_1 206 (F) (S.set (lenKey l x) (sv_2, p.2 ++ [x])) (lo), cRows 3 (encN .i64) (S.eraseIdx (lenKey l x)), cL r_1 108 (encN .u64) (codesN l), cL r_2 3 (encN .i64) (inOrd (l))]) hs_22d 1 rfl (by omega)
      refine CW.region ?_
      refine RT.ev rfl rfl (Ev.move rfl) <| RT.ev rfl rfl (Ev.move rfl) <| RT.ev rfl rfl (Ev.nilCheck rfl) <| RT.ev rfl rfl (Ev.fieldAddr fld206_2 rfl rfl) ?_
      refine RT.eff rfl rfl (OpE.setTabN (a := (lenKey l x)) 0 one3 hs_23 rfl rfl rfl (by (try simp only [List.length_set]); assumption) (by (try simp only [List.length_set]); assumption) fun w_13 hs_24 hch_10 => ?_)
      have hs_24d : Sat w [tabC b_1 206 (F) (S.set (lenKey l x) (sv_2, p.2 ++ [x])) ((lenKey l x)), cRows 3 (encN .i64) (S.set (lenKey l x) (sv_2, p.2 ++ [x])), cL r_1 108 (encN .u64) (codesN l), cL r_2 3 (encN .i64) (inOrd (l))] _ := hs_24
      refine RT.nil ?_
      refine CW.region ?_
      refine RT.ev rfl rfl (Ev.addI (b := 1) rfl rfl (by omega)) <| RT.ev rfl rfl (Ev.move rfl) ?_
      refine RT.nil ?_
      exact ⟨(k + 1, F, S.set (lenKey l x) (sv_2, p.2 ++ [x]), lenKey l x), ⟨rfl, rfl, rfl, rfl, rfl, rfl, trivial⟩, ⟨hs_24d, by omega, by rw [take_succ_of hx, tabN_snoc, tStep, ← hTS, hpd, ← hTF]; simp [hc_2], by rw [take_succ_of hx, tabN_snoc, tStep, ← hTS, hpd, List.map_set], by rw [take_succ_of hx, tabN_snoc, tStep], by (try simp only [List.length_set]); exact hFl, by simp only [List.length_set]; exact hSl⟩, (show ((inOrd l).length - (k + 1)) < ((inOrd l).length - k) from by omega)⟩
  · refine CW.exit0 ?_
    refine CW.seq ?_
    refine CW.region ?_
    refine RT.ev rfl rfl (Ev.move rfl) <| RT.ev rfl rfl (Ev.assign rfl) ?_
    refine RT.nil ?_
    refine CW.ret ?_
    show PostK _ _ _ _ _ _
    refine post1 rfl rfl ?_
    have hs_25 : Sat w [tabC b_1 206 (F) (S) (lo), cRows 3 (encN .i64) (S)] w_4 := hs_8.sub ((.cons_cons _ (.cons_cons _ (.cons _ (.cons _ .slnil)))))
    have hk2 : (inOrd l).take k = inOrd l := List.take_of_length_le (by omega)
    rw [hk2] at hTF hTS hTl
    subst hTF; subst hTl
    exact ⟨_, S, rfl, hTS, hs_25⟩

set_option maxHeartbeats 1000000 in
theorem hdecode_all (v u : Value) (l b : List Nat) (bits count : Nat) (w : World) (hv : RdL w v (encN .i64) l) (hu : RdL w u (encN .u8) b) (hn : l.length ≤ 1024) (hval : validB l = true) (hb : ∀ x ∈ b, x < 256) (hbits : bits ≤ 8 * b.length) (hbl : b.length ≤ 1000000) (hcount : count ≤ 4096) :
    CallsV Try.prog 97 [v, u, (Value.int .i64 ((bits : Nat) : Int)), (Value.int .i64 ((count : Nat) : Int))] w fun r w' => (∃ s v', hdec l b bits count = some s ∧ r = .tuple #[v', .int .i64 ((0 : Nat) : Int)] ∧ Sat w [cL v' 3 (encN .i64) s] w') ∨ (hdec l b bits count = none ∧ ∃ e : Nat, e ≠ 0 ∧ r = .tuple #[.slice none 0 0, .int .i64 (e : Int)] ∧ Sat w [] w') := by
  have hs0 := Sat.start w
  refine callsV_of Try.func97 rfl rfl ?_
  refine CW.seq ?_
  have hgl := GoodLens.of_valid hval
  refine CW.region ?_
  refine RT.ev rfl rfl (Ev.assign rfl) <| RT.ev rfl rfl (Ev.assign rfl) ?_
  refine RT.nil ?_
  refine CW.seq ?_
  refine CW.seq ?_
  refine CW.region ?_
  refine RT.ev rfl rfl (Ev.move rfl) ?_
  refine RT.eff rfl rfl (OpE.call ent126 rfl ((valid_ok _ (l) _ (hv.ext hs0.ext) (hn)).mono fun r_1 w_1 h_1 => ?_))
  obtain ⟨rfl, hp_1⟩ := h_1
  have hs_1 : Sat w [] _ := hs0.adds hp_1
  refine RT.ev rfl rfl (Ev.notB rfl) <| RT.ev rfl rfl (Ev.move rfl) ?_
  refine RT.yes rfl rfl rfl (by rw [hval]; rfl) ?_
  refine RT.ev rfl rfl (Ev.move rfl) ?_
  refine RT.yes rfl rfl rfl (by rw [hval]; rfl) ?_
  refine RT.ev rfl rfl (Ev.lssN (b := 0) rfl rfl) <| RT.ev rfl rfl (Ev.pickN rfl (by rw [hval]; rfl) rfl) <| RT.ev rfl rfl (Ev.move rfl) ?_
  refine RT.yes rfl rfl rfl (decide_eq_false (by omega)) ?_
  refine RT.ev rfl rfl (Ev.move rfl) ?_
  refine RT.yes rfl rfl rfl (decide_eq_false (by omega)) ?_
  refine RT.ev rfl rfl (Ev.gtrN (b := 4096) rfl rfl) <| RT.ev rfl rfl (Ev.pickN rfl (decide_eq_false (by omega)) rfl) ?_
  refine RT.nil ?_
  refine CW.condF rfl (decide_eq_false (by omega)) ?_
  refine CW.skip ?_
  refine CW.seq ?_
  refine CW.region ?_
  refine RT.ev rfl rfl (Ev.move rfl) <| RT.ev rfl rfl (Ev.move rfl) ?_
  refine RT.eff rfl rfl (OpE.call ent127 rfl ((newReader_ok _ (b) (bits) _ (hu.ext hs_1.ext) (hbits) (by omega)).mono fun r_2 w_2 h_2 => ?_))
  obtain ⟨rg_1, rv_1, rfl, hp_2⟩ := h_2
  have hs_2 : Sat w [cObj rg_1 202 [rv_1, (Value.int .i64 ((bits : Nat) : Int)), (Value.int .i64 ((0 : Nat) : Int))], cL rv_1 5 (encN .u8) (b.take ((bits + 7) / 8))] _ := hs_1.adds hp_2
  refine RT.ev rfl rfl (Ev.move rfl) <| RT.ev rfl rfl (Ev.extract rfl rfl) <| RT.ev rfl rfl (Ev.extract rfl rfl) <| RT.ev rfl rfl (Ev.assign rfl) <| RT.ev rfl rfl (Ev.assign rfl) ?_
  refine RT.nil ?_
  refine CW.seq ?_
  refine CW.seq ?_
  refine CW.region ?_
  refine RT.ev rfl rfl (Ev.move rfl) <| RT.ev rfl rfl (Ev.neqN (a := 0) (b := 0) rfl rfl) ?_
  refine RT.nil ?_
  refine CW.condF rfl (rfl) ?_
  refine CW.skip ?_
  refine CW.seq ?_
  refine CW.region ?_
  refine RT.ev rfl rfl (Ev.move rfl) ?_
  refine RT.eff rfl rfl (OpE.call ent128 rfl ((tableOf_ok _ (l) _ (hv.ext hs_2.ext) (hn) (hval)).mono fun r_3 w_3 h_3 => ?_))
  obtain ⟨tb_1, S_1, rfl, hS__1, hp_3⟩ := h_3
  have hs_3 : Sat w [cObj rg_1 202 [rv_1, (Value.int .i64 ((bits : Nat) : Int)), (Value.int .i64 ((0 : Nat) : Int))], cL rv_1 5 (encN .u8) (b.take ((bits + 7) / 8)), tabC tb_1 206 ((T14 l).1) (S_1) ((T14 l).2.2), cRows 3 (encN .i64) (S_1)] _ := hs_2.adds hp_3
  refine RT.ev rfl rfl (Ev.assign rfl) ?_
  refine RT.nil ?_
  refine CW.seq ?_
  refine CW.region ?_
  refine RT.ev rfl rfl (Ev.assign rfl) ?_
  refine RT.nil ?_
  refine CW.seq ?_
  refine CW.seq ?_
  refine CW.region ?_
  refine RT.ev rfl rfl (Ev.move rfl) <| RT.ev rfl rfl (Ev.move rfl) ?_
  refine RT.nil ?_
  refine CW.block ?_
  have hs_4 : Sat w [cObj rg_1 202 [rv_1, (Value.int .i64 ((bits : Nat) : Int)), (Value.int .i64 ((0 : Nat) : Int))], cL rv_1 5 (encN .u8) (b.take ((bits + 7) / 8)), tabC tb_1 206 ((T14 l).1) (S_1) ((T14 l).2.2), cRows 3 (encN .i64) (S_1), cL (Value.slice none 0 0) 3 (encN .i64) ([])] _ := hs_3.newNilL 3 (encN .i64)
  have hSl : S_1.length = 16 := by have h := congrArg List.length hS__1; rw [List.length_map] at h; rw [h]; exact (tabN_spec l hgl.le (inOrd l)).2.1
  have hFl : (T14 l).1.length = 16 := (tabN_spec l hgl.le (inOrd l)).1
  have hSb : ∀ p ∈ S_1, p.2.length ≤ 1024 := fun p hp => Nat.le_trans (T14_Sb hgl p.2 (by rw [← hS__1]; exact List.mem_map_of_mem hp)) hn
  refine CW.loop (α := Nat × Nat × Value × List Nat) (fun (k, pos, ov, acc) => [(2, (Value.int .i64 ((bits : Nat) : Int))), (10, (Value.pointer (some ⟨rg_1, 0, none⟩))), (12, (Value.pointer (some ⟨tb_1, 0, none⟩))), (13, ov), (37, (Value.int .i64 ((count : Nat) : Int))), (38, (Value.int .i64 ((k : Nat) : Int)))]) (fun (k, pos, ov, acc) w' => Sat w [cObj rg_1 202 [rv_1, (Value.int .i64 ((bits : Nat) : Int)), (Value.int .i64 ((pos : Nat) : Int))], cL rv_1 5 (encN .u8) (b.take ((bits + 7) / 8)), tabC tb_1 206 ((T14 l).1) (S_1) ((T14 l).2.2), cRows 3 (encN .i64) (S_1), cL ov 3 (encN .i64) (acc)] w' ∧ (k ≤ count) ∧ (pos ≤ bits) ∧ (decF (T14 l).1 (T14 l).2.1 (T14 l).2.2 (b.take ((bits + 7) / 8)) bits (count - k) pos acc = decF (T14 l).1 (T14 l).2.1 (T14 l).2.2 (b.take ((bits + 7) / 8)) bits count 0 []) ∧ (acc.length = k)) (fun (k, pos, ov, acc) => count - k) (0, 0, (Value.slice none 0 0), []) ⟨rfl, rfl, rfl, rfl, rfl, rfl, trivial⟩ ⟨hs_4, Nat.zero_le _, Nat.zero_le _, rfl, rfl⟩ ?_
  rintro ⟨k, pos, ov, acc⟩ w_4 ⟨hs_5, hk, hpos, hE, hal⟩
  show CW _ _ _ _ [(2, (Value.int .i64 ((bits : Nat) : Int))), (10, (Value.pointer (some ⟨rg_1, 0, none⟩))), (12, (Value.pointer (some ⟨tb_1, 0, none⟩))), (13, ov), (37, (Value.int .i64 ((count : Nat) : Int))), (38, (Value.int .i64 ((k : Nat) : Int)))] _
  refine CW.seq ?_
  refine CW.region ?_
  refine RT.ev rfl rfl (Ev.lssN rfl rfl) ?_
  refine RT.nil ?_
  refine CW.seq ?_
  refine CW.condD rfl (fun hc_1 => ?_) (fun hc_1 => ?_)
  · refine CW.skip ?_
    refine CW.seq ?_
    refine CW.block ?_
    refine CW.seq ?_
    refine CW.region ?_
    refine RT.ev rfl rfl (Ev.move rfl) <| RT.ev rfl rfl (Ev.move rfl) ?_
    have hA_1 : Sat w ([cObj rg_1 202 [rv_1, (Value.int .i64 ((bits : Nat) : Int)), (Value.int .i64 ((pos : Nat) : Int))], cL rv_1 5 (encN .u8) (b.take ((bits + 7) / 8)), tabC tb_1 206 ((T14 l).1) (S_1) ((T14 l).2.2), cRows 3 (encN .i64) (S_1)] ++ ([cL ov 3 (encN .i64) (acc)] ++ [])) _ := (Sat.order [0, 1, 2, 3, 4] (by decide) hs_5.tail).cut 4
    refine RT.eff rfl rfl (OpE.call ent129 rfl ((symbol_ok _ _ _ _ _ _ (b.take ((bits + 7) / 8)) bits pos ((T14 l).2.2) ((T14 l).1) S_1 hA_1 (fun x hx => hb x (List.mem_of_mem_take hx)) (by rw [List.length_take]; omega) (by rw [List.length_take]; omega) (hpos) (hFl) (hSl) (T14_le hgl) (T14_Fb hgl) (hSb)).mono fun r_4 w_5 h_4 => ?_))
    obtain ⟨rfl, hp_4⟩ := h_4
    have hs_6 : Sat w [cObj rg_1 202 [rv_1, (Value.int .i64 ((bits : Nat) : Int)), (Value.int .i64 ((((symF ((T14 l).1) (S_1.map Prod.snd) ((T14 l).2.2) (b.take ((bits + 7) / 8)) bits 16 1 0 pos).2.2) : Nat) : Int))], cL rv_1 5 (encN .u8) (b.take ((bits + 7) / 8)), tabC tb_1 206 ((T14 l).1) (S_1) ((T14 l).2.2), cRows 3 (encN .i64) (S_1), cL ov 3 (encN .i64) (acc)] _ := (Sat.order [0, 1, 2, 3, 4] (by decide) hp_4.join).untail
    refine RT.ev rfl rfl (Ev.move rfl) <| RT.ev rfl rfl (Ev.extract rfl rfl) <| RT.ev rfl rfl (Ev.extract rfl rfl) <| RT.ev rfl rfl (Ev.assign rfl) <| RT.ev rfl rfl (Ev.assign rfl) ?_
    refine RT.nil ?_
    have hst := hE
    rw [show count - k = (count - (k + 1)) + 1 by omega, decF] at hst
    have hsp := symF_pos (T14 l).1 (T14 l).2.1 (T14 l).2.2 (b.take ((bits + 7) / 8)) bits 16 1 0 pos hpos
    have hs_7 : Sat w [cObj rg_1 202 [rv_1, (Value.int .i64 ((bits : Nat) : Int)), (Value.int .i64 ((((symF (T14 l).1 (T14 l).2.1 (T14 l).2.2 (b.take ((bits + 7) / 8)) bits 16 1 0 pos).2.2) : Nat) : Int))], cL rv_1 5 (encN .u8) (b.take ((bits + 7) / 8)), tabC tb_1 206 ((T14 l).1) (S_1) ((T14 l).2.2), cRows 3 (encN .i64) (S_1), cL ov 3 (encN .i64) (acc)] w_5 := by have hq := hs_6; rw [hS__1] at hq; exact hq
    refine CW.weaken [(2, _), (10, _), (12, _), (13, _), (14, (Value.int .i64 (((symF (T14 l).1 (T14 l).2.1 (T14 l).2.2 (b.take ((bits + 7) / 8)) bits 16 1 0 pos).1 : Nat) : Int))), (15, _), (37, _), (38, _), (39, _), (40, _), (41, _), (42, _), (43, _), (44, _), (45, _)] ⟨rfl, rfl, rfl, rfl, congrArg some (by rw [hS__1]; rfl), rfl, rfl, rfl, rfl, rfl, rfl, rfl, rfl, rfl, rfl, trivial⟩ ?_
    refine CW.weaken [(2, _), (10, _), (12, _), (13, _), (14, _), (15, (Value.int .i64 (((symF (T14 l).1 (T14 l).2.1 (T14 l).2.2 (b.take ((bits + 7) / 8)) bits 16 1 0 pos).2.1 : Nat) : Int))), (37, _), (38, _), (39, _), (40, _), (41, _), (42, _), (43, _), (44, _), (45, _)] ⟨rfl, rfl, rfl, rfl, rfl, congrArg some (by rw [hS__1]; rfl), rfl, rfl, rfl, rfl, rfl, rfl, rfl, rfl, rfl, trivial⟩ ?_
    refine CW.seq ?_
    refine CW.seq ?_
    refine CW.region ?_
    refine RT.ev rfl rfl (Ev.move rfl) <| RT.ev rfl rfl (Ev.neqN (b := 0) rfl rfl) ?_
    refine RT.nil ?_
    refine CW.condD rfl (fun hc_2 => ?_) (fun hc_2 => ?_)
    · refine CW.seq ?_
      refine CW.region ?_
      refine RT.ev rfl rfl (Ev.move rfl) <| RT.ev rfl rfl (Ev.assign rfl) <| RT.ev rfl rfl (Ev.assign rfl) ?_
      refine RT.nil ?_
      refine CW.ret ?_
      show PostK _ _ _ _ _ _
      refine post2 rfl rfl rfl ?_
      have hs_8 : Sat w [] w_5 := hs_7.sub ((.cons _ (.cons _ (.cons _ (.cons _ (.cons _ .slnil))))))
      rw [if_pos hc_2] at hst
      exact .inr ⟨by unfold hdec; rw [← hst], _, hc_2, rfl, hs_8⟩
    · refine CW.skip ?_
      refine CW.region ?_
      refine RT.ev rfl rfl (Ev.move rfl) <| RT.ev rfl rfl (Ev.move rfl) ?_
      refine RT.eff rfl rfl (OpE.lit1 (encN .i64) ((symF (T14 l).1 (T14 l).2.1 (T14 l).2.2 (b.take ((bits + 7) / 8)) bits 16 1 0 pos).1) sl22 rfl hs_7 rfl fun v_1 w_6 hs_9 hch_1 => ?_)
      have hs_9d : Sat w [cObj rg_1 202 [rv_1, (Value.int .i64 ((bits : Nat) : Int)), (Value.int .i64 ((((symF (T14 l).1 (T14 l).2.1 (T14 l).2.2 (b.take ((bits + 7) / 8)) bits 16 1 0 pos).2.2) : Nat) : Int))], cL rv_1 5 (encN .u8) (b.take ((bits + 7) / 8)), tabC tb_1 206 ((T14 l).1) (S_1) ((T14 l).2.2), cRows 3 (encN .i64) (S_1), cL ov 3 (encN .i64) (acc), cL v_1 3 (encN .i64) ([(symF (T14 l).1 (T14 l).2.1 (T14 l).2.2 (b.take ((bits + 7) / 8)) bits 16 1 0 pos).1])] _ := hs_9
      refine RT.eff rfl rfl (OpE.appendL 4 sl22 hs_9d rfl rfl rfl Try.underlying22 (hs_9d.rdL 5 rfl) (by simp; omega) (by simp; omega) fun v_2 w_7 hs_10 hch_2 => ?_)
      have hs_10d : Sat w [cObj rg_1 202 [rv_1, (Value.int .i64 ((bits : Nat) : Int)), (Value.int .i64 ((((symF (T14 l).1 (T14 l).2.1 (T14 l).2.2 (b.take ((bits + 7) / 8)) bits 16 1 0 pos).2.2) : Nat) : Int))], cL rv_1 5 (encN .u8) (b.take ((bits + 7) / 8)), tabC tb_1 206 ((T14 l).1) (S_1) ((T14 l).2.2), cRows 3 (encN .i64) (S_1), cL v_2 3 (encN .i64) (acc ++ [(symF (T14 l).1 (T14 l).2.1 (T14 l).2.2 (b.take ((bits + 7) / 8)) bits 16 1 0 pos).1])] _ := hs_10.drop 5
      refine RT.ev rfl rfl (Ev.assign rfl) ?_
      refine RT.nil ?_
      refine CW.region ?_
      refine RT.ev rfl rfl (Ev.addI (b := 1) rfl rfl (by omega)) <| RT.ev rfl rfl (Ev.move rfl) ?_
      refine RT.nil ?_
      exact ⟨(k + 1, (symF (T14 l).1 (T14 l).2.1 (T14 l).2.2 (b.take ((bits + 7) / 8)) bits 16 1 0 pos).2.2, v_2, acc ++ [(symF (T14 l).1 (T14 l).2.1 (T14 l).2.2 (b.take ((bits + 7) / 8)) bits 16 1 0 pos).1]), ⟨rfl, rfl, rfl, rfl, rfl, rfl, trivial⟩, ⟨hs_10d, by omega, hsp, by rw [if_neg hc_2] at hst; exact hst, by simp; omega⟩, (show (count - (k + 1)) < (count - k) from by omega)⟩
  · refine CW.exit0 ?_
    refine CW.seq ?_
    refine CW.seq ?_
    refine CW.region ?_
    refine RT.ev rfl rfl (Ev.move rfl) ?_
    refine RT.eff rfl rfl (OpE.call ent130 rfl ((rpos_ok _ (pos) _ (hs_5.cell (i := 0) (j := 2) rfl rfl)).mono fun r_5 w_8 h_5 => ?_))
    obtain ⟨rfl, hp_5⟩ := h_5
    have hs_11 : Sat w [cObj rg_1 202 [rv_1, (Value.int .i64 ((bits : Nat) : Int)), (Value.int .i64 ((pos : Nat) : Int))], cL rv_1 5 (encN .u8) (b.take ((bits + 7) / 8)), tabC tb_1 206 ((T14 l).1) (S_1) ((T14 l).2.2), cRows 3 (encN .i64) (S_1), cL ov 3 (encN .i64) (acc)] _ := hs_5.adds hp_5
    refine RT.ev rfl rfl (Ev.move rfl) <| RT.ev rfl rfl (Ev.neqN rfl rfl) ?_
    refine RT.nil ?_
    refine CW.condD rfl (fun hc_3 => ?_) (fun hc_3 => ?_)
    · refine CW.seq ?_
      refine CW.region ?_
      refine RT.ev rfl rfl (Ev.assign rfl) <| RT.ev rfl rfl (Ev.assign rfl) ?_
      refine RT.nil ?_
      refine CW.ret ?_
      show PostK _ _ _ _ _ _
      refine post2 rfl rfl rfl ?_
      rw [show count - k = 0 by omega, decF] at hE
      have hs_12 : Sat w [] w_8 := hs_11.sub ((.cons _ (.cons _ (.cons _ (.cons _ (.cons _ .slnil))))))
      exact .inr ⟨by unfold hdec; rw [← hE]; simp only; rw [if_neg (by omega)], 9, by decide, rfl, hs_12⟩
    · refine CW.skip ?_
      refine CW.seq ?_
      refine CW.region ?_
      refine RT.ev rfl rfl (Ev.move rfl) <| RT.ev rfl rfl (Ev.assign rfl) <| RT.ev rfl rfl (Ev.assign rfl) ?_
      refine RT.nil ?_
      refine CW.ret ?_
      show PostK _ _ _ _ _ _
      refine post2 rfl rfl rfl ?_
      rw [show count - k = 0 by omega, decF] at hE
      have hs_13 : Sat w [cL ov 3 (encN .i64) (acc)] w_8 := hs_11.sub ((.cons _ (.cons _ (.cons _ (.cons _ (.cons_cons _ .slnil))))))
      exact .inl ⟨acc, _, by unfold hdec; rw [← hE]; simp only; rw [if_pos (by omega)], rfl, hs_13⟩

end Go.Proofs.Ytfhbflhnelbkfaa
