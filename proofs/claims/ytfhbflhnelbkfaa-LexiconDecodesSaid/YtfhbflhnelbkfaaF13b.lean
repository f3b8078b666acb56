/- The walks of the functions of F13b, printed by our own program (kwgen.py) out of our descriptions (base.py). -/
import Derived.Test.YtfhbflhnelbkfaaF13
import Derived.Test.YtfhbflhnelbkfaaTab
namespace Go.Proofs.Ytfhbflhnelbkfaa
open Go.RowKit Go.Kw
set_option maxRecDepth 100000
set_option linter.unusedVariables false
set_option linter.unusedSimpArgs false
theorem fcmp_ok (bR : Nat) (vr : Value) (rs : List ByteArray) (x y : Nat) (w : World) (hc : w.cell? ⟨bR, 0, none⟩ = some vr) (hv : RdL w vr encTx rs) (hx : x < rs.length) (hy : y < rs.length) :
    CallsV Try.prog 116 [(Value.int .i64 ((x : Nat) : Int)), (Value.int .i64 ((y : Nat) : Int)), (Value.pointer (some ⟨bR, 0, none⟩))] w fun r w' => r = .int .i64 (Lib.compareBytes (rs.getD x ByteArray.empty).data.toList (rs.getD y ByteArray.empty).data.toList) ∧ Sat w [] w' ∧ w.drawn ≤ w'.drawn := by
  have hs0 := Sat.start w
  refine callsV_of Try.func116 rfl rfl ?_
  refine CW.seq ?_
  refine CW.region ?_
  refine RT.ev rfl rfl (Ev.assign rfl) ?_
  refine RT.nil ?_
  refine CW.seq ?_
  obtain ⟨a, ha⟩ : ∃ a, rs[x]? = some a := ⟨_, List.getElem?_eq_getElem hx⟩
  obtain ⟨b, hb⟩ : ∃ b, rs[y]? = some b := ⟨_, List.getElem?_eq_getElem hy⟩
  refine CW.draw (fun w' => Sat w [] w') (.free 0 (.free 1 (.free 2 (.free 3 (.free 4 (.free 5 (.free 6 (.free 7 (.one 8 (.free 9 .fin)))))))))) mixed (by kernel_rfl) ?_
  have hs_1 := hs0.drew
  refine RP.ev rfl rfl rfl (fun w' hS' => Ev.load scal45 rfl (hS'.ext _ _ hc)) hs_1 ?_
  refine RP.ev rfl rfl rfl (fun w' hS' => Ev.move rfl) hs_1 ?_
  refine RP.ev rfl rfl rfl (fun w' hS' => Ev.idxL (E := encTx) sl45 rfl rfl (hv.ext hS'.ext) (by omega)) hs_1 ?_
  refine RP.ev rfl rfl rfl (fun w' hS' => Ev.ldL (E := encTx) scal9 rfl (hv.ext hS'.ext) ha (by decide) rfl) hs_1 ?_
  refine RP.ev rfl rfl rfl (fun w' hS' => Ev.load scal45 rfl (hS'.ext _ _ hc)) hs_1 ?_
  refine RP.ev rfl rfl rfl (fun w' hS' => Ev.move rfl) hs_1 ?_
  refine RP.ev rfl rfl rfl (fun w' hS' => Ev.idxL (E := encTx) sl45 rfl rfl (hv.ext hS'.ext) (by omega)) hs_1 ?_
  refine RP.ev rfl rfl rfl (fun w' hS' => Ev.ldL (E := encTx) scal9 rfl (hv.ext hS'.ext) hb (by decide) rfl) hs_1 ?_
  refine RP.eff rfl rfl rfl (OpE.call ent117 rfl ((compare_ok a b _).mono fun r_1 w_1 h_1 => ?_))
  obtain ⟨rfl, rfl⟩ := h_1
  have hS_1 : Sat w [] _ := hs_1.sub (.slnil)
  refine ⟨hS_1, ?_⟩
  refine RP.ev rfl rfl rfl (fun w' hS' => Ev.assign rfl) hS_1 ?_
  refine RP.fin ?_
  refine CW.ret ?_
  show PostK _ _ _ _ _ _
  refine post1 rfl rfl ?_
  rw [getD_of ha, getD_of hb]
  exact ⟨rfl, hs_1, Nat.le_succ _⟩

theorem finish_ok (w0 w : World) (cs : List Chunk) (g : Nat) (vw vc : Value) (W : List ByteArray) (hs : Sat w0 ([cObj g 92 [vw, vc, .slice none 0 0], cL vw 9 encTx W] ++ cs) w) (hok : okW W) (hsz : ∀ x ∈ W, x.size ≤ 1000000) (hn : W.length ≤ 1000000) (hvc : vc.oneCell' = true) :
    CallsV Try.prog 71 [(Value.pointer (some ⟨g, 0, none⟩))] w fun r w' => r = .tuple #[] ∧ ∃ vo, Sat w0 ([cObj g 92 [vw, vc, vo], cL vw 9 encTx W, cL vo 3 (encN .i64) (ordN W)] ++ cs) w' := by
  refine callsV_of Try.func71 rfl rfl ?_
  refine CW.seq ?_
  refine CW.region ?_
  refine RT.ev rfl rfl (Ev.move rfl) ?_
  refine RT.ev rfl rfl (Ev.nilCheck rfl) ?_
  refine RT.ev rfl rfl (Ev.fieldAddr fld92_0 rfl rfl) ?_
  refine RT.ev rfl rfl (Ev.load scal45 rfl (hs.cell (i := 0) (j := 0) rfl rfl)) ?_
  refine RT.ev rfl rfl (Ev.lenL Try.underlying45 rfl (hs.rdL 1 rfl)) ?_
  refine RT.eff rfl rfl (OpE.makeL (encTx) (ByteArray.empty) sl45 rfl hs rfl rfl (by omega) (by omega) (by omega) fun v_1 w_1 hs_1 hch_1 => ?_)
  have hs_1d : Sat w0 ([cObj g 92 [vw, vc, (Value.slice none 0 0)], cL vw 9 (encTx) (W), cL v_1 9 (encTx) (List.replicate (W.length) ByteArray.empty)] ++ cs) _ := (hs_1).mid
  refine RT.eff rfl rfl (OpE.alloc hs_1d zero45 fun b_1 w_2 hs_2 hch_2 hb_1 => ?_)
  have hs_2d : Sat w0 ([cObj g 92 [vw, vc, (Value.slice none 0 0)], cL vw 9 (encTx) (W), cL v_1 9 (encTx) (List.replicate (W.length) ByteArray.empty), cObj b_1 45 [(Value.slice none 0 0)]] ++ cs) _ := (hs_2).mid
  refine RT.eff rfl rfl (OpE.storeObj one45 hs_2d (i := 3) rfl rfl rfl ((hs_2d.rdL 2 rfl).oneCell) rfl fun w_3 hs_3 hch_3 => ?_)
  have hs_3d : Sat w0 ([cObj g 92 [vw, vc, (Value.slice none 0 0)], cL vw 9 (encTx) (W), cL v_1 9 (encTx) (List.replicate (W.length) ByteArray.empty), cObj b_1 45 [v_1]] ++ cs) _ := hs_3
  refine RT.nil ?_
  refine CW.seq ?_
  refine CW.seq ?_
  refine CW.region ?_
  refine RT.ev rfl rfl (Ev.move rfl) ?_
  refine RT.ev rfl rfl (Ev.nilCheck rfl) ?_
  refine RT.ev rfl rfl (Ev.fieldAddr fld92_0 rfl rfl) ?_
  refine RT.ev rfl rfl (Ev.load scal45 rfl (hs_3d.cell (i := 0) (j := 0) rfl rfl)) ?_
  refine RT.ev rfl rfl (Ev.lenL Try.underlying45 rfl (hs_3d.rdL 1 rfl)) ?_
  refine RT.ev rfl rfl (Ev.move rfl) ?_
  refine RT.nil ?_
  refine CW.block ?_
  have hs_4 : Sat w0 ([cObj g 92 [vw, vc, (Value.slice none 0 0)], cL vw 9 (encTx) (W), cL v_1 9 (encTx) (List.replicate (W.length) ByteArray.empty), cObj b_1 45 [v_1], cL (Value.slice none 0 0) 3 (encN .i64) ([])] ++ cs) _ := (hs_3d.newNilL 3 (encN .i64)).mid
  have hs_5 : Sat w0 ([cObj g 92 [vw, vc, (Value.slice none 0 0)], cL vw 9 (encTx) (W), cL v_1 9 (encTx) ((List.range 0).map (rvN W) ++ List.replicate (W.length - 0) ByteArray.empty), cObj b_1 45 [v_1], cL (Value.slice none 0 0) 3 (encN .i64) ([])] ++ cs) w_3 := by
    have hq : List.replicate (W.length) ByteArray.empty = (List.range 0).map (rvN W) ++ List.replicate (W.length - 0) ByteArray.empty := by simp
    rw [← hq]; exact hs_4
  have hs_6 : Sat w0 ([cObj g 92 [vw, vc, (Value.slice none 0 0)], cL vw 9 (encTx) (W), cL v_1 9 (encTx) ((List.range 0).map (rvN W) ++ List.replicate (W.length - 0) ByteArray.empty), cObj b_1 45 [v_1], cL (Value.slice none 0 0) 3 (encN .i64) (List.range 0)] ++ cs) w_3 := by
    have hq : [] = List.range 0 := rfl
    rw [← hq]; exact hs_5
  refine CW.loop (α := Nat × Value) (fun (k, vo) => [(0, (Value.pointer (some ⟨g, 0, none⟩))), (2, (Value.pointer (some ⟨b_1, 0, none⟩))), (14, vw), (15, (Value.int .i64 ((W.length : Nat) : Int))), (16, (Value.int .i64 ((k : Nat) : Int)))]) (fun (k, vo) w' => Sat w0 ([cObj g 92 [vw, vc, vo], cL vw 9 (encTx) (W), cL v_1 9 (encTx) ((List.range k).map (rvN W) ++ List.replicate (W.length - k) ByteArray.empty), cObj b_1 45 [v_1], cL vo 3 (encN .i64) (List.range k)] ++ cs) w' ∧ (k ≤ W.length)) (fun (k, vo) => W.length - k) (0, (Value.slice none 0 0)) ⟨rfl, rfl, rfl, rfl, rfl, trivial⟩ ⟨hs_6, Nat.zero_le _⟩ ?_
  rintro ⟨k, vo⟩ w_4 ⟨hs_7, hk⟩
  show CW _ _ _ _ [(0, (Value.pointer (some ⟨g, 0, none⟩))), (2, (Value.pointer (some ⟨b_1, 0, none⟩))), (14, vw), (15, (Value.int .i64 ((W.length : Nat) : Int))), (16, (Value.int .i64 ((k : Nat) : Int)))] _
  refine CW.seq ?_
  refine CW.region ?_
  refine RT.ev rfl rfl (Ev.lssN rfl rfl) ?_
  refine RT.nil ?_
  refine CW.seq ?_
  refine CW.condD rfl (fun hc_1 => ?_) (fun hc_1 => ?_)
  · refine CW.skip ?_
    refine CW.seq ?_
    refine CW.block ?_
    refine CW.seq ?_
    obtain ⟨x, hx⟩ : ∃ x, (W)[k]? = some x := ⟨_, List.getElem?_eq_getElem hc_1⟩
    refine CW.region ?_
    refine RT.ev rfl rfl (Ev.move rfl) ?_
    refine RT.ev rfl rfl (Ev.idxL (E := encTx) sl45 rfl rfl (hs_7.rdL 1 rfl) (by omega)) ?_
    refine RT.ev rfl rfl (Ev.ldL (E := encTx) scal9 rfl (hs_7.rdL 1 rfl) hx (by decide) rfl) ?_
    refine RT.ev rfl rfl (Ev.assign rfl) ?_
    refine RT.ev rfl rfl (Ev.assign rfl) ?_
    refine RT.nil ?_
    refine CW.seq ?_
    have hxs := hsz x (mem_get hx)
    have hshp_1 := (hs_7.rdL (E := encTx) 2 rfl).shp (by decide)
    refine CW.draw (fun w' => Sat w0 ([cObj g 92 [vw, vc, vo], cL vw 9 (encTx) (W), cObj b_1 45 [v_1], cL vo 3 (encN .i64) (List.range k)] ++ cs) w') (.free 0 (.free 1 (.free 2 (.one 3 (.free 4 (.one 5 .fin)))))) mixed (by kernel_rfl) ?_
    have hs_8 := hs_7.drew
    have hS_1 : Sat w0 ([cObj g 92 [vw, vc, vo], cL vw 9 (encTx) (W), cObj b_1 45 [v_1], cL vo 3 (encN .i64) (List.range k)] ++ cs) _ := hs_8.sub ((.cons_cons _ (.cons_cons _ (.cons _ (.cons_cons _ (.cons_cons _ (.refl _)))))))
    refine RP.ev rfl rfl rfl (fun w' hS' => Ev.load scal45 rfl (hS'.cell (i := 2) (j := 0) rfl rfl)) hS_1 ?_
    refine RP.ev rfl rfl rfl (fun w' hS' => Ev.move rfl) hS_1 ?_
    refine RP.ev rfl rfl rfl (fun w' hS' => Ev.move rfl) hS_1 ?_
    refine RP.eff rfl rfl rfl (OpE.call ent46 rfl ((reverse_ok x _ (by omega)).mono fun r_1 w_5 h_1 => ?_))
    obtain ⟨rfl, hp_1⟩ := h_1
    have hs_9 : Sat w0 ([cObj g 92 [vw, vc, vo], cL vw 9 (encTx) (W), cL v_1 9 (encTx) ((List.range k).map (rvN W) ++ List.replicate (W.length - k) ByteArray.empty), cObj b_1 45 [v_1], cL vo 3 (encN .i64) (List.range k)] ++ cs) _ := (hs_8.adds hp_1).mid
    have hS_2 : Sat w0 ([cObj g 92 [vw, vc, vo], cL vw 9 (encTx) (W), cObj b_1 45 [v_1], cL vo 3 (encN .i64) (List.range k)] ++ cs) _ := hs_9.sub ((.cons_cons _ (.cons_cons _ (.cons _ (.cons_cons _ (.cons_cons _ (.refl _)))))))
    refine ⟨hS_2, ?_⟩
    refine RP.ev rfl rfl rfl (fun w' hS' => Ev.idxS sl45 rfl rfl hshp_1 (by simp; omega)) hS_2 ?_
    refine RP.eff rfl rfl rfl (OpE.setL (a := (revN x)) 2 one9 hs_9 rfl rfl rfl rfl (by simp; omega) fun w_6 hs_10 hch_4 => ?_)
    have hs_10d : Sat w0 ([cObj g 92 [vw, vc, vo], cL vw 9 (encTx) (W), cL v_1 9 (encTx) (((List.range k).map (rvN W) ++ List.replicate (W.length - k) ByteArray.empty).set k (revN x)), cObj b_1 45 [v_1], cL vo 3 (encN .i64) (List.range k)] ++ cs) _ := hs_10
    have hS_3 : Sat w0 ([cObj g 92 [vw, vc, vo], cL vw 9 (encTx) (W), cObj b_1 45 [v_1], cL vo 3 (encN .i64) (List.range k)] ++ cs) _ := hs_10d.sub ((.cons_cons _ (.cons_cons _ (.cons _ (.cons_cons _ (.cons_cons _ (.refl _)))))))
    refine ⟨hS_3, ?_⟩
    refine RP.fin ?_
    have hs_11 : Sat w0 ([cObj g 92 [vw, vc, vo], cL vw 9 (encTx) (W), cL v_1 9 (encTx) ((List.range (k + 1)).map (rvN W) ++ List.replicate (W.length - (k + 1)) ByteArray.empty), cObj b_1 45 [v_1], cL vo 3 (encN .i64) (List.range k)] ++ cs) w_6 := by
      have hq : ((List.range k).map (rvN W) ++ List.replicate (W.length - k) ByteArray.empty).set k (revN x) = (List.range (k + 1)).map (rvN W) ++ List.replicate (W.length - (k + 1)) ByteArray.empty := rvs_step hx
      rw [← hq]; exact hs_10d
    refine CW.region ?_
    refine RT.ev rfl rfl (Ev.move rfl) ?_
    refine RT.ev rfl rfl (Ev.move rfl) ?_
    refine RT.ev rfl rfl (Ev.nilCheck rfl) ?_
    refine RT.ev rfl rfl (Ev.fieldAddr fld92_2 rfl rfl) ?_
    refine RT.ev rfl rfl (Ev.load scal22 rfl (hs_11.cell (i := 0) (j := 2) rfl rfl)) ?_
    refine RT.ev rfl rfl (Ev.move rfl) ?_
    refine RT.eff rfl rfl (OpE.lit1 (encN .i64) k sl22 rfl hs_11 rfl fun v_2 w_7 hs_12 hch_5 => ?_)
    have hs_12d : Sat w0 ([cObj g 92 [vw, vc, vo], cL vw 9 (encTx) (W), cL v_1 9 (encTx) ((List.range (k + 1)).map (rvN W) ++ List.replicate (W.length - (k + 1)) ByteArray.empty), cObj b_1 45 [v_1], cL vo 3 (encN .i64) (List.range k), cL v_2 3 (encN .i64) ([k])] ++ cs) _ := (hs_12).mid
    refine RT.eff rfl rfl (OpE.appendL 4 sl22 hs_12d rfl rfl rfl Try.underlying22 (hs_12d.rdL 5 rfl) (by simp; omega) (by simp; omega) fun v_3 w_8 hs_13 hch_6 => ?_)
    have hs_13d : Sat w0 ([cObj g 92 [vw, vc, vo], cL vw 9 (encTx) (W), cL v_1 9 (encTx) ((List.range (k + 1)).map (rvN W) ++ List.replicate (W.length - (k + 1)) ByteArray.empty), cObj b_1 45 [v_1], cL v_3 3 (encN .i64) (List.range k ++ [k])] ++ cs) _ := hs_13.drop 5
    refine RT.ev rfl rfl (Ev.nilCheck rfl) ?_
    refine RT.ev rfl rfl (Ev.fieldAddr fld92_2 rfl rfl) ?_
    refine RT.eff rfl rfl (OpE.storeObj one22 hs_13d (i := 0) rfl rfl rfl ((hs_13d.rdL 4 rfl).oneCell) rfl fun w_9 hs_14 hch_7 => ?_)
    have hs_14d : Sat w0 ([cObj g 92 [vw, vc, v_3], cL vw 9 (encTx) (W), cL v_1 9 (encTx) ((List.range (k + 1)).map (rvN W) ++ List.replicate (W.length - (k + 1)) ByteArray.empty), cObj b_1 45 [v_1], cL v_3 3 (encN .i64) (List.range k ++ [k])] ++ cs) _ := hs_14
    refine RT.nil ?_
    refine CW.region ?_
    refine RT.ev rfl rfl (Ev.addI (b := 1) rfl rfl (by omega)) ?_
    refine RT.ev rfl rfl (Ev.move rfl) ?_
    refine RT.nil ?_
    have hs_15 : Sat w0 ([cObj g 92 [vw, vc, v_3], cL vw 9 (encTx) (W), cL v_1 9 (encTx) ((List.range (k + 1)).map (rvN W) ++ List.replicate (W.length - (k + 1)) ByteArray.empty), cObj b_1 45 [v_1], cL v_3 3 (encN .i64) (List.range (k + 1))] ++ cs) w_9 := hs_14d.reL 4 rfl (show List.range k ++ [k] = List.range (k + 1) from List.range_succ.symm)
    exact ⟨(k + 1, v_3), ⟨rfl, rfl, rfl, rfl, rfl, trivial⟩, ⟨hs_15, by omega⟩, (show (W.length - (k + 1)) < (W.length - k) from by omega)⟩
  · refine CW.exit0 ?_
    have hkW : k = W.length := by omega
    have hs_16 : Sat w0 ([cObj g 92 [vw, vc, vo], cL vw 9 (encTx) (W), cL v_1 9 (encTx) ((List.range W.length).map (rvN W)), cObj b_1 45 [v_1], cL vo 3 (encN .i64) (List.range k)] ++ cs) w_4 := hs_7.reL 2 rfl (show (List.range k).map (rvN W) ++ List.replicate (W.length - k) ByteArray.empty = (List.range W.length).map (rvN W) from by rw [hkW]; simp)
    have hs_17 : Sat w0 ([cObj g 92 [vw, vc, vo], cL vw 9 (encTx) (W), cL v_1 9 (encTx) ((List.range W.length).map (rvN W)), cObj b_1 45 [v_1], cL vo 3 (encN .i64) (List.range W.length)] ++ cs) w_4 := hs_16.reL 4 rfl (show List.range k = List.range W.length from by rw [hkW])
    refine CW.region ?_
    refine RT.ev rfl rfl (Ev.move rfl) ?_
    refine RT.ev rfl rfl (Ev.nilCheck rfl) ?_
    refine RT.ev rfl rfl (Ev.fieldAddr fld92_2 rfl rfl) ?_
    refine RT.ev rfl rfl (Ev.load scal22 rfl (hs_17.cell (i := 0) (j := 2) rfl rfl)) ?_
    refine RT.ev rfl rfl (Ev.makeFunc1 rfl) ?_
    have hcall := sortF_ok w0 _ _ 4 W.length _ (List.range W.length) 116 #[.pointer (some ⟨b_1, 0, none⟩)] (RLt W) hs_17 rfl (by simp; omega) (fun x hx => List.mem_range.1 hx) ent116 (fun x y => Lib.compareBytes (rvN W x).data.toList (rvN W y).data.toList) (fun x y => compare_lt _ _) (fun a => SLt.irr _) (fun h1 h2 => SLt.tr h1 h2) (fun h1 h2 => SLt.ntr h1 h2)
      (fun x y l2 W2 hx hy hl hS => by
      have hlen : ((List.range W.length).map (rvN W)).length = W.length := by simp
      have hc := fcmp_ok b_1 v_1 ((List.range W.length).map (rvN W)) x y W2 (hS.cell (i := 3) (j := 0) rfl rfl) (hS.rdL 2 rfl) (by omega) (by omega)
      rw [rvs_get hx, rvs_get hy] at hc
      exact hc)
    refine RT.eff rfl rfl (OpE.call ent115 rfl ((hcall).mono fun r_2 w_10 h_2 => ?_))
    obtain ⟨rfl, sl_1, hpm, hpw, h_2S⟩ := h_2
    have hlo : sl_1 = ordN W := ordN_unique hok hpm hpw
    subst hlo
    have h_2d : Sat w0 ([cObj g 92 [vw, vc, vo], cL vw 9 (encTx) (W), cL v_1 9 (encTx) ((List.range W.length).map (rvN W)), cObj b_1 45 [v_1], cL vo 3 (encN .i64) (ordN W)] ++ cs) _ := h_2S
    refine RT.nil ?_
    show PostK _ _ _ _ _ _
    refine post0 rfl ?_
    have hs_18 : Sat w0 ([cObj g 92 [vw, vc, vo], cL vw 9 (encTx) (W), cL vo 3 (encN .i64) (ordN W)] ++ cs) w_10 := h_2d.sub ((.cons_cons _ (.cons_cons _ (.cons _ (.cons _ (.cons_cons _ (.refl _)))))))
    exact ⟨rfl, _, hs_18⟩

theorem lbuild_ok (v : Value) (vs : List ByteArray) (w : World) (hv : RdL w v encTx vs) :
    CallsV Try.prog 32 [v] w fun r w' => (bldE vs ≠ 0 ∧ r = .tuple #[.pointer none, .slice none 0 0, .int .i64 ((bldE vs : Nat) : Int)] ∧ Sat w [] w') ∨ (bldE vs = 0 ∧ ∃ g vw vc vo vn, r = .tuple #[.pointer (some ⟨g, 0, none⟩), vn, .int .i64 0] ∧ Sat w [cObj g 92 [vw, vc, vo], cL vw 9 encTx (wordsN vs), cL vc 3 (encN .i64) (countsN vs), cL vo 3 (encN .i64) (ordN (wordsN vs)), cL vn 3 (encN .i64) (vs.map (lbW (wordsN vs)))] w') := by
  have hs0 := Sat.start w
  refine callsV_of Try.func32 rfl rfl ?_
  refine CW.seq ?_
  refine CW.region ?_
  refine RT.ev rfl rfl (Ev.assign rfl) ?_
  refine RT.ev rfl rfl (Ev.assign rfl) ?_
  refine RT.ev rfl rfl (Ev.assign rfl) ?_
  refine RT.nil ?_
  refine CW.seq ?_
  refine CW.seq ?_
  refine CW.region ?_
  refine RT.ev rfl rfl (Ev.move rfl) ?_
  refine RT.ev rfl rfl (Ev.lenL Try.underlying45 rfl (hv.ext hs0.ext)) ?_
  refine RT.ev rfl rfl (Ev.gtrN (b := 4096) rfl rfl) ?_
  refine RT.nil ?_
  refine CW.condD rfl (fun hc_1 => ?_) (fun hc_1 => ?_)
  · refine CW.seq ?_
    refine CW.region ?_
    refine RT.ev rfl rfl (Ev.assign rfl) ?_
    refine RT.ev rfl rfl (Ev.assign rfl) ?_
    refine RT.ev rfl rfl (Ev.assign rfl) ?_
    refine RT.nil ?_
    refine CW.ret ?_
    show PostK _ _ _ _ _ _
    refine post3 rfl rfl rfl rfl ?_
    have hs_1 : Sat w [] w := hs0.sub (.slnil)
    have hq : bldE vs = 2 := by
      unfold bldE
      rw [if_pos hc_1]
    rw [hq]
    exact .inl ⟨by decide, rfl, hs_1⟩
  · refine CW.skip ?_
    refine CW.seq ?_
    refine CW.region ?_
    refine RT.eff rfl rfl (OpE.makeMap hs0 fun mb_1 w_1 hs_2 => ?_)
    have hs_2d : Sat w [cMap mb_1 ([])] _ := hs_2
    refine RT.ev rfl rfl (Ev.assign rfl) ?_
    refine RT.nil ?_
    refine CW.seq ?_
    refine CW.seq ?_
    refine CW.region ?_
    refine RT.ev rfl rfl (Ev.move rfl) ?_
    refine RT.ev rfl rfl (Ev.lenL Try.underlying45 rfl (hv.ext hs_2d.ext)) ?_
    refine RT.ev rfl rfl (Ev.move rfl) ?_
    refine RT.nil ?_
    refine CW.block ?_
    refine CW.loop (α := Nat × MapL) (fun (k, m) => [(0, v), (5, (Value.map (some mb_1))), (19, v), (20, (Value.int .i64 ((vs.length : Nat) : Int))), (21, (Value.int .i64 ((k : Nat) : Int)))]) (fun (k, m) w' => Sat w [cMap mb_1 (m)] w' ∧ (k ≤ vs.length) ∧ (∀ t, t ∈ mkeys m ↔ t ∈ vs.take k) ∧ (∀ t, mget m t = cnt (vs.take k) t) ∧ (m.length ≤ k) ∧ (chkN vs = chkN (vs.drop k))) (fun (k, m) => vs.length - k) (0, []) ⟨rfl, rfl, rfl, rfl, rfl, trivial⟩ ⟨hs_2d, Nat.zero_le _, fun t => by simp [mkeys], fun t => by simp [mget, cnt], Nat.le_refl _, rfl⟩ ?_
    rintro ⟨k, m⟩ w_2 ⟨hs_3, hk, hkeys, hget, hml, hchk⟩
    show CW _ _ _ _ [(0, v), (5, (Value.map (some mb_1))), (19, v), (20, (Value.int .i64 ((vs.length : Nat) : Int))), (21, (Value.int .i64 ((k : Nat) : Int)))] _
    refine CW.seq ?_
    refine CW.region ?_
    refine RT.ev rfl rfl (Ev.lssN rfl rfl) ?_
    refine RT.nil ?_
    refine CW.seq ?_
    refine CW.condD rfl (fun hc_2 => ?_) (fun hc_2 => ?_)
    · refine CW.skip ?_
      refine CW.seq ?_
      refine CW.block ?_
      refine CW.seq ?_
      obtain ⟨x, hx⟩ : ∃ x, (vs)[k]? = some x := ⟨_, List.getElem?_eq_getElem hc_2⟩
      refine CW.region ?_
      refine RT.ev rfl rfl (Ev.idxL (E := encTx) sl45 rfl rfl (hv.ext hs_3.ext) (by omega)) ?_
      refine RT.ev rfl rfl (Ev.ldL (E := encTx) scal9 rfl (hv.ext hs_3.ext) hx (by decide) rfl) ?_
      refine RT.ev rfl rfl (Ev.assign rfl) ?_
      refine RT.nil ?_
      refine CW.seq ?_
      refine CW.block ?_
      refine CW.seq ?_
      refine CW.region ?_
      refine RT.ev rfl rfl (Ev.move rfl) ?_
      refine RT.ev rfl rfl (Ev.lenStr Try.underlying9 rfl) ?_
      refine RT.ev rfl rfl (Ev.gtrN (b := 120) rfl rfl) ?_
      refine RT.ev rfl rfl (Ev.assign rfl) ?_
      refine RT.nil ?_
      refine CW.condD rfl (fun hc_3 => ?_) (fun hc_3 => ?_)
      · refine CW.seq ?_
        refine CW.region ?_
        refine RT.ev rfl rfl (Ev.assign rfl) ?_
        refine RT.ev rfl rfl (Ev.assign rfl) ?_
        refine RT.ev rfl rfl (Ev.assign rfl) ?_
        refine RT.nil ?_
        refine CW.ret ?_
        show PostK _ _ _ _ _ _
        refine post3 rfl rfl rfl rfl ?_
        have hs_4 : Sat w [] w_2 := hs_3.sub ((.cons _ .slnil))
        have hq : bldE vs = 2 := by
          unfold bldE
          have h9 : chkN vs = 2 := by rw [hchk, drop_at hx, chkN, if_pos hc_3]
          rw [if_neg hc_1, h9]; rfl
        rw [hq]
        exact .inl ⟨by decide, rfl, hs_4⟩
      · refine CW.seq ?_
        refine CW.region ?_
        refine RT.ev rfl rfl (Ev.move rfl) ?_
        refine RT.eff rfl rfl (OpE.call ent69 rfl ((valid_ok x _ (by omega)).mono fun r_1 w_3 h_1 => ?_))
        obtain ⟨rfl, hp_1⟩ := h_1
        have hs_5 : Sat w [cMap mb_1 (m)] _ := hs_3.adds hp_1
        refine RT.ev rfl rfl (Ev.notB rfl) ?_
        refine RT.ev rfl rfl (Ev.assign rfl) ?_
        refine RT.nil ?_
        refine CW.cond rfl (fun hc_4 => ?_) (fun hc_4 => ?_)
        · refine CW.seq ?_
          refine CW.region ?_
          refine RT.ev rfl rfl (Ev.assign rfl) ?_
          refine RT.ev rfl rfl (Ev.assign rfl) ?_
          refine RT.ev rfl rfl (Ev.assign rfl) ?_
          refine RT.nil ?_
          refine CW.ret ?_
          show PostK _ _ _ _ _ _
          refine post3 rfl rfl rfl rfl ?_
          have hs_6 : Sat w [] w_3 := hs_5.sub ((.cons _ .slnil))
          have hq : bldE vs = 7 := by
            unfold bldE
            have h9 : chkN vs = 7 := by rw [hchk, drop_at hx, chkN, if_neg (by omega), if_pos (by simpa using hc_4)]
            rw [if_neg hc_1, h9]; rfl
          rw [hq]
          exact .inl ⟨by decide, rfl, hs_6⟩
        · refine CW.skip ?_
          refine CW.region ?_
          refine RT.ev rfl rfl (Ev.move rfl) ?_
          refine RT.ev rfl rfl (Ev.move rfl) ?_
          refine RT.ev rfl rfl (Ev.lookup (i := 0) Try.underlying89 Try.underlying9 Try.zeroValue3 hs_5 rfl rfl rfl) ?_
          refine RT.ev rfl rfl (Ev.addI (b := 1) rfl rfl (by have h1 := hget x; have h2 := cnt_le (vs.take k) x; have h3 := List.length_take_le k vs; omega)) ?_
          refine RT.eff rfl rfl (OpE.mapUpdate (i := 0) (c := ((mget (m) x) + 1)) Try.underlying89 Try.underlying9 hs_5 rfl rfl rfl rfl fun w_4 hs_7 => ?_)
          have hs_7d : Sat w [cMap mb_1 (mput (m) x ((mget (m) x) + 1))] _ := hs_7
          refine RT.nil ?_
          refine CW.region ?_
          refine RT.ev rfl rfl (Ev.addI (b := 1) rfl rfl (by omega)) ?_
          refine RT.ev rfl rfl (Ev.move rfl) ?_
          refine RT.nil ?_
          exact ⟨(k + 1, mput (m) x ((mget (m) x) + 1)), ⟨rfl, rfl, rfl, rfl, rfl, trivial⟩, ⟨hs_7d, by omega, fun t => by rw [mput_keys, hkeys, take_snoc hx, List.mem_append, List.mem_singleton]; exact Or.comm, fun t => by rw [mput_get, take_snoc hx, cnt_snoc, hget, hget]; by_cases e : t = x <;> simp [e, eq_comm]; (first | done | (intro h; exact absurd h.symm e) | skip), Nat.le_trans (mput_length _ _ _) (by omega), by rw [hchk, drop_at hx, chkN, if_neg (by omega), if_neg (by simpa using hc_4)]⟩, (show (vs.length - (k + 1)) < (vs.length - k) from by omega)⟩
    · refine CW.exit0 ?_
      refine CW.seq ?_
      refine CW.seq ?_
      have hkl : k = vs.length := by omega
      rw [hkl, List.take_length] at hkeys hget
      rw [hkl, List.drop_length] at hchk
      have hmn := hs_3.mapNodup 0 rfl
      have hmlen : m.length = (wordsN vs).length := by rw [← mkeys_length]; exact words_len hmn hkeys
      have hokw := chk_okW hchk
      have hws : ∀ x ∈ wordsN vs, x.size ≤ 120 := fun x hx => (chk_all hchk x (wordsN_mem.1 hx)).1
      have hwl := wordsN_length vs
      refine CW.region ?_
      refine RT.ev rfl rfl (Ev.move rfl) ?_
      refine RT.ev rfl rfl (Ev.lenMap (i := 0) Try.underlying89 hs_3 rfl rfl) ?_
      refine RT.ev rfl rfl (Ev.gtrN (b := 1024) rfl rfl) ?_
      refine RT.nil ?_
      refine CW.condD rfl (fun hc_5 => ?_) (fun hc_5 => ?_)
      · refine CW.seq ?_
        refine CW.region ?_
        refine RT.ev rfl rfl (Ev.assign rfl) ?_
        refine RT.ev rfl rfl (Ev.assign rfl) ?_
        refine RT.ev rfl rfl (Ev.assign rfl) ?_
        refine RT.nil ?_
        refine CW.ret ?_
        show PostK _ _ _ _ _ _
        refine post3 rfl rfl rfl rfl ?_
        have hs_8 : Sat w [] w_2 := hs_3.sub ((.cons _ .slnil))
        have hq : bldE vs = 2 := by
          unfold bldE
          have h9 : chkN vs = 0 := hchk
          rw [if_neg hc_1, if_neg (by rw [h9]; decide), if_pos (by omega)]
        rw [hq]
        exact .inl ⟨by decide, rfl, hs_8⟩
      · refine CW.skip ?_
        refine CW.seq ?_
        refine CW.region ?_
        refine RT.ev rfl rfl (Ev.build bt92 rfl trivial rfl) ?_
        refine RT.eff rfl rfl (OpE.box hs_3 rfl fun b_1 w_5 hs_9 hch_1 hb_1 => ?_)
        have hs_9d : Sat w [cMap mb_1 (m), cObj b_1 92 [(Value.slice none 0 0), (Value.slice none 0 0), (Value.slice none 0 0)]] _ := hs_9
        refine RT.ev rfl rfl (Ev.assign rfl) ?_
        refine RT.nil ?_
        refine CW.seq ?_
        refine CW.seq ?_
        refine CW.region ?_
        refine RT.ev rfl rfl (Ev.move rfl) ?_
        refine RT.eff rfl rfl (OpE.rangeMap (i := 0) Try.underlying89 hs_9d rfl rfl fun it_1 w_6 hs_10 => ?_)
        have hs_10d : Sat w [cRng mb_1 it_1 (m) ([]), cObj b_1 92 [(Value.slice none 0 0), (Value.slice none 0 0), (Value.slice none 0 0)]] _ := hs_10
        refine RT.nil ?_
        refine CW.block ?_
        have hs_11 : Sat w [cRng mb_1 it_1 (m) ([]), cObj b_1 92 [(Value.slice none 0 0), (Value.slice none 0 0), (Value.slice none 0 0)], cL (Value.slice none 0 0) 9 (encTx) ([])] _ := hs_10d.newNilL 9 (encTx)
        have hs_12 : Sat w [cRng mb_1 it_1 (m) ([]), cObj b_1 92 [(Value.slice none 0 0), (Value.slice none 0 0), (Value.slice none 0 0)], cL (Value.slice none 0 0) 9 (encTx) (mkeys [])] w_6 := hs_11.reL 2 rfl (show [] = mkeys [] from rfl)
        refine CW.loop (α := MapL × Value) (fun (done, vw) => [(0, v), (5, (Value.map (some mb_1))), (8, (Value.pointer (some ⟨b_1, 0, none⟩))), (44, (Value.pointer (some ⟨it_1, 0, none⟩)))]) (fun (done, vw) w' => Sat w [cRng mb_1 it_1 (m) (done), cObj b_1 92 [vw, (Value.slice none 0 0), (Value.slice none 0 0)], cL vw 9 (encTx) (mkeys done)] w') (fun (done, vw) => m.length - done.length) ([], (Value.slice none 0 0)) ⟨rfl, rfl, rfl, rfl, trivial⟩ hs_12 ?_
        rintro ⟨done, vw⟩ w_7 hs_13
        show CW _ _ _ _ [(0, v), (5, (Value.map (some mb_1))), (8, (Value.pointer (some ⟨b_1, 0, none⟩))), (44, (Value.pointer (some ⟨it_1, 0, none⟩)))] _
        refine CW.seq ?_
        refine CW.region ?_
        refine RT.eff rfl rfl (OpE.nextMap (i := 0) hs_13 rfl rfl ?_ ?_)
        · intro hnx_1
          refine RT.ev rfl rfl (Ev.extract rfl rfl) ?_
          refine RT.nil ?_
          refine CW.seq ?_
          refine CW.condF rfl (rfl) ?_
          refine CW.exit0 ?_
          refine CW.seq ?_
          have hdp : (mkeys done).Perm (mkeys m) := mkeys_perm hnx_1
          have hdl : (mkeys done).length = (wordsN vs).length := by rw [hdp.length_eq, mkeys_length, hmlen]
          have hsw : sortB (mkeys done) = wordsN vs := sortB_words (hdp.nodup_iff.2 hmn) (fun x => by rw [hdp.mem_iff]; exact hkeys x)
          have hs_15 : Sat w [cMap mb_1 (m), cObj b_1 92 [vw, (Value.slice none 0 0), (Value.slice none 0 0)], cL vw 9 (encTx) (mkeys done)] w_7 := hs_13.rngDone 0 rfl
          refine CW.region ?_
          refine RT.ev rfl rfl (Ev.move rfl) ?_
          refine RT.ev rfl rfl (Ev.nilCheck rfl) ?_
          refine RT.ev rfl rfl (Ev.fieldAddr fld92_0 rfl rfl) ?_
          refine RT.ev rfl rfl (Ev.load scal45 rfl (hs_15.cell (i := 1) (j := 0) rfl rfl)) ?_
          refine RT.eff rfl rfl (OpE.call ent70 rfl ((sortS_ok w _ _ 2 _ _ hs_15 rfl (by omega)).mono fun r_2 w_9 h_2 => ?_))
          obtain ⟨rfl, h_2S⟩ := h_2
          have h_2d : Sat w [cMap mb_1 (m), cObj b_1 92 [vw, (Value.slice none 0 0), (Value.slice none 0 0)], cL vw 9 (encTx) (sortB (mkeys done))] _ := h_2S
          refine RT.nil ?_
          refine CW.seq ?_
          refine CW.seq ?_
          have hs_16 : Sat w [cMap mb_1 (m), cObj b_1 92 [vw, (Value.slice none 0 0), (Value.slice none 0 0)], cL vw 9 (encTx) (wordsN vs)] w_9 := h_2d.reL 2 rfl (show sortB (mkeys done) = wordsN vs from hsw)
          refine CW.region ?_
          refine RT.ev rfl rfl (Ev.move rfl) ?_
          refine RT.ev rfl rfl (Ev.nilCheck rfl) ?_
          refine RT.ev rfl rfl (Ev.fieldAddr fld92_0 rfl rfl) ?_
          refine RT.ev rfl rfl (Ev.load scal45 rfl (hs_16.cell (i := 1) (j := 0) rfl rfl)) ?_
          refine RT.ev rfl rfl (Ev.lenL Try.underlying45 rfl (hs_16.rdL 2 rfl)) ?_
          refine RT.ev rfl rfl (Ev.move rfl) ?_
          refine RT.nil ?_
          refine CW.block ?_
          have hs_17 : Sat w [cMap mb_1 (m), cObj b_1 92 [vw, (Value.slice none 0 0), (Value.slice none 0 0)], cL vw 9 (encTx) (wordsN vs), cL (Value.slice none 0 0) 3 (encN .i64) ([])] _ := hs_16.newNilL 3 (encN .i64)
          have hs_18 : Sat w [cMap mb_1 (m), cObj b_1 92 [vw, (Value.slice none 0 0), (Value.slice none 0 0)], cL vw 9 (encTx) (wordsN vs), cL (Value.slice none 0 0) 3 (encN .i64) (((wordsN vs).take 0).map (cnt vs))] w_9 := hs_17.reL 3 rfl (show [] = ((wordsN vs).take 0).map (cnt vs) from rfl)
          refine CW.loop (α := Nat × Value) (fun (k, vc) => [(0, v), (5, (Value.map (some mb_1))), (8, (Value.pointer (some ⟨b_1, 0, none⟩))), (67, vw), (68, (Value.int .i64 (((wordsN vs).length : Nat) : Int))), (69, (Value.int .i64 ((k : Nat) : Int)))]) (fun (k, vc) w' => Sat w [cMap mb_1 (m), cObj b_1 92 [vw, vc, (Value.slice none 0 0)], cL vw 9 (encTx) (wordsN vs), cL vc 3 (encN .i64) (((wordsN vs).take k).map (cnt vs))] w' ∧ (k ≤ (wordsN vs).length)) (fun (k, vc) => (wordsN vs).length - k) (0, (Value.slice none 0 0)) ⟨rfl, rfl, rfl, rfl, rfl, rfl, trivial⟩ ⟨hs_18, Nat.zero_le _⟩ ?_
          rintro ⟨k, vc⟩ w_10 ⟨hs_19, hk⟩
          show CW _ _ _ _ [(0, v), (5, (Value.map (some mb_1))), (8, (Value.pointer (some ⟨b_1, 0, none⟩))), (67, vw), (68, (Value.int .i64 (((wordsN vs).length : Nat) : Int))), (69, (Value.int .i64 ((k : Nat) : Int)))] _
          refine CW.seq ?_
          refine CW.region ?_
          refine RT.ev rfl rfl (Ev.lssN rfl rfl) ?_
          refine RT.nil ?_
          refine CW.seq ?_
          refine CW.condD rfl (fun hc_6 => ?_) (fun hc_6 => ?_)
          · refine CW.skip ?_
            refine CW.seq ?_
            refine CW.block ?_
            refine CW.seq ?_
            obtain ⟨x, hx⟩ : ∃ x, (wordsN vs)[k]? = some x := ⟨_, List.getElem?_eq_getElem hc_6⟩
            refine CW.region ?_
            refine RT.ev rfl rfl (Ev.idxL (E := encTx) sl45 rfl rfl (hs_19.rdL 2 rfl) (by omega)) ?_
            refine RT.ev rfl rfl (Ev.ldL (E := encTx) scal9 rfl (hs_19.rdL 2 rfl) hx (by decide) rfl) ?_
            refine RT.ev rfl rfl (Ev.assign rfl) ?_
            refine RT.nil ?_
            have hshp_1 := (hs_19.rdL (E := encN .i64) 3 rfl).shp (by decide)
            refine CW.draw2 (fun w' => Sat w [cMap mb_1 (m), cObj b_1 92 [vw, vc, (Value.slice none 0 0)], cL vw 9 (encTx) (wordsN vs)] w') (fun w' => Sat w [cMap mb_1 (m), cL vw 9 (encTx) (wordsN vs)] w') 12 (.free 0 (.free 1 (.free 2 (.free 3 (.free 4 (.free 5 (.free 6 (.free 7 (.one 8 (.one 9 (.loose 10 (.free 11 (.bar 12 .fin))))))))))))) (fun w' h => h.sub ((.cons_cons _ (.cons _ (.cons_cons _ .slnil))))) mixed (by kernel_rfl) ?_
            have hs_20 := hs_19.drew
            have hS_1 : Sat w [cMap mb_1 (m), cObj b_1 92 [vw, vc, (Value.slice none 0 0)], cL vw 9 (encTx) (wordsN vs)] _ := hs_20.sub ((.cons_cons _ (.cons_cons _ (.cons_cons _ (.cons _ .slnil)))))
            refine RP.ev rfl rfl rfl (fun w' hS' => Ev.move rfl) hS_1 ?_
            refine RP.ev rfl rfl rfl (fun w' hS' => Ev.move rfl) hS_1 ?_
            refine RP.ev rfl rfl rfl (fun w' hS' => Ev.nilCheck rfl) hS_1 ?_
            refine RP.ev rfl rfl rfl (fun w' hS' => Ev.fieldAddr fld92_1 rfl rfl) hS_1 ?_
            refine RP.ev rfl rfl rfl (fun w' hS' => Ev.load scal22 rfl (hS'.cell (i := 1) (j := 1) rfl rfl)) hS_1 ?_
            refine RP.ev rfl rfl rfl (fun w' hS' => Ev.move rfl) hS_1 ?_
            refine RP.ev rfl rfl rfl (fun w' hS' => Ev.move rfl) hS_1 ?_
            refine RP.ev rfl rfl rfl (fun w' hS' => Ev.lookup (i := 0) Try.underlying89 Try.underlying9 Try.zeroValue3 hS' rfl rfl rfl) hS_1 ?_
            refine RP.eff rfl rfl rfl (OpE.lit1 (encN .i64) (mget (m) x) sl22 rfl hs_20 rfl fun v_1 w_11 hs_21 hch_2 => ?_)
            have hs_21d : Sat w [cMap mb_1 (m), cObj b_1 92 [vw, vc, (Value.slice none 0 0)], cL vw 9 (encTx) (wordsN vs), cL vc 3 (encN .i64) (((wordsN vs).take k).map (cnt vs)), cL v_1 3 (encN .i64) ([(mget (m) x)])] _ := hs_21
            have hS_2 : Sat w [cMap mb_1 (m), cObj b_1 92 [vw, vc, (Value.slice none 0 0)], cL vw 9 (encTx) (wordsN vs)] _ := hs_21d.sub ((.cons_cons _ (.cons_cons _ (.cons_cons _ (.cons _ (.cons _ .slnil))))))
            refine ⟨hS_2, ?_⟩
            refine RP.eff rfl rfl rfl (OpE.appendL 3 sl22 hs_21d rfl rfl rfl Try.underlying22 (hs_21d.rdL 4 rfl) (by simp only [List.length_append, List.length_singleton, List.length_map, List.length_take]; omega) (by simp only [List.length_append, List.length_singleton, List.length_map, List.length_take]; omega) fun v_2 w_12 hs_22 hch_3 => ?_)
            have hs_22d : Sat w [cMap mb_1 (m), cObj b_1 92 [vw, vc, (Value.slice none 0 0)], cL vw 9 (encTx) (wordsN vs), cL v_2 3 (encN .i64) (((wordsN vs).take k).map (cnt vs) ++ [(mget (m) x)])] _ := hs_22.drop 4
            have hS_3 : Sat w [cMap mb_1 (m), cObj b_1 92 [vw, vc, (Value.slice none 0 0)], cL vw 9 (encTx) (wordsN vs)] _ := hs_22d.sub ((.cons_cons _ (.cons_cons _ (.cons_cons _ (.cons _ .slnil)))))
            refine ⟨hS_3, ?_⟩
            refine RP.loose rfl rfl rfl (fun w' hS' => Ev.nilCheck rfl) hS_3 ?_
            refine RP.ev rfl rfl rfl (fun w' hS' => Ev.fieldAddr fld92_1 rfl rfl) hS_3 ?_
            refine RP.bar rfl rfl rfl (OpE.storeObj one22 hs_22d (i := 1) rfl rfl rfl ((hs_22d.rdL 3 rfl).oneCell) rfl fun w_13 hs_23 hch_4 => ?_)
            have hs_23d : Sat w [cMap mb_1 (m), cObj b_1 92 [vw, v_2, (Value.slice none 0 0)], cL vw 9 (encTx) (wordsN vs), cL v_2 3 (encN .i64) (((wordsN vs).take k).map (cnt vs) ++ [(mget (m) x)])] _ := hs_23
            have hS_4 : Sat w [cMap mb_1 (m), cL vw 9 (encTx) (wordsN vs)] _ := hs_23d.sub ((.cons_cons _ (.cons _ (.cons_cons _ (.cons _ .slnil)))))
            refine ⟨hS_4, ?_⟩
            refine RP.fin ?_
            refine CW.region ?_
            refine RT.ev rfl rfl (Ev.addI (b := 1) rfl rfl (by omega)) ?_
            refine RT.ev rfl rfl (Ev.move rfl) ?_
            refine RT.nil ?_
            have hs_24 : Sat w [cMap mb_1 (m), cObj b_1 92 [vw, v_2, (Value.slice none 0 0)], cL vw 9 (encTx) (wordsN vs), cL v_2 3 (encN .i64) (((wordsN vs).take (k + 1)).map (cnt vs))] w_13 := hs_23d.reL 3 rfl (show ((wordsN vs).take k).map (cnt vs) ++ [(mget (m) x)] = ((wordsN vs).take (k + 1)).map (cnt vs) from by rw [take_snoc hx, List.map_append]; simp [hget])
            exact ⟨(k + 1, v_2), ⟨rfl, rfl, rfl, rfl, rfl, rfl, trivial⟩, ⟨hs_24, by omega⟩, (show ((wordsN vs).length - (k + 1)) < ((wordsN vs).length - k) from by omega)⟩
          · refine CW.exit0 ?_
            refine CW.seq ?_
            have hs_25 : Sat w [cMap mb_1 (m), cObj b_1 92 [vw, vc, (Value.slice none 0 0)], cL vw 9 (encTx) (wordsN vs), cL vc 3 (encN .i64) (countsN vs)] w_10 := hs_19.reL 3 rfl (show ((wordsN vs).take k).map (cnt vs) = countsN vs from by rw [show k = (wordsN vs).length by omega, List.take_length]; rfl)
            refine CW.region ?_
            refine RT.ev rfl rfl (Ev.move rfl) ?_
            have hA_1 : Sat w ([cObj b_1 92 [vw, vc, (Value.slice none 0 0)], cL vw 9 (encTx) (wordsN vs)] ++ ([cMap mb_1 (m), cL vc 3 (encN .i64) (countsN vs)] ++ [])) _ := (Sat.order [1, 2, 0, 3] (by decide) hs_25.tail).cut 2
            refine RT.eff rfl rfl (OpE.call ent71 rfl ((finish_ok _ _ _ _ _ _ (wordsN vs) hA_1 (hokw) (fun x hx => Nat.le_trans (hws x hx) (by decide)) (by omega) ((hs_25.rdL 3 rfl).oneCell)).mono fun r_3 w_14 h_3 => ?_))
            obtain ⟨rfl, vo_1, hp_2⟩ := h_3
            have hs_26 : Sat w [cMap mb_1 (m), cObj b_1 92 [vw, vc, vo_1], cL vw 9 (encTx) (wordsN vs), cL vc 3 (encN .i64) (countsN vs), cL vo_1 3 (encN .i64) (ordN (wordsN vs))] _ := (Sat.order [3, 0, 1, 4, 2] (by decide) hp_2.join).untail
            refine RT.nil ?_
            refine CW.seq ?_
            refine CW.region ?_
            refine RT.ev rfl rfl (Ev.move rfl) ?_
            refine RT.ev rfl rfl (Ev.lenL Try.underlying45 rfl (hv.ext hs_26.ext)) ?_
            refine RT.eff rfl rfl (OpE.makeL (encN .i64) (0) sl22 rfl hs_26 rfl rfl (by omega) (by omega) (by omega) fun v_3 w_15 hs_27 hch_5 => ?_)
            have hs_27d : Sat w [cMap mb_1 (m), cObj b_1 92 [vw, vc, vo_1], cL vw 9 (encTx) (wordsN vs), cL vc 3 (encN .i64) (countsN vs), cL vo_1 3 (encN .i64) (ordN (wordsN vs)), cL v_3 3 (encN .i64) (List.replicate (vs.length) 0)] _ := hs_27
            refine RT.ev rfl rfl (Ev.assign rfl) ?_
            refine RT.nil ?_
            refine CW.seq ?_
            refine CW.seq ?_
            refine CW.region ?_
            refine RT.ev rfl rfl (Ev.move rfl) ?_
            refine RT.ev rfl rfl (Ev.lenL Try.underlying45 rfl (hv.ext hs_27d.ext)) ?_
            refine RT.ev rfl rfl (Ev.move rfl) ?_
            refine RT.nil ?_
            refine CW.block ?_
            have hs_28 : Sat w [cMap mb_1 (m), cObj b_1 92 [vw, vc, vo_1], cL vw 9 (encTx) (wordsN vs), cL vc 3 (encN .i64) (countsN vs), cL vo_1 3 (encN .i64) (ordN (wordsN vs)), cL v_3 3 (encN .i64) (((vs.take 0).map (lbW (wordsN vs)) ++ List.replicate (vs.length - 0) 0))] w_15 := hs_27d.reL 5 rfl (show List.replicate (vs.length) 0 = ((vs.take 0).map (lbW (wordsN vs)) ++ List.replicate (vs.length - 0) 0) from by simp)
            refine CW.loop (α := Nat) (fun k => [(8, (Value.pointer (some ⟨b_1, 0, none⟩))), (12, v_3), (91, v), (92, (Value.int .i64 ((vs.length : Nat) : Int))), (93, (Value.int .i64 ((k : Nat) : Int)))]) (fun k w' => Sat w [cMap mb_1 (m), cObj b_1 92 [vw, vc, vo_1], cL vw 9 (encTx) (wordsN vs), cL vc 3 (encN .i64) (countsN vs), cL vo_1 3 (encN .i64) (ordN (wordsN vs)), cL v_3 3 (encN .i64) (((vs.take k).map (lbW (wordsN vs)) ++ List.replicate (vs.length - k) 0))] w' ∧ (k ≤ vs.length)) (fun k => vs.length - k) 0 ⟨rfl, rfl, rfl, rfl, rfl, trivial⟩ ⟨hs_28, Nat.zero_le _⟩ ?_
            rintro k w_16 ⟨hs_29, hk⟩
            show CW _ _ _ _ [(8, (Value.pointer (some ⟨b_1, 0, none⟩))), (12, v_3), (91, v), (92, (Value.int .i64 ((vs.length : Nat) : Int))), (93, (Value.int .i64 ((k : Nat) : Int)))] _
            refine CW.seq ?_
            refine CW.region ?_
            refine RT.ev rfl rfl (Ev.lssN rfl rfl) ?_
            refine RT.nil ?_
            refine CW.seq ?_
            refine CW.condD rfl (fun hc_7 => ?_) (fun hc_7 => ?_)
            · refine CW.skip ?_
              refine CW.seq ?_
              refine CW.block ?_
              refine CW.seq ?_
              obtain ⟨x, hx⟩ : ∃ x, (vs)[k]? = some x := ⟨_, List.getElem?_eq_getElem hc_7⟩
              refine CW.region ?_
              refine RT.ev rfl rfl (Ev.move rfl) ?_
              refine RT.ev rfl rfl (Ev.idxL (E := encTx) sl45 rfl rfl (hv.ext hs_29.ext) (by omega)) ?_
              refine RT.ev rfl rfl (Ev.ldL (E := encTx) scal9 rfl (hv.ext hs_29.ext) hx (by decide) rfl) ?_
              refine RT.ev rfl rfl (Ev.assign rfl) ?_
              refine RT.ev rfl rfl (Ev.assign rfl) ?_
              refine RT.nil ?_
              refine CW.region ?_
              refine RT.ev rfl rfl (Ev.move rfl) ?_
              refine RT.ev rfl rfl (Ev.move rfl) ?_
              refine RT.ev rfl rfl (Ev.move rfl) ?_
              refine RT.ev rfl rfl (Ev.move rfl) ?_
              refine RT.eff rfl rfl (OpE.call ent37 rfl ((number_ok _ _ _ _ _ _ _ x _ (hs_29.lexAt 1 2 3 4 rfl rfl rfl rfl) (hokw.1) (by omega)).mono fun r_4 w_17 h_4 => ?_))
              obtain ⟨rfl, hp_3⟩ := h_4
              have hs_30 : Sat w [cMap mb_1 (m), cObj b_1 92 [vw, vc, vo_1], cL vw 9 (encTx) (wordsN vs), cL vc 3 (encN .i64) (countsN vs), cL vo_1 3 (encN .i64) (ordN (wordsN vs)), cL v_3 3 (encN .i64) (((vs.take k).map (lbW (wordsN vs)) ++ List.replicate (vs.length - k) 0))] _ := hs_29.adds hp_3
              refine RT.ev rfl rfl (Ev.move rfl) ?_
              refine RT.ev rfl rfl (Ev.extract rfl rfl) ?_
              refine RT.ev rfl rfl (Ev.extract rfl rfl) ?_
              refine RT.ev rfl rfl (Ev.idxL (E := encN .i64) sl22 rfl rfl (hs_30.rdL 5 rfl) (by simp; omega)) ?_
              refine RT.eff rfl rfl (OpE.setL (a := (numN (wordsN vs) x).1) 5 one3 hs_30 rfl rfl rfl rfl (by simp; omega) fun w_18 hs_31 hch_6 => ?_)
              have hs_31d : Sat w [cMap mb_1 (m), cObj b_1 92 [vw, vc, vo_1], cL vw 9 (encTx) (wordsN vs), cL vc 3 (encN .i64) (countsN vs), cL vo_1 3 (encN .i64) (ordN (wordsN vs)), cL v_3 3 (encN .i64) (((vs.take k).map (lbW (wordsN vs)) ++ List.replicate (vs.length - k) 0).set k ((numN (wordsN vs) x).1))] _ := hs_31
              refine RT.nil ?_
              refine CW.region ?_
              refine RT.ev rfl rfl (Ev.addI (b := 1) rfl rfl (by omega)) ?_
              refine RT.ev rfl rfl (Ev.move rfl) ?_
              refine RT.nil ?_
              have hs_32 : Sat w [cMap mb_1 (m), cObj b_1 92 [vw, vc, vo_1], cL vw 9 (encTx) (wordsN vs), cL vc 3 (encN .i64) (countsN vs), cL vo_1 3 (encN .i64) (ordN (wordsN vs)), cL v_3 3 (encN .i64) (((vs.take (k + 1)).map (lbW (wordsN vs)) ++ List.replicate (vs.length - (k + 1)) 0))] w_18 := hs_31d.reL 5 rfl (show ((vs.take k).map (lbW (wordsN vs)) ++ List.replicate (vs.length - k) 0).set k ((numN (wordsN vs) x).1) = ((vs.take (k + 1)).map (lbW (wordsN vs)) ++ List.replicate (vs.length - (k + 1)) 0) from nums_step hx (by rw [numN_mem hokw.1 (wordsN_mem.2 (mem_get hx))]))
              exact ⟨k + 1, ⟨rfl, rfl, rfl, rfl, rfl, trivial⟩, ⟨hs_32, by omega⟩, (show (vs.length - (k + 1)) < (vs.length - k) from by omega)⟩
            · refine CW.exit0 ?_
              refine CW.seq ?_
              refine CW.region ?_
              refine RT.ev rfl rfl (Ev.move rfl) ?_
              refine RT.ev rfl rfl (Ev.move rfl) ?_
              refine RT.ev rfl rfl (Ev.assign rfl) ?_
              refine RT.ev rfl rfl (Ev.assign rfl) ?_
              refine RT.ev rfl rfl (Ev.assign rfl) ?_
              refine RT.nil ?_
              refine CW.ret ?_
              show PostK _ _ _ _ _ _
              refine post3 rfl rfl rfl rfl ?_
              have hs_33 : Sat w [cMap mb_1 (m), cObj b_1 92 [vw, vc, vo_1], cL vw 9 (encTx) (wordsN vs), cL vc 3 (encN .i64) (countsN vs), cL vo_1 3 (encN .i64) (ordN (wordsN vs)), cL v_3 3 (encN .i64) (vs.map (lbW (wordsN vs)))] w_16 := hs_29.reL 5 rfl (show ((vs.take k).map (lbW (wordsN vs)) ++ List.replicate (vs.length - k) 0) = vs.map (lbW (wordsN vs)) from by rw [show k = vs.length by omega, List.take_length, Nat.sub_self]; simp)
              have hs_34 : Sat w [cObj b_1 92 [vw, vc, vo_1], cL vw 9 (encTx) (wordsN vs), cL vc 3 (encN .i64) (countsN vs), cL vo_1 3 (encN .i64) (ordN (wordsN vs)), cL v_3 3 (encN .i64) (vs.map (lbW (wordsN vs)))] w_16 := hs_33.sub ((.cons _ (.cons_cons _ (.cons_cons _ (.cons_cons _ (.cons_cons _ (.cons_cons _ .slnil)))))))
              have hq : bldE vs = 0 := by
                unfold bldE
                have h9 : chkN vs = 0 := hchk
                rw [if_neg hc_1, if_neg (by rw [h9]; decide), if_neg (by omega)]
              exact .inr ⟨hq, _, _, _, _, _, rfl, hs_34⟩
        · intro mk_1 mv_1 w_8 hnx_1 hs_14
          have hs_14d : Sat w [cRng mb_1 it_1 (m) (done ++ [(mk_1, mv_1)]), cObj b_1 92 [vw, (Value.slice none 0 0), (Value.slice none 0 0)], cL vw 9 (encTx) (mkeys done)] _ := hs_14
          refine RT.ev rfl rfl (Ev.extract rfl rfl) ?_
          refine RT.nil ?_
          refine CW.seq ?_
          refine CW.condT rfl (rfl) ?_
          refine CW.skip ?_
          refine CW.block ?_
          refine CW.seq ?_
          have hrl := hs_14d.rng_le 0 rfl
          refine CW.region ?_
          refine RT.ev rfl rfl (Ev.entry (i := 0) (done := done) (s := mk_1) (c := mv_1) hs_14d rfl rfl) ?_
          refine RT.ev rfl rfl (Ev.extract rfl rfl) ?_
          refine RT.ev rfl rfl (Ev.assign rfl) ?_
          refine RT.nil ?_
          refine CW.region ?_
          refine RT.ev rfl rfl (Ev.move rfl) ?_
          refine RT.ev rfl rfl (Ev.move rfl) ?_
          refine RT.ev rfl rfl (Ev.nilCheck rfl) ?_
          refine RT.ev rfl rfl (Ev.fieldAddr fld92_0 rfl rfl) ?_
          refine RT.ev rfl rfl (Ev.load scal45 rfl (hs_14d.cell (i := 1) (j := 0) rfl rfl)) ?_
          refine RT.ev rfl rfl (Ev.move rfl) ?_
          refine RT.eff rfl rfl (OpE.lit1 (encTx) mk_1 sl45 rfl hs_14d rfl fun v_4 w_19 hs_35 hch_7 => ?_)
          have hs_35d : Sat w [cRng mb_1 it_1 (m) (done ++ [(mk_1, mv_1)]), cObj b_1 92 [vw, (Value.slice none 0 0), (Value.slice none 0 0)], cL vw 9 (encTx) (mkeys done), cL v_4 9 (encTx) ([mk_1])] _ := hs_35
          refine RT.eff rfl rfl (OpE.appendL 2 sl45 hs_35d rfl rfl rfl Try.underlying45 (hs_35d.rdL 3 rfl) (by simp only [List.length_append, List.length_singleton, mkeys_length] at *; omega) (by simp only [List.length_append, List.length_singleton, mkeys_length] at *; omega) fun v_5 w_20 hs_36 hch_8 => ?_)
          have hs_36d : Sat w [cRng mb_1 it_1 (m) (done ++ [(mk_1, mv_1)]), cObj b_1 92 [vw, (Value.slice none 0 0), (Value.slice none 0 0)], cL v_5 9 (encTx) (mkeys done ++ [mk_1])] _ := hs_36.drop 3
          refine RT.ev rfl rfl (Ev.nilCheck rfl) ?_
          refine RT.ev rfl rfl (Ev.fieldAddr fld92_0 rfl rfl) ?_
          refine RT.eff rfl rfl (OpE.storeObj one45 hs_36d (i := 1) rfl rfl rfl ((hs_36d.rdL 2 rfl).oneCell) rfl fun w_21 hs_37 hch_9 => ?_)
          have hs_37d : Sat w [cRng mb_1 it_1 (m) (done ++ [(mk_1, mv_1)]), cObj b_1 92 [v_5, (Value.slice none 0 0), (Value.slice none 0 0)], cL v_5 9 (encTx) (mkeys done ++ [mk_1])] _ := hs_37
          refine RT.nil ?_
          have hs_38 : Sat w [cRng mb_1 it_1 (m) (done ++ [(mk_1, mv_1)]), cObj b_1 92 [v_5, (Value.slice none 0 0), (Value.slice none 0 0)], cL v_5 9 (encTx) (mkeys (done ++ [(mk_1, mv_1)]))] w_21 := hs_37d.reL 2 rfl (show mkeys done ++ [mk_1] = mkeys (done ++ [(mk_1, mv_1)]) from (mkeys_snoc _ _ _).symm)
          exact ⟨(done ++ [(mk_1, mv_1)], v_5), ⟨rfl, rfl, rfl, rfl, trivial⟩, hs_38, (show (m.length - (done ++ [(mk_1, mv_1)]).length) < (m.length - done.length) from by rw [List.length_append, List.length_singleton] at hrl ⊢; omega)⟩

end Go.Proofs.Ytfhbflhnelbkfaa
