/- The walks of the functions of F14l, printed by our own program (kwgen.py) out of our descriptions (base.py). -/
import Derived.Test.YtfhbflhnelbkfaaF14h
import Derived.Test.YtfhbflhnelbkfaaKn
import Derived.Test.YtfhbflhnelbkfaaM14k
import Derived.Test.YtfhbflhnelbkfaaTab
namespace Go.Proofs.Ytfhbflhnelbkfaa
open Go.RowKit Go.Kw
set_option maxRecDepth 100000
set_option linter.unusedVariables false
set_option linter.unusedSimpArgs false
set_option maxHeartbeats 2000000 in
theorem lengths_ok (v : Value) (c : List Nat) (w : World) (hv : RdL w v (encN .i64) c) (hn : c.length ≤ 1024) (hc : ∀ x ∈ c, x ≤ 4096) :
    CallsV Try.prog 100 [v, (Value.int .i64 ((15 : Nat) : Int))] w fun r w' => ∃ v', r = .tuple #[v', .int .i64 0] ∧ Sat w [cL v' 3 (encN .i64) (lensN c)] w' := by
  have hs0 := Sat.start w
  refine callsV_of Try.func100 rfl rfl ?_
  refine CW.seq ?_
  refine CW.region ?_
  refine RT.ev rfl rfl (Ev.assign rfl) <| RT.ev rfl rfl (Ev.assign rfl) ?_
  refine RT.nil ?_
  refine CW.seq ?_
  refine CW.seq ?_
  refine CW.region ?_
  refine RT.ev rfl rfl (Ev.move rfl) <| RT.ev rfl rfl (Ev.move rfl) ?_
  refine RT.eff rfl rfl (OpE.call ent134 rfl ((hcheck_ok _ (c) _ (hv.ext hs0.ext) (hn) (hc)).mono fun r_1 w_1 h_1 => ?_))
  obtain ⟨rfl, hp_1⟩ := h_1
  have hs_1 : Sat w [] _ := hs0.adds hp_1
  refine RT.ev rfl rfl (Ev.assign rfl) ?_
  refine RT.nil ?_
  refine CW.seq ?_
  refine CW.region ?_
  refine RT.ev rfl rfl (Ev.move rfl) <| RT.ev rfl rfl (Ev.neqN (a := 0) (b := 0) rfl rfl) ?_
  refine RT.nil ?_
  refine CW.condF rfl (rfl) ?_
  refine CW.skip ?_
  refine CW.seq ?_
  have hll0 := leaves_length c
  refine CW.region ?_
  refine RT.ev rfl rfl (Ev.move rfl) <| RT.ev rfl rfl (Ev.lenL Try.underlying22 rfl (hv.ext hs_1.ext)) ?_
  refine RT.eff rfl rfl (OpE.makeL (encN .i64) (0) sl22 rfl hs_1 rfl rfl (by omega) (by omega) (by omega) fun v_1 w_2 hs_2 hch_1 => ?_)
  have hs_2d : Sat w [cL v_1 3 (encN .i64) (List.replicate (c.length) 0)] _ := hs_2
  refine RT.ev rfl rfl (Ev.assign rfl) ?_
  refine RT.nil ?_
  refine CW.seq ?_
  refine CW.region ?_
  refine RT.ev rfl rfl (Ev.move rfl) ?_
  refine RT.eff rfl rfl (OpE.call ent135 rfl ((leavesOf_ok _ (c) _ (hv.ext hs_2d.ext) (hn) (hc)).mono fun r_2 w_3 h_2 => ?_))
  have hp_2 := h_2
  have hs_3 : Sat w [cL v_1 3 (encN .i64) (List.replicate (c.length) 0), cL r_2 164 (encIt) (leaves c)] _ := hs_2d.adds hp_2
  obtain ⟨sv_1, hsv_1, hsv_1n⟩ := (hs_3.rdL 1 rfl).sv
  subst hsv_1
  refine RT.ev rfl rfl (Ev.assign rfl) ?_
  refine RT.nil ?_
  refine CW.seq ?_
  refine CW.seq ?_
  refine CW.region ?_
  refine RT.ev rfl rfl (Ev.move rfl) <| RT.ev rfl rfl (Ev.lenL Try.underlying161 rfl (hs_3.rdL 1 rfl)) <| RT.ev rfl rfl (Ev.lssN (b := 2) rfl rfl) ?_
  refine RT.nil ?_
  refine CW.condD rfl (fun hc_1 => ?_) (fun hc_1 => ?_)
  · refine CW.seq ?_
    refine CW.seq ?_
    refine CW.region ?_
    refine RT.ev rfl rfl (Ev.move rfl) <| RT.ev rfl rfl (Ev.lenL Try.underlying161 rfl (hs_3.rdL 1 rfl)) <| RT.ev rfl rfl (Ev.move rfl) ?_
    refine RT.nil ?_
    refine CW.block ?_
    refine CW.loop (α := Nat × List Nat) (fun (q, cur) => [(7, v_1), (31, sv_1.val), (32, (Value.int .i64 (((leaves c).length : Nat) : Int))), (33, (Value.int .i64 ((q : Nat) : Int)))]) (fun (q, cur) w' => Sat w [cL v_1 3 (encN .i64) (cur), cL sv_1.val 164 (encIt) (leaves c)] w' ∧ (q ≤ (leaves c).length) ∧ (cur = ((leaves c).take q).foldl (fun ls x => ls.set x.sym.toNat 1) (List.replicate c.length 0)) ∧ (cur.length = c.length)) (fun (q, cur) => (leaves c).length - q) (0, List.replicate c.length 0) ⟨rfl, rfl, rfl, rfl, trivial⟩ ⟨hs_3, Nat.zero_le _, rfl, by simp⟩ ?_
    rintro ⟨q, cur⟩ w_4 ⟨hs_4, hq, hcur, hcl⟩
    show CW _ _ _ _ [(7, v_1), (31, sv_1.val), (32, (Value.int .i64 (((leaves c).length : Nat) : Int))), (33, (Value.int .i64 ((q : Nat) : Int)))] _
    refine CW.seq ?_
    refine CW.region ?_
    refine RT.ev rfl rfl (Ev.lssN rfl rfl) ?_
    refine RT.nil ?_
    refine CW.seq ?_
    refine CW.condD rfl (fun hc_2 => ?_) (fun hc_2 => ?_)
    · refine CW.skip ?_
      refine CW.seq ?_
      refine CW.block ?_
      refine CW.seq ?_
      obtain ⟨x, hx⟩ : ∃ x, (leaves c)[q]? = some x := ⟨_, List.getElem?_eq_getElem (hc_2)⟩
      obtain ⟨hxw, n, hxs, hxn⟩ := leaves_mem c x (mem_of_get hx)
      have hnl := lt_of_get hxn
      refine CW.region ?_
      refine RT.ev rfl rfl (Ev.idxL (E := encIt) sl161 rfl rfl (hs_4.rdL 1 rfl) (by omega)) <| RT.ev rfl rfl (Ev.ldAgg (E := encIt) agg164 rfl (hs_4.rdL 1 rfl) hx (by decide)) ?_
      refine RT.eff rfl rfl (OpE.alloc hs_4 zero164 fun b_1 w_5 hs_5 hch_2 hb_1 => ?_)
      have hs_5d : Sat w [cL v_1 3 (encN .i64) (cur), cL sv_1.val 164 (encIt) (leaves c), cObj b_1 164 [(Value.int .i64 ((0 : Nat) : Int)), (Value.int .i64 ((0 : Nat) : Int)), (Value.int .i64 ((0 : Nat) : Int)), (Value.int .i64 ((0 : Nat) : Int))]] _ := hs_5
      refine RT.eff rfl rfl (OpE.storeObjA (vs := (encIt).enc x) agg164 hs_5d (i := 2) rfl rfl rfl rfl ((encIt).one _) fun w_6 hs_6 hch_3 => ?_)
      have hs_6d : Sat w [cL v_1 3 (encN .i64) (cur), cL sv_1.val 164 (encIt) (leaves c), cObj b_1 164 [(Value.int .i64 ((x.w : Nat) : Int)), (Value.int .i64 (x.sym)), (Value.int .i64 ((x.lf : Nat) : Int)), (Value.int .i64 ((x.rt : Nat) : Int))]] _ := hs_6
      refine RT.nil ?_
      have hs_7 : Sat w [cL v_1 3 (encN .i64) (cur), cL sv_1.val 164 (encIt) (leaves c), cObj b_1 164 [(Value.int .i64 ((x.w : Nat) : Int)), (Value.int .i64 ((n : Nat) : Int)), (Value.int .i64 ((x.lf : Nat) : Int)), (Value.int .i64 ((x.rt : Nat) : Int))]] w_6 := by have hq := hs_6d; rw [hxs] at hq; exact hq
      refine CW.region ?_
      refine RT.ev rfl rfl (Ev.move rfl) <| RT.ev rfl rfl (Ev.fieldAddr fld164_1 rfl rfl) <| RT.ev rfl rfl (Ev.load scal3 rfl (hs_7.cell (i := 2) (j := 1) rfl rfl)) <| RT.ev rfl rfl (Ev.idxL (E := encN .i64) sl22 rfl rfl (hs_7.rdL 0 rfl) (by omega)) ?_
      refine RT.eff rfl rfl (OpE.setL (a := 1) 0 one3 hs_7 rfl rfl rfl rfl (by (try simp only [List.length_set]); omega) fun w_7 hs_8 hch_4 => ?_)
      have hs_8d : Sat w [cL v_1 3 (encN .i64) (cur.set n 1), cL sv_1.val 164 (encIt) (leaves c), cObj b_1 164 [(Value.int .i64 ((x.w : Nat) : Int)), (Value.int .i64 ((n : Nat) : Int)), (Value.int .i64 ((x.lf : Nat) : Int)), (Value.int .i64 ((x.rt : Nat) : Int))]] _ := hs_8
      refine RT.nil ?_
      refine CW.region ?_
      refine RT.ev rfl rfl (Ev.addI (b := 1) rfl rfl (by omega)) <| RT.ev rfl rfl (Ev.move rfl) ?_
      refine RT.nil ?_
      have hs_9 : Sat w [cL v_1 3 (encN .i64) (cur.set n 1), cL sv_1.val 164 (encIt) (leaves c)] w_7 := hs_8d.sub ((.cons_cons _ (.cons_cons _ (.cons _ .slnil))))
      exact ⟨(q + 1, cur.set n 1), ⟨rfl, rfl, rfl, rfl, trivial⟩, ⟨hs_9, by omega, by rw [take_succ_of hx, List.foldl_append, ← hcur]; simp [hxs], by simp only [List.length_set]; exact hcl⟩, (show ((leaves c).length - (q + 1)) < ((leaves c).length - q) from by omega)⟩
    · refine CW.exit0 ?_
      refine CW.seq ?_
      refine CW.region ?_
      refine RT.ev rfl rfl (Ev.move rfl) <| RT.ev rfl rfl (Ev.assign rfl) <| RT.ev rfl rfl (Ev.assign rfl) ?_
      refine RT.nil ?_
      refine CW.ret ?_
      show PostK _ _ _ _ _ _
      refine post2 rfl rfl rfl ?_
      have hs_10 : Sat w [cL v_1 3 (encN .i64) (cur)] w_4 := hs_4.sub ((.cons_cons _ (.cons _ .slnil)))
      have hs_11 : Sat w [cL v_1 3 (encN .i64) (lensN c)] w_4 := by
        have hq : cur = lensN c := by rw [hcur, show q = (leaves c).length by omega, List.take_length]; unfold lensN; rw [if_pos hc_1]
        rw [← hq]; exact hs_10
      exact ⟨_, rfl, hs_11⟩
  · refine CW.skip ?_
    refine CW.seq ?_
    refine CW.region ?_
    refine RT.ev rfl rfl (Ev.move rfl) ?_
    refine RT.eff rfl rfl (OpE.lit1 (encSl It) (sv_1, leaves c) sl165 rfl hs_3 rfl fun v_2 w_8 hs_12 hch_5 => ?_)
    have hs_12d : Sat w [cL v_1 3 (encN .i64) (List.replicate (c.length) 0), cL sv_1.val 164 (encIt) (leaves c), cL v_2 161 (encSl It) ([(sv_1, leaves c)])] _ := hs_12
    refine RT.ev rfl rfl (Ev.assign rfl) ?_
    refine RT.nil ?_
    refine CW.seq ?_
    refine CW.seq ?_
    refine CW.region ?_
    refine RT.ev rfl rfl (Ev.move rfl) <| RT.ev rfl rfl (Ev.subI (a := 15) (b := 1) rfl rfl (by omega) (by omega)) <| RT.ev rfl rfl (Ev.move rfl) ?_
    refine RT.nil ?_
    refine CW.block ?_
    have hs_13 : Sat w [cL v_1 3 (encN .i64) (List.replicate (c.length) 0), cL v_2 161 (encSl It) ([(sv_1, leaves c)]), cL sv_1.val 164 (encIt) (leaves c)] w_8 := ((Sat.order [0, 2, 1] (by decide) hs_12d.tail).untail).sub ((.cons_cons _ (.cons_cons _ (.cons_cons _ .slnil))))
    have hs_14 : Sat w [cL v_1 3 (encN .i64) (List.replicate (c.length) 0), cL v_2 161 (encSl It) ([(sv_1, leaves c)]), cRows 164 encIt ([]), cL sv_1.val 164 (encIt) (leaves c)] _ := Sat.order [0, 1, 3, 2] (by decide) (hs_13.newRows 164 encIt).tail |>.untail
    have hs_15 : Sat w [cL v_1 3 (encN .i64) (List.replicate (c.length) 0), cL v_2 161 (encSl It) ([(sv_1, leaves c)]), cRows 164 encIt ([] ++ [(sv_1, leaves c)])] w_8 := Sat.pushRows (A := [cL v_1 3 (encN .i64) (List.replicate (c.length) 0), cL v_2 161 (encSl It) ([(sv_1, leaves c)]), cRows 164 encIt ([])]) hs_14 2 rfl
    refine CW.loop (α := Nat × Value × List (SV × List It)) (fun (k, ov, ps) => [(7, v_1), (8, sv_1.val), (11, ov), (46, (Value.int .i64 ((14 : Nat) : Int))), (47, (Value.int .i64 ((k : Nat) : Int)))]) (fun (k, ov, ps) w' => Sat w [cL v_1 3 (encN .i64) (List.replicate (c.length) 0), cL ov 161 (encSl It) (ps), cRows 164 encIt (ps)] w' ∧ (k ≤ 14) ∧ (ps.map Prod.snd = lvls c (k + 1)) ∧ (ps[0]? = some (sv_1, leaves c))) (fun (k, ov, ps) => 14 - k) (0, v_2, [(sv_1, leaves c)]) ⟨rfl, rfl, rfl, rfl, rfl, trivial⟩ ⟨hs_15, Nat.zero_le _, rfl, rfl⟩ ?_
    rintro ⟨k, ov, ps⟩ w_9 ⟨hs_16, hk, hps, hp0⟩
    show CW _ _ _ _ [(7, v_1), (8, sv_1.val), (11, ov), (46, (Value.int .i64 ((14 : Nat) : Int))), (47, (Value.int .i64 ((k : Nat) : Int)))] _
    have hpl : ps.length = k + 1 := by have := congrArg List.length hps; simpa [lvls] using this
    refine CW.seq ?_
    refine CW.region ?_
    refine RT.ev rfl rfl (Ev.lssN (b := 14) rfl rfl) ?_
    refine RT.nil ?_
    refine CW.seq ?_
    refine CW.condD rfl (fun hc_3 => ?_) (fun hc_3 => ?_)
    · refine CW.skip ?_
      refine CW.seq ?_
      refine CW.block ?_
      obtain ⟨p, hp⟩ : ∃ p, (ps)[(ps.length - 1)]? = some p := ⟨_, List.getElem?_eq_getElem (by omega)⟩
      have hp2 : p.2 = lvl c k := by
        have h1 : (ps.map Prod.snd)[k]? = some p.2 := by rw [List.getElem?_map, show k = ps.length - 1 by omega, hp]; rfl
        rw [hps, lvls_get c (by omega : k < k + 1)] at h1; exact (Option.some.inj h1).symm
      have hW : 4096 * 2 ^ k ≤ 2 ^ 50 := by have : 2 ^ k ≤ 2 ^ 14 := Nat.pow_le_pow_right (by decide) (by omega); omega
      have hW1 : 4096 ≤ 4096 * 2 ^ k := Nat.le_mul_of_pos_right _ (Nat.two_pow_pos k)
      have hlv := lvl_length c k
      have hll := leaves_length c
      refine CW.region ?_
      refine RT.ev rfl rfl (Ev.move rfl) <| RT.ev rfl rfl (Ev.move rfl) <| RT.ev rfl rfl (Ev.move rfl) <| RT.ev rfl rfl (Ev.move rfl) <| RT.ev rfl rfl (Ev.lenL Try.underlying165 rfl (hs_16.rdL 1 rfl)) <| RT.ev rfl rfl (Ev.subI (b := 1) rfl rfl (by omega) (by omega)) <| RT.ev rfl rfl (Ev.idxL (E := encSl It) sl165 rfl rfl (hs_16.rdL 1 rfl) (by omega)) <| RT.ev rfl rfl (Ev.ldL (E := encSl It) scal161 rfl (hs_16.rdL 1 rfl) hp (by decide) rfl) ?_
      refine RT.eff rfl rfl (OpE.call ent136 rfl ((next_ok _ _ (leaves c) (p.2) (4096 * 2 ^ k) _ (show RdL _ sv_1.val encIt (leaves c) from hs_16.rdRows 2 rfl hp0) (hs_16.rdRows 2 rfl hp) (by omega) (by omega) (by rw [hp2]; omega) (fun x hx => Nat.le_trans (hc _ (leaves_mem c x hx).1) hW1) (fun x hx => by rw [hp2] at hx; exact lvl_w c 4096 hc k x hx) (hW)).mono fun r_3 w_10 h_3 => ?_))
      have hp_3 := h_3
      have hs_17 : Sat w [cL v_1 3 (encN .i64) (List.replicate (c.length) 0), cL ov 161 (encSl It) (ps), cRows 164 encIt (ps), cL r_3 164 (encIt) (nextL (leaves c) p.2)] _ := hs_16.adds hp_3
      obtain ⟨sv_2, hsv_2, hsv_2n⟩ := (hs_17.rdL 3 rfl).sv
      subst hsv_2
      refine RT.eff rfl rfl (OpE.lit1 (encSl It) (sv_2, nextL (leaves c) p.2) sl165 rfl hs_17 rfl fun v_3 w_11 hs_18 hch_6 => ?_)
      have hs_18d : Sat w [cL v_1 3 (encN .i64) (List.replicate (c.length) 0), cL ov 161 (encSl It) (ps), cRows 164 encIt (ps), cL sv_2.val 164 (encIt) (nextL (leaves c) p.2), cL v_3 161 (encSl It) ([(sv_2, nextL (leaves c) p.2)])] _ := hs_18
      refine RT.eff rfl rfl (OpE.appendL 1 sl165 hs_18d rfl rfl rfl Try.underlying165 (hs_18d.rdL 4 rfl) (by simp; omega) (by simp; omega) fun v_4 w_12 hs_19 hch_7 => ?_)
      have hs_19d : Sat w [cL v_1 3 (encN .i64) (List.replicate (c.length) 0), cL v_4 161 (encSl It) (ps ++ [(sv_2, nextL (leaves c) p.2)]), cRows 164 encIt (ps), cL sv_2.val 164 (encIt) (nextL (leaves c) p.2)] _ := hs_19.drop 4
      refine RT.ev rfl rfl (Ev.assign rfl) ?_
      refine RT.nil ?_
      refine CW.region ?_
      refine RT.ev rfl rfl (Ev.addI (b := 1) rfl rfl (by omega)) <| RT.ev rfl rfl (Ev.move rfl) ?_
      refine RT.nil ?_
      have hs_20 : Sat w [cL v_1 3 (encN .i64) (List.replicate (c.length) 0), cL v_4 161 (encSl It) (ps ++ [(sv_2, nextL (leaves c) p.2)]), cRows 164 encIt (ps ++ [(sv_2, nextL (leaves c) p.2)])] w_12 := Sat.pushRows (A := [cL v_1 3 (encN .i64) (List.replicate (c.length) 0), cL v_4 161 (encSl It) (ps ++ [(sv_2, nextL (leaves c) p.2)]), cRows 164 encIt (ps)]) hs_19d 2 rfl
      exact ⟨(k + 1, v_4, ps ++ [(sv_2, nextL (leaves c) p.2)]), ⟨rfl, rfl, rfl, rfl, rfl, trivial⟩, ⟨hs_20, by omega, by rw [List.map_append, hps, lvls_succ c (k + 1), hp2]; rfl, by rw [List.getElem?_append_left (by omega)]; exact hp0⟩, (show (14 - (k + 1)) < (14 - k) from by omega)⟩
    · refine CW.exit0 ?_
      refine CW.seq ?_
      have hk14 : k = 14 := by omega
      subst hk14
      have hpl : ps.length = 15 := by have := congrArg List.length hps; simpa [lvls] using this
      have hll := leaves_length c
      refine CW.region ?_
      refine RT.ev rfl rfl (Ev.move rfl) <| RT.ev rfl rfl (Ev.lenL Try.underlying161 rfl (show RdL _ sv_1.val encIt (leaves c) from hs_16.rdRows 2 rfl hp0)) <| RT.ev rfl rfl (Ev.mulI (a := 2) rfl rfl (by omega)) <| RT.ev rfl rfl (Ev.subI (b := 2) rfl rfl (by omega) (by omega)) <| RT.ev rfl rfl (Ev.assign rfl) ?_
      refine RT.nil ?_
      refine CW.seq ?_
      refine CW.seq ?_
      refine CW.region ?_
      refine RT.ev rfl rfl (Ev.move rfl) <| RT.ev rfl rfl (Ev.lenL Try.underlying165 rfl (hs_16.rdL 1 rfl)) <| RT.ev rfl rfl (Ev.subI (b := 1) rfl rfl (by omega) (by omega)) <| RT.ev rfl rfl (Ev.assign rfl) ?_
      refine RT.nil ?_
      refine CW.block ?_
      refine CW.loop (α := Nat × Nat × List Nat) (fun (kk, t, ls) => [(7, v_1), (11, ov), (12, (Value.int .i64 ((t : Nat) : Int))), (13, (Value.int .i64 ((((kk : Nat) : Int) - 1))))]) (fun (kk, t, ls) w' => Sat w [cL v_1 3 (encN .i64) (ls), cL ov 161 (encSl It) (ps), cRows 164 encIt (ps)] w' ∧ (kk ≤ 15) ∧ (t ≤ (lvl c (kk - 1)).length) ∧ (down c kk t ls = lensN c) ∧ (ls.length = c.length) ∧ (∀ x ∈ ls, x ≤ (15 - kk) * 4096)) (fun (kk, t, ls) => kk) (15, 2 * (leaves c).length - 2, List.replicate c.length 0) ⟨rfl, rfl, congrArg some (congrArg (Value.int .i64) (by omega)), congrArg some (congrArg (Value.int .i64) (by omega)), trivial⟩ ⟨hs_16, Nat.le_refl _, take_top c (by omega) (by omega), by unfold lensN; rw [if_neg hc_1], by simp, fun x hx => by have := List.eq_of_mem_replicate hx; omega⟩ ?_
      rintro ⟨kk, t, ls⟩ w_13 ⟨hs_21, hkk, ht, hdn, hls, hB⟩
      show CW _ _ _ _ [(7, v_1), (11, ov), (12, (Value.int .i64 ((t : Nat) : Int))), (13, (Value.int .i64 ((((kk : Nat) : Int) - 1))))] _
      refine CW.seq ?_
      refine CW.seq ?_
      refine CW.region ?_
      refine RT.ev rfl rfl (Ev.move rfl) <| RT.ev rfl rfl (Ev.geq rfl rfl) ?_
      refine RT.nil ?_
      refine CW.condD rfl (fun hc_4 => ?_) (fun hc_4 => ?_)
      · refine CW.skip ?_
        refine CW.seq ?_
        refine CW.block ?_
        refine CW.seq ?_
        obtain ⟨j, rfl⟩ : ∃ j, kk = j + 1 := ⟨kk - 1, by omega⟩
        refine CW.weaken [(7, _), (11, _), (12, _), (13, (Value.int .i64 ((j : Nat) : Int))), (68, _), (69, _)] ⟨rfl, rfl, rfl, congrArg some (congrArg (Value.int .i64) (by omega)), rfl, rfl, trivial⟩ ?_
        rw [Nat.add_sub_cancel] at ht
        obtain ⟨p, hp⟩ : ∃ p, ps[j]? = some p := ⟨_, List.getElem?_eq_getElem (by omega)⟩
        have hp2 : p.2 = lvl c j := by
          have h1 : (ps.map Prod.snd)[j]? = some p.2 := by rw [List.getElem?_map, hp]; rfl
          rw [hps, lvls_get c (by omega : j < 15)] at h1; exact (Option.some.inj h1).symm
        have htp : t ≤ p.2.length := by rw [hp2]; exact ht
        have hX : ((p.2).take t).drop 0 = (lvl c j).take t := by rw [hp2]; rfl
        have hlv := lvl_length c j
        have hll := leaves_length c
        have hXl : (((p.2).take t).drop 0).length = t := by simp; omega
        refine CW.region ?_
        refine RT.ev rfl rfl (Ev.assign rfl) ?_
        refine RT.nil ?_
        refine CW.seq ?_
        refine CW.seq ?_
        refine CW.region ?_
        refine RT.ev rfl rfl (Ev.move rfl) <| RT.ev rfl rfl (Ev.move rfl) <| RT.ev rfl rfl (Ev.idxL (E := encSl It) sl165 rfl rfl (hs_21.rdL 1 rfl) (by omega)) <| RT.ev rfl rfl (Ev.ldL (E := encSl It) scal161 rfl (hs_21.rdL 1 rfl) hp (by decide) rfl) <| RT.ev rfl rfl (Ev.move rfl) <| RT.ev rfl rfl (Ev.sliceL (E := encIt) (a := 0) (c := t) sl161 rfl (hs_21.rdRows 2 rfl hp) rfl ⟨_, rfl⟩ (by omega) (htp)) <| RT.ev rfl rfl (Ev.lenL Try.underlying161 rfl (((hs_21.rdRows 2 rfl hp)).sub (a := 0) (b := t) (by omega) (htp))) <| RT.ev rfl rfl (Ev.move rfl) ?_
        refine RT.nil ?_
        refine CW.block ?_
        refine CW.loop (α := Nat × Nat × List Nat) (fun (q, pk, cur) => [(7, v_1), (11, ov), (13, (Value.int .i64 ((j : Nat) : Int))), (14, (Value.int .i64 ((pk : Nat) : Int))), (77, (subSl (encIt).s p.1.val 0 t)), (78, (Value.int .i64 (((((p.2).take t).drop 0).length : Nat) : Int))), (79, (Value.int .i64 ((q : Nat) : Int)))]) (fun (q, pk, cur) w' => Sat w [cL v_1 3 (encN .i64) (cur), cL ov 161 (encSl It) (ps), cRows 164 encIt (ps)] w' ∧ (q ≤ (((p.2).take t).drop 0).length) ∧ (cur = bumps ls ((((p.2).take t).drop 0).take q)) ∧ (pk = npk ((((p.2).take t).drop 0).take q)) ∧ (cur.length = c.length) ∧ (∀ x ∈ cur, x ≤ (15 - (j + 1)) * 4096 + q) ∧ (pk ≤ q)) (fun (q, pk, cur) => (((p.2).take t).drop 0).length - q) (0, 0, ls) ⟨rfl, rfl, rfl, rfl, rfl, rfl, rfl, trivial⟩ ⟨hs_21, Nat.zero_le _, rfl, rfl, hls, fun x hx => by have := hB x hx; omega, Nat.le_refl _⟩ ?_
        rintro ⟨q, pk, cur⟩ w_14 ⟨hs_22, hq, hcur, hpk, hcl, hB2, hpq⟩
        show CW _ _ _ _ [(7, v_1), (11, ov), (13, (Value.int .i64 ((j : Nat) : Int))), (14, (Value.int .i64 ((pk : Nat) : Int))), (77, (subSl (encIt).s p.1.val 0 t)), (78, (Value.int .i64 (((((p.2).take t).drop 0).length : Nat) : Int))), (79, (Value.int .i64 ((q : Nat) : Int)))] _
        refine CW.seq ?_
        refine CW.region ?_
        refine RT.ev rfl rfl (Ev.lssN rfl rfl) ?_
        refine RT.nil ?_
        refine CW.seq ?_
        refine CW.condD rfl (fun hc_5 => ?_) (fun hc_5 => ?_)
        · refine CW.skip ?_
          refine CW.seq ?_
          refine CW.block ?_
          refine CW.seq ?_
          obtain ⟨x, hx⟩ : ∃ x, (((p.2).take t).drop 0)[q]? = some x := ⟨_, List.getElem?_eq_getElem (hc_5)⟩
          have hxm : x ∈ lvl c j := by have h := mem_of_get hx; rw [hX] at h; exact List.mem_of_mem_take h
          have hsym := lvl_sym c j x hxm
          have hql := hc_5
          refine CW.region ?_
          refine RT.ev rfl rfl (Ev.idxL (E := encIt) sl161 rfl rfl (((hs_22.rdRows 2 rfl hp)).sub (a := 0) (b := t) (by omega) (htp)) (by omega)) <| RT.ev rfl rfl (Ev.ldAgg (E := encIt) agg164 rfl (((hs_22.rdRows 2 rfl hp)).sub (a := 0) (b := t) (by omega) (htp)) hx (by decide)) ?_
          refine RT.eff rfl rfl (OpE.alloc hs_22 zero164 fun b_2 w_15 hs_23 hch_8 hb_2 => ?_)
          have hs_23d : Sat w [cL v_1 3 (encN .i64) (cur), cL ov 161 (encSl It) (ps), cRows 164 encIt (ps), cObj b_2 164 [(Value.int .i64 ((0 : Nat) : Int)), (Value.int .i64 ((0 : Nat) : Int)), (Value.int .i64 ((0 : Nat) : Int)), (Value.int .i64 ((0 : Nat) : Int))]] _ := hs_23
          refine RT.eff rfl rfl (OpE.storeObjA (vs := (encIt).enc x) agg164 hs_23d (i := 3) rfl rfl rfl rfl ((encIt).one _) fun w_16 hs_24 hch_9 => ?_)
          have hs_24d : Sat w [cL v_1 3 (encN .i64) (cur), cL ov 161 (encSl It) (ps), cRows 164 encIt (ps), cObj b_2 164 [(Value.int .i64 ((x.w : Nat) : Int)), (Value.int .i64 (x.sym)), (Value.int .i64 ((x.lf : Nat) : Int)), (Value.int .i64 ((x.rt : Nat) : Int))]] _ := hs_24
          refine RT.nil ?_
          refine CW.seq ?_
          refine CW.region ?_
          refine RT.ev rfl rfl (Ev.fieldAddr fld164_1 rfl rfl) <| RT.ev rfl rfl (Ev.load scal3 rfl (hs_24d.cell (i := 3) (j := 1) rfl rfl)) <| RT.ev rfl rfl (Ev.geq rfl rfl) ?_
          refine RT.nil ?_
          refine CW.condD rfl (fun hc_6 => ?_) (fun hc_6 => ?_)
          · obtain ⟨n, hxs, hnc⟩ : ∃ n : Nat, x.sym = ((n : Nat) : Int) ∧ n < c.length := by rcases hsym with h | ⟨n, h⟩; (omega); exact ⟨n, h⟩
            have hs_25 : Sat w [cL v_1 3 (encN .i64) (cur), cL ov 161 (encSl It) (ps), cRows 164 encIt (ps), cObj b_2 164 [(Value.int .i64 ((x.w : Nat) : Int)), (Value.int .i64 ((n : Nat) : Int)), (Value.int .i64 ((x.lf : Nat) : Int)), (Value.int .i64 ((x.rt : Nat) : Int))]] w_16 := by have hq := hs_24d; rw [hxs] at hq; exact hq
            obtain ⟨y, hy⟩ : ∃ y, cur[n]? = some y := ⟨_, List.getElem?_eq_getElem (by omega)⟩
            have hyB := hB2 y (mem_of_get hy)
            refine CW.region ?_
            refine RT.ev rfl rfl (Ev.move rfl) <| RT.ev rfl rfl (Ev.fieldAddr fld164_1 rfl rfl) <| RT.ev rfl rfl (Ev.load scal3 rfl (hs_25.cell (i := 3) (j := 1) rfl rfl)) <| RT.ev rfl rfl (Ev.idxL (E := encN .i64) sl22 rfl rfl (hs_25.rdL 0 rfl) (by omega)) <| RT.ev rfl rfl (Ev.ldL (E := encN .i64) scal3 rfl (hs_25.rdL 0 rfl) hy (by decide) rfl) <| RT.ev rfl rfl (Ev.addI (b := 1) rfl rfl (by omega)) <| RT.ev rfl rfl (Ev.idxL (E := encN .i64) sl22 rfl rfl (hs_25.rdL 0 rfl) (by omega)) ?_
            refine RT.eff rfl rfl (OpE.setL (a := (y + 1)) 0 one3 hs_25 rfl rfl rfl rfl (by (try simp only [List.length_set]); omega) fun w_17 hs_26 hch_10 => ?_)
            have hs_26d : Sat w [cL v_1 3 (encN .i64) (cur.set n (y + 1)), cL ov 161 (encSl It) (ps), cRows 164 encIt (ps), cObj b_2 164 [(Value.int .i64 ((x.w : Nat) : Int)), (Value.int .i64 ((n : Nat) : Int)), (Value.int .i64 ((x.lf : Nat) : Int)), (Value.int .i64 ((x.rt : Nat) : Int))]] _ := hs_26
            refine RT.nil ?_
            refine CW.region ?_
            refine RT.ev rfl rfl (Ev.addI (b := 1) rfl rfl (by omega)) <| RT.ev rfl rfl (Ev.move rfl) ?_
            refine RT.nil ?_
            have hs_27 : Sat w [cL v_1 3 (encN .i64) (cur.set n (y + 1)), cL ov 161 (encSl It) (ps), cRows 164 encIt (ps)] w_17 := hs_26d.sub ((.cons_cons _ (.cons_cons _ (.cons_cons _ (.cons _ .slnil)))))
            have hs_28 : Sat w [cL v_1 3 (encN .i64) (bumps ls ((((p.2).take t).drop 0).take (q + 1))), cL ov 161 (encSl It) (ps), cRows 164 encIt (ps)] w_17 := by
              have hq : cur.set n (y + 1) = bumps ls ((((p.2).take t).drop 0).take (q + 1)) := by rw [take_succ_of hx, bumps_snoc, ← hcur, bump, if_pos (by omega), show x.sym.toNat = n by omega, getD_some hy]
              rw [← hq]; exact hs_27
            exact ⟨(q + 1, pk, bumps ls ((((p.2).take t).drop 0).take (q + 1))), ⟨rfl, rfl, rfl, rfl, rfl, rfl, rfl, trivial⟩, ⟨hs_28, by omega, rfl, by rw [take_succ_of hx, npk_snoc, ← hpk]; simp [show ¬ x.sym < 0 by omega], by rw [bumps_length]; omega, by rw [take_succ_of hx, bumps_snoc, ← hcur]; exact bump_le hB2 x, by omega⟩, (show ((((p.2).take t).drop 0).length - (q + 1)) < ((((p.2).take t).drop 0).length - q) from by omega)⟩
          · refine CW.region ?_
            refine RT.ev rfl rfl (Ev.move rfl) <| RT.ev rfl rfl (Ev.addI (b := 1) rfl rfl (by omega)) <| RT.ev rfl rfl (Ev.assign rfl) ?_
            refine RT.nil ?_
            refine CW.region ?_
            refine RT.ev rfl rfl (Ev.addI (b := 1) rfl rfl (by omega)) <| RT.ev rfl rfl (Ev.move rfl) ?_
            refine RT.nil ?_
            have hs_29 : Sat w [cL v_1 3 (encN .i64) (cur), cL ov 161 (encSl It) (ps), cRows 164 encIt (ps)] w_16 := hs_24d.sub ((.cons_cons _ (.cons_cons _ (.cons_cons _ (.cons _ .slnil)))))
            have hs_30 : Sat w [cL v_1 3 (encN .i64) (bumps ls ((((p.2).take t).drop 0).take (q + 1))), cL ov 161 (encSl It) (ps), cRows 164 encIt (ps)] w_16 := by
              have hq : cur = bumps ls ((((p.2).take t).drop 0).take (q + 1)) := by rw [take_succ_of hx, bumps_snoc, ← hcur, bump, if_neg (by omega)]
              rw [← hq]; exact hs_29
            exact ⟨(q + 1, (pk + 1), bumps ls ((((p.2).take t).drop 0).take (q + 1))), ⟨rfl, rfl, rfl, rfl, rfl, rfl, rfl, trivial⟩, ⟨hs_30, by omega, rfl, by rw [take_succ_of hx, npk_snoc, ← hpk]; simp [show x.sym < 0 by omega], by rw [bumps_length]; omega, by rw [take_succ_of hx, bumps_snoc, ← hcur]; exact bump_le hB2 x, by omega⟩, (show ((((p.2).take t).drop 0).length - (q + 1)) < ((((p.2).take t).drop 0).length - q) from by omega)⟩
        · refine CW.exit0 ?_
          have hqt : q = t := by omega
          have hXq : (((p.2).take t).drop 0).take q = (lvl c j).take t := by rw [hqt, hX, List.take_of_length_le (by simp; omega)]
          rw [hXq] at hcur hpk
          have hnd : down c j (2 * pk) cur = lensN c := by rw [hpk, hcur, ← hdn, down]
          have hnt : 2 * pk ≤ (lvl c (j - 1)).length := by
            cases j with
            | zero => have h1 := npk_le (lvl c 0) t; have h2 : npk (lvl c 0) = 0 := npk_leaves c; omega
            | succ i => rw [Nat.add_sub_cancel, hpk]; exact take_down c i t
          have hnB : ∀ x ∈ cur, x ≤ (15 - j) * 4096 := fun x hx => by have := hB2 x hx; omega
          refine CW.region ?_
          refine RT.ev rfl rfl (Ev.move rfl) <| RT.ev rfl rfl (Ev.mulI (a := 2) rfl rfl (by omega)) <| RT.ev rfl rfl (Ev.assign rfl) ?_
          refine RT.nil ?_
          refine CW.region ?_
          refine RT.ev rfl rfl (Ev.move rfl) <| RT.ev rfl rfl (Ev.sub (b := (1 : Int)) rfl rfl (by unfold inI64; omega)) <| RT.ev rfl rfl (Ev.assign rfl) ?_
          refine RT.nil ?_
          exact ⟨(j, (2 * pk), cur), ⟨rfl, rfl, rfl, rfl, trivial⟩, ⟨hs_22, by omega, hnt, hnd, by omega, hnB⟩, (show ((j)) < (j + 1) from by omega)⟩
      · refine CW.exit0 ?_
        refine CW.seq ?_
        refine CW.region ?_
        refine RT.ev rfl rfl (Ev.move rfl) <| RT.ev rfl rfl (Ev.assign rfl) <| RT.ev rfl rfl (Ev.assign rfl) ?_
        refine RT.nil ?_
        refine CW.ret ?_
        show PostK _ _ _ _ _ _
        refine post2 rfl rfl rfl ?_
        have hs_31 : Sat w [cL v_1 3 (encN .i64) (ls)] w_13 := hs_21.sub ((.cons_cons _ (.cons _ (.cons _ .slnil))))
        have hk0 : kk = 0 := by omega
        subst hk0
        have hs_32 : Sat w [cL v_1 3 (encN .i64) (lensN c)] w_13 := by
          have hq : ls = lensN c := by rw [← hdn]; rfl
          rw [← hq]; exact hs_31
        exact ⟨_, rfl, hs_32⟩

end Go.Proofs.Ytfhbflhnelbkfaa
