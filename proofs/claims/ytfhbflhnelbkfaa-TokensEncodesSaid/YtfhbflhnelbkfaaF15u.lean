/- The walks of the functions of F15u, printed by our own program (kwgen.py) out of our descriptions (base.py). -/
import Derived.Test.YtfhbflhnelbkfaaM15v
import Derived.Test.YtfhbflhnelbkfaaF02r
import Derived.Test.YtfhbflhnelbkfaaTab
namespace Go.Proofs.Ytfhbflhnelbkfaa
open Go.RowKit Go.Kw
set_option maxRecDepth 100000
set_option linter.unusedVariables false
set_option linter.unusedSimpArgs false
theorem lowest_ok (v : Value) (l : List Nat) (n m : Nat) (w : World) (hv : RdL w v (encN .u8) l) (hb : ∀ x ∈ l, x < 256) (hn : n ≤ 128) (hm : m ≤ 31) (hl : l.length = (n * m + 7) / 8) :
    CallsV Try.prog 125 [v, (Value.int .i64 ((n : Nat) : Int)), (Value.int .i64 ((m : Nat) : Int))] w fun r w' => Sat w [cL r 3 (encN .i64) (lowsN l n m)] w' := by
  have hs0 := Sat.start w
  refine callsV_of Try.func125 rfl rfl ?_
  refine CW.seq ?_
  have hnm : n * m ≤ 128 * 31 := Nat.mul_le_mul hn hm
  refine CW.region ?_
  refine RT.ev rfl rfl (Ev.assign rfl) ?_
  refine RT.nil ?_
  refine CW.seq ?_
  refine CW.region ?_
  refine RT.ev rfl rfl (Ev.move rfl) <| RT.ev rfl rfl (Ev.move rfl) <| RT.ev rfl rfl (Ev.move rfl) <| RT.ev rfl rfl (Ev.mulI rfl rfl (by omega)) ?_
  refine RT.eff rfl rfl (OpE.call ent127 rfl ((newReader_ok _ (l) ((n * m)) _ (hv.ext hs0.ext) (by omega) (by omega)).mono fun r_1 w_1 h_1 => ?_))
  obtain ⟨rg_1, rv_1, rfl, hp_1⟩ := h_1
  have hs_1 : Sat w [cObj rg_1 202 [rv_1, (Value.int .i64 (((n * m) : Nat) : Int)), (Value.int .i64 ((0 : Nat) : Int))], cL rv_1 5 (encN .u8) (l.take (((n * m) + 7) / 8))] _ := hs0.adds hp_1
  refine RT.ev rfl rfl (Ev.move rfl) <| RT.ev rfl rfl (Ev.extract rfl rfl) <| RT.ev rfl rfl (Ev.extract rfl rfl) <| RT.ev rfl rfl (Ev.assign rfl) <| RT.ev rfl rfl (Ev.assign rfl) ?_
  refine RT.nil ?_
  refine CW.seq ?_
  have hs_2 : Sat w [cObj rg_1 202 [rv_1, (Value.int .i64 (((n * m) : Nat) : Int)), (Value.int .i64 ((0 : Nat) : Int))], cL rv_1 5 (encN .u8) (l)] w_1 := by
    have hq : l.take (((n * m) + 7) / 8) = l := List.take_of_length_le (by omega)
    rw [← hq]; exact hs_1
  refine CW.region ?_
  refine RT.ev rfl rfl (Ev.move rfl) ?_
  refine RT.eff rfl rfl (OpE.makeL (encN .i64) (0) sl22 rfl hs_2 rfl rfl (by omega) (by omega) (by omega) fun v_1 w_2 hs_3 hch_1 => ?_)
  have hs_3d : Sat w [cObj rg_1 202 [rv_1, (Value.int .i64 (((n * m) : Nat) : Int)), (Value.int .i64 ((0 : Nat) : Int))], cL rv_1 5 (encN .u8) (l), cL v_1 3 (encN .i64) (List.replicate (n) 0)] _ := hs_3
  refine RT.ev rfl rfl (Ev.assign rfl) ?_
  refine RT.nil ?_
  refine CW.seq ?_
  refine CW.seq ?_
  refine CW.region ?_
  refine RT.ev rfl rfl (Ev.move rfl) <| RT.ev rfl rfl (Ev.lenL Try.underlying22 rfl (hs_3d.rdL 2 rfl)) <| RT.ev rfl rfl (Ev.move rfl) ?_
  refine RT.nil ?_
  refine CW.block ?_
  have hs_4 : Sat w [cObj rg_1 202 [rv_1, (Value.int .i64 (((n * m) : Nat) : Int)), (Value.int .i64 ((0 : Nat) : Int))], cL rv_1 5 (encN .u8) (l), cL v_1 3 (encN .i64) (lowU l n m 0)] w_2 := by
    have hq : List.replicate (n) 0 = lowU l n m 0 := (lowU_zero l n m).symm
    rw [← hq]; exact hs_3d
  refine CW.loop (α := Nat) (fun k => [(2, (Value.int .i64 ((m : Nat) : Int))), (7, (Value.pointer (some ⟨rg_1, 0, none⟩))), (9, v_1), (24, (Value.int .i64 ((n : Nat) : Int))), (25, (Value.int .i64 ((k : Nat) : Int)))]) (fun k w' => Sat w [cObj rg_1 202 [rv_1, (Value.int .i64 (((n * m) : Nat) : Int)), (Value.int .i64 (((m * k) : Nat) : Int))], cL rv_1 5 (encN .u8) (l), cL v_1 3 (encN .i64) (lowU l n m k)] w' ∧ (k ≤ n)) (fun k => n - k) 0 ⟨rfl, rfl, rfl, congrArg some (congrArg (Value.int .i64) (by simp)), rfl, trivial⟩ ⟨hs_4, Nat.zero_le _⟩ ?_
  rintro k w_3 ⟨hs_5, hk⟩
  show CW _ _ _ _ [(2, (Value.int .i64 ((m : Nat) : Int))), (7, (Value.pointer (some ⟨rg_1, 0, none⟩))), (9, v_1), (24, (Value.int .i64 ((n : Nat) : Int))), (25, (Value.int .i64 ((k : Nat) : Int)))] _
  refine CW.seq ?_
  refine CW.region ?_
  refine RT.ev rfl rfl (Ev.lssN rfl rfl) ?_
  refine RT.nil ?_
  refine CW.seq ?_
  refine CW.condD rfl (fun hc_1 => ?_) (fun hc_1 => ?_)
  · refine CW.skip ?_
    refine CW.seq ?_
    refine CW.block ?_
    refine CW.seq ?_
    refine CW.region ?_
    refine RT.ev rfl rfl (Ev.move rfl) <| RT.ev rfl rfl (Ev.assign rfl) ?_
    refine RT.nil ?_
    refine CW.seq ?_
    have hkm : m * (k + 1) ≤ n * m := by rw [Nat.mul_comm n]; exact Nat.mul_le_mul_left m hc_1
    refine CW.region ?_
    refine RT.ev rfl rfl (Ev.move rfl) <| RT.ev rfl rfl (Ev.move rfl) ?_
    have hA_1 : Sat w ([cObj rg_1 202 [rv_1, (Value.int .i64 (((n * m) : Nat) : Int)), (Value.int .i64 (((m * k) : Nat) : Int))], cL rv_1 5 (encN .u8) (l)] ++ ([cL v_1 3 (encN .i64) (lowU l n m k)] ++ [])) _ := (Sat.order [0, 1, 2] (by decide) hs_5.tail).cut 2
    refine RT.eff rfl rfl (OpE.call ent167 rfl ((rbits_ok _ _ _ _ _ (l) ((n * m)) ((m * k)) (m) hA_1 (hb) (by omega) (by omega) (by omega) (by rw [← Nat.mul_succ]; exact hkm)).mono fun r_2 w_4 h_2 => ?_))
    obtain ⟨rfl, hp_2⟩ := h_2
    have hs_6 : Sat w [cObj rg_1 202 [rv_1, (Value.int .i64 (((n * m) : Nat) : Int)), (Value.int .i64 ((((m * k) + m) : Nat) : Int))], cL rv_1 5 (encN .u8) (l), cL v_1 3 (encN .i64) (lowU l n m k)] _ := (Sat.order [0, 1, 2] (by decide) hp_2.join).untail
    refine RT.ev rfl rfl (Ev.move rfl) <| RT.ev rfl rfl (Ev.extract rfl rfl) <| RT.ev rfl rfl (Ev.extract rfl rfl) <| RT.ev rfl rfl (Ev.assign rfl) <| RT.ev rfl rfl (Ev.assign rfl) ?_
    refine RT.nil ?_
    refine CW.region ?_
    refine RT.ev rfl rfl (Ev.move rfl) <| RT.ev rfl rfl (Ev.move rfl) <| RT.ev rfl rfl (Ev.move rfl) <| RT.ev rfl rfl (Ev.convK (by rw [Try.underlying108]; rfl) Try.underlying3 rfl (wrap_i (by have := bvN_lt l (m * k) m; have : 2 ^ m ≤ 2 ^ 31 := Nat.pow_le_pow_right (by decide) hm; omega))) <| RT.ev rfl rfl (Ev.idxL (E := encN .i64) sl22 rfl rfl (hs_6.rdL 2 rfl) (by rw [lowU_length]; all_goals omega)) ?_
    refine RT.eff rfl rfl (OpE.setL (a := (bvN l (m * k) m)) 2 one3 hs_6 rfl rfl rfl rfl (by rw [lowU_length]; all_goals omega) fun w_5 hs_7 hch_2 => ?_)
    have hs_7d : Sat w [cObj rg_1 202 [rv_1, (Value.int .i64 (((n * m) : Nat) : Int)), (Value.int .i64 ((((m * k) + m) : Nat) : Int))], cL rv_1 5 (encN .u8) (l), cL v_1 3 (encN .i64) ((lowU l n m k).set k (bvN l (m * k) m))] _ := hs_7
    refine RT.nil ?_
    refine CW.region ?_
    refine RT.ev rfl rfl (Ev.addI (b := 1) rfl rfl (by omega)) <| RT.ev rfl rfl (Ev.move rfl) ?_
    refine RT.nil ?_
    have hs_8 : Sat w [cObj rg_1 202 [rv_1, (Value.int .i64 (((n * m) : Nat) : Int)), (Value.int .i64 (((m * (k + 1)) : Nat) : Int))], cL rv_1 5 (encN .u8) (l), cL v_1 3 (encN .i64) ((lowU l n m k).set k (bvN l (m * k) m))] w_5 := hs_7d
    have hs_9 : Sat w [cObj rg_1 202 [rv_1, (Value.int .i64 (((n * m) : Nat) : Int)), (Value.int .i64 (((m * (k + 1)) : Nat) : Int))], cL rv_1 5 (encN .u8) (l), cL v_1 3 (encN .i64) (lowU l n m (k + 1))] w_5 := by
      have hq : (lowU l n m k).set k (bvN l (m * k) m) = lowU l n m (k + 1) := lowU_set hc_1
      rw [← hq]; exact hs_8
    exact ⟨k + 1, ⟨rfl, rfl, rfl, rfl, rfl, trivial⟩, ⟨hs_9, by omega⟩, (show (n - (k + 1)) < (n - k) from by omega)⟩
  · refine CW.exit0 ?_
    refine CW.seq ?_
    refine CW.region ?_
    refine RT.ev rfl rfl (Ev.move rfl) <| RT.ev rfl rfl (Ev.assign rfl) ?_
    refine RT.nil ?_
    refine CW.ret ?_
    show PostK _ _ _ _ _ _
    refine post1 rfl rfl ?_
    have hs_10 : Sat w [cL v_1 3 (encN .i64) (lowU l n m k)] w_3 := hs_5.sub ((.cons _ (.cons _ (.cons_cons _ .slnil))))
    have hs_11 : Sat w [cL v_1 3 (encN .i64) (lowsN l n m)] w_3 := by
      have hq : lowU l n m k = lowsN l n m := by rw [show k = n by omega, lowU_all]
      rw [← hq]; exact hs_10
    exact hs_11

set_option maxHeartbeats 1000000 in
theorem unpack_all (v : Value) (b : List Nat) (w : World) (hv : RdL w v (encN .u8) b) (hb : ∀ x ∈ b, x < 256) (hn : b.length ≤ 1000000000) :
    CallsV Try.prog 96 [v] w fun r w' => (∃ l v', unpk b = some l ∧ r = .tuple #[v', .int .i64 ((0 : Nat) : Int)] ∧ Sat w [cL v' 3 (encN .i64) l] w') ∨ (unpk b = none ∧ r = .tuple #[.slice none 0 0, .int .i64 ((9 : Nat) : Int)] ∧ Sat w [] w') := by
  have hs0 := Sat.start w
  refine callsV_of Try.func96 rfl rfl ?_
  refine CW.seq ?_
  have hlX := Nat.le_trans (uX_len b) hn
  have hlY := Nat.le_trans (uY_len b) hn
  refine CW.region ?_
  refine RT.ev rfl rfl (Ev.assign rfl) <| RT.ev rfl rfl (Ev.assign rfl) ?_
  refine RT.nil ?_
  refine CW.scope 0 (fun L' w' => Weak [] L' ∧ Sat w [] w' ∧ (unpk b = none)) rfl ?_ ?_
  · refine CW.seq ?_
    refine CW.region ?_
    refine RT.ev rfl rfl (Ev.assign rfl) ?_
    refine RT.nil ?_
    refine CW.seq ?_
    refine CW.region ?_
    refine RT.ev rfl rfl (Ev.assign rfl) ?_
    refine RT.nil ?_
    refine CW.seq ?_
    refine CW.region ?_
    refine RT.ev rfl rfl (Ev.assign rfl) ?_
    refine RT.nil ?_
    refine CW.seq ?_
    refine CW.region ?_
    refine RT.ev rfl rfl (Ev.move rfl) <| RT.ev rfl rfl (Ev.build bt150 rfl ⟨(hv.ext hs0.ext).oneCell, rfl, trivial⟩ rfl) ?_
    refine RT.eff rfl rfl (OpE.alloc hs0 zero150 fun b_1 w_1 hs_1 hch_1 hb_1 => ?_)
    have hs_1d : Sat w [cObj b_1 150 [(Value.slice none 0 0), (Value.bool false)]] _ := hs_1
    refine RT.eff rfl rfl (OpE.storeObjA (vs := [v, (Value.bool true)]) agg150 hs_1d (i := 0) rfl rfl rfl rfl (fun v h => by simp only [List.mem_cons, List.not_mem_nil, or_false] at h; rcases h with rfl | rfl; exact (hv.ext hs_1d.ext).oneCell; exact rfl) fun w_2 hs_2 hch_2 => ?_)
    have hs_2d : Sat w [cObj b_1 150 [v, (Value.bool true)]] _ := hs_2
    refine RT.nil ?_
    refine CW.seq ?_
    refine CW.region ?_
    have hA_1 : Sat w ([cObj b_1 150 [v, (Value.bool true)]] ++ ([] ++ [])) _ := (Sat.order [0] (by decide) hs_2d.tail).cut 1
    refine RT.eff rfl rfl (OpE.call ent124 rfl ((bnum_ok _ _ _ _ _ _ b 128 hA_1 hv (hb) (by omega) (by omega)).mono fun r_1 w_3 h_1 => ?_))
    obtain ⟨rfl, bv_1, hbv_1, hp_1⟩ := h_1
    have hs_3 : Sat w [cObj b_1 150 [bv_1, (Value.bool (numN true b 128).2.1)]] _ := (Sat.order [0] (by decide) hp_1.join).untail
    have hA_2 : Sat w ([cObj b_1 150 [bv_1, (Value.bool (numN true b 128).2.1)]] ++ ([] ++ [])) _ := (Sat.order [0] (by decide) hs_3.tail).cut 1
    refine RT.eff rfl rfl (OpE.call ent124 rfl ((bnum_ok _ _ _ _ _ _ ((numN true b 128).2.2) 31 hA_2 hbv_1 (fun x hx => hb x (uX_mem b x hx)) (hlX) (by omega)).mono fun r_2 w_4 h_2 => ?_))
    obtain ⟨rfl, bv_2, hbv_2, hp_2⟩ := h_2
    have hs_4 : Sat w [cObj b_1 150 [bv_2, (Value.bool (numN ((numN true b 128).2.1) ((numN true b 128).2.2) 31).2.1)]] _ := (Sat.order [0] (by decide) hp_2.join).untail
    have hA_3 : Sat w ([cObj b_1 150 [bv_2, (Value.bool (numN ((numN true b 128).2.1) ((numN true b 128).2.2) 31).2.1)]] ++ ([] ++ [])) _ := (Sat.order [0] (by decide) hs_4.tail).cut 1
    refine RT.eff rfl rfl (OpE.call ent124 rfl ((bnum_ok _ _ _ _ _ _ ((numN ((numN true b 128).2.1) ((numN true b 128).2.2) 31).2.2) 128 hA_3 hbv_2 (fun x hx => hb x (uY_mem b x hx)) (hlY) (by omega)).mono fun r_3 w_5 h_3 => ?_))
    obtain ⟨rfl, bv_3, hbv_3, hp_3⟩ := h_3
    have hs_5 : Sat w [cObj b_1 150 [bv_3, (Value.bool (numN ((numN ((numN true b 128).2.1) ((numN true b 128).2.2) 31).2.1) ((numN ((numN true b 128).2.1) ((numN true b 128).2.2) 31).2.2) 128).2.1)]] _ := (Sat.order [0] (by decide) hp_3.join).untail
    refine RT.ev rfl rfl (Ev.assign rfl) <| RT.ev rfl rfl (Ev.assign rfl) <| RT.ev rfl rfl (Ev.assign rfl) ?_
    refine RT.nil ?_
    have hX := uX_le b
    have hY := uY_le b
    have hZ := uZ_le b
    have hXY := uXY_le b
    have hlZ := uZ_len b
    have hs_6 : Sat w [cObj b_1 150 [bv_3, (Value.bool (uZ b).2.1)]] w_5 := hs_5
    have hbz : RdL w bv_3 (encN .u8) (uZ b).2.2 := hbv_3
    refine CW.weaken [(0, _), (2, _), (3, _), (4, _), (5, _), (6, _), (7, _), (8, (Value.int .i64 (((uX b).1 : Nat) : Int))), (9, _), (10, _), (13, _), (14, _), (15, _), (16, _), (17, _)] ⟨rfl, rfl, rfl, rfl, rfl, rfl, rfl, congrArg some (rfl), rfl, rfl, rfl, rfl, rfl, rfl, rfl, trivial⟩ ?_
    refine CW.weaken [(0, _), (2, _), (3, _), (4, _), (5, _), (6, _), (7, _), (8, _), (9, (Value.int .i64 (((uY b).1 : Nat) : Int))), (10, _), (13, _), (14, _), (15, _), (16, _), (17, _)] ⟨rfl, rfl, rfl, rfl, rfl, rfl, rfl, rfl, congrArg some (rfl), rfl, rfl, rfl, rfl, rfl, rfl, trivial⟩ ?_
    refine CW.weaken [(0, _), (2, _), (3, _), (4, _), (5, _), (6, _), (7, _), (8, _), (9, _), (10, (Value.int .i64 (((uZ b).1 : Nat) : Int))), (13, _), (14, _), (15, _), (16, _), (17, _)] ⟨rfl, rfl, rfl, rfl, rfl, rfl, rfl, rfl, rfl, congrArg some (rfl), rfl, rfl, rfl, rfl, rfl, trivial⟩ ?_
    refine CW.seq ?_
    refine CW.region ?_
    refine RT.ev rfl rfl (Ev.move rfl) <| RT.ev rfl rfl (Ev.move rfl) <| RT.ev rfl rfl (Ev.mulI rfl rfl (by omega)) <| RT.ev rfl rfl (Ev.addI (b := 7) rfl rfl (by omega)) <| RT.ev rfl rfl (Ev.quo (b := 8) rfl rfl (by omega) (by unfold inI64; omega)) <| RT.ev rfl rfl (Ev.assign rfl) ?_
    refine RT.nil ?_
    refine CW.weaken [(0, _), (2, _), (3, _), (4, _), (5, _), (6, _), (7, _), (8, _), (9, _), (10, _), (11, (Value.int .i64 (((uS b) : Nat) : Int))), (13, _), (14, _), (15, _), (16, _), (17, _), (18, _), (19, _), (20, _), (21, _), (22, _)] ⟨rfl, rfl, rfl, rfl, rfl, rfl, rfl, rfl, rfl, rfl, congrArg some (rfl), rfl, rfl, rfl, rfl, rfl, rfl, rfl, rfl, rfl, rfl, trivial⟩ ?_
    refine CW.seq ?_
    refine CW.seq ?_
    refine CW.mid (fun L' w' => Weak [(0, v), (2, (Value.slice none 0 0)), (3, (Value.int .i64 ((0 : Nat) : Int))), (4, (Value.slice none 0 0)), (5, (Value.slice none 0 0)), (6, (Value.int .i64 (-1))), (7, (Value.pointer (some ⟨b_1, 0, none⟩))), (8, (Value.int .i64 (((uX b).1 : Nat) : Int))), (9, (Value.int .i64 (((uY b).1 : Nat) : Int))), (10, (Value.int .i64 (((uZ b).1 : Nat) : Int))), (11, (Value.int .i64 (((uS b) : Nat) : Int))), (32, (Value.bool (decide (((!(uZ b).2.1) = true) ∨ (((uZ b).2.2).length < (uS b))))))] L' ∧ Sat w [cObj b_1 150 [bv_3, (Value.bool (uZ b).2.1)]] w') ?_ ?_
    · refine CW.region ?_
      refine RT.ev rfl rfl (Ev.fieldAddr fld150_1 rfl rfl) <| RT.ev rfl rfl (Ev.load scal4 rfl (hs_6.cell (i := 0) (j := 1) rfl rfl)) <| RT.ev rfl rfl (Ev.notB rfl) <| RT.ev rfl rfl (Ev.move rfl) ?_
      by_cases hg_1 : (!(uZ b).2.1) = true
      · refine RT.no rfl rfl rfl (hg_1) rfl ?_
        refine RT.no rfl rfl rfl (hg_1) rfl ?_
        refine RT.no rfl rfl rfl (hg_1) rfl ?_
        refine RT.no rfl rfl rfl (hg_1) rfl ?_
        refine RT.no rfl rfl rfl (hg_1) rfl ?_
        refine RT.ev rfl rfl (Ev.pickY rfl (hg_1) rfl) ?_
        refine RT.nil ?_
        exact ⟨⟨rfl, rfl, rfl, rfl, rfl, rfl, rfl, rfl, rfl, rfl, rfl, congrArg some (congrArg Value.bool (by simp [hg_1])), trivial⟩, hs_6⟩
      · refine RT.yes rfl rfl rfl (by simpa using hg_1) ?_
        refine RT.ev rfl rfl (Ev.fieldAddr fld150_0 rfl rfl) ?_
        refine RT.yes rfl rfl rfl (by simpa using hg_1) ?_
        refine RT.ev rfl rfl (Ev.load scal40 rfl (hs_6.cell (i := 0) (j := 0) rfl rfl)) ?_
        refine RT.yes rfl rfl rfl (by simpa using hg_1) ?_
        refine RT.ev rfl rfl (Ev.lenL Try.underlying40 rfl (hbz.ext hs_6.ext)) ?_
        refine RT.yes rfl rfl rfl (by simpa using hg_1) ?_
        refine RT.ev rfl rfl (Ev.move rfl) ?_
        refine RT.yes rfl rfl rfl (by simpa using hg_1) ?_
        refine RT.ev rfl rfl (Ev.lssN rfl rfl) <| RT.ev rfl rfl (Ev.pickN rfl (by simpa using hg_1) rfl) ?_
        refine RT.nil ?_
        exact ⟨⟨rfl, rfl, rfl, rfl, rfl, rfl, rfl, rfl, rfl, rfl, rfl, congrArg some (congrArg Value.bool (by simp [hg_1])), trivial⟩, hs_6⟩
    · rintro L' w_6 ⟨hw_1, hs_7⟩
      refine CW.weaken _ hw_1 ?_
      refine CW.condD rfl (fun hc_1 => ?_) (fun hc_1 => ?_)
      · refine CW.goto0 ?_
        have hs_8 : Sat w [] w_6 := hs_7.sub ((.cons _ .slnil))
        exact ⟨trivial, hs_8, unpk_no1 (by simpa using hc_1)⟩
      · refine CW.skip ?_
        refine CW.seq ?_
        have hz1 : ¬ ((uZ b).2.1 = false ∨ (uZ b).2.2.length < uS b) := by simpa using hc_1
        have hsz : uS b ≤ (uZ b).2.2.length := by simp only [not_or] at hz1; omega
        refine CW.region ?_
        refine RT.ev rfl rfl (Ev.fieldAddr fld150_0 rfl rfl) <| RT.ev rfl rfl (Ev.load scal40 rfl (hs_7.cell (i := 0) (j := 0) rfl rfl)) <| RT.ev rfl rfl (Ev.move rfl) <| RT.ev rfl rfl (Ev.sliceL (E := encN .u8) (a := 0) (c := (uS b)) sl40 rfl (hbz.ext hs_7.ext) rfl ⟨_, rfl⟩ (by omega) (hsz)) <| RT.ev rfl rfl (Ev.move rfl) <| RT.ev rfl rfl (Ev.move rfl) ?_
        refine RT.eff rfl rfl (OpE.call ent125 rfl ((lowest_ok _ ((((uZ b).2.2).take (uS b)).drop 0) ((uX b).1) ((uY b).1) _ (((hbz.ext hs_7.ext)).sub (a := 0) (b := (uS b)) (by omega) (hsz)) (fun x hx => hb x (uZ_mem b x (List.mem_of_mem_take hx))) (hX) (hY) (by rw [show ∀ l : List Nat, l.drop 0 = l from fun _ => rfl, List.length_take]; exact Nat.min_eq_left hsz)).mono fun r_4 w_7 h_4 => ?_))
        have hp_4 := h_4
        have hs_9 : Sat w [cObj b_1 150 [bv_3, (Value.bool (uZ b).2.1)], cL r_4 3 (encN .i64) (lowsN ((((uZ b).2.2).take (uS b)).drop 0) ((uX b).1) ((uY b).1))] _ := hs_7.adds hp_4
        refine RT.ev rfl rfl (Ev.assign rfl) ?_
        refine RT.nil ?_
        refine CW.seq ?_
        refine CW.region ?_
        refine RT.ev rfl rfl (Ev.fieldAddr fld150_0 rfl rfl) <| RT.ev rfl rfl (Ev.load scal40 rfl (hs_9.cell (i := 0) (j := 0) rfl rfl)) <| RT.ev rfl rfl (Ev.move rfl) <| RT.ev rfl rfl (Ev.sliceL (E := encN .u8) (a := (uS b)) (c := ((uZ b).2.2).length) sl40 rfl (hbz.ext hs_9.ext) ⟨_, rfl⟩ rfl (hsz) (Nat.le_refl _)) <| RT.ev rfl rfl (Ev.fieldAddr fld150_0 rfl rfl) ?_
        refine RT.eff rfl rfl (OpE.storeObj one40 hs_9 (i := 0) rfl rfl rfl ((((hbz.ext hs_9.ext)).sub (a := (uS b)) (b := ((uZ b).2.2).length) (hsz) (Nat.le_refl _)).oneCell) rfl fun w_8 hs_10 hch_3 => ?_)
        have hs_10d : Sat w [cObj b_1 150 [(subSl (encN .u8).s bv_3 (uS b) (((uZ b).2.2).length)), (Value.bool (uZ b).2.1)], cL r_4 3 (encN .i64) (lowsN ((((uZ b).2.2).take (uS b)).drop 0) ((uX b).1) ((uY b).1))] _ := hs_10
        refine RT.nil ?_
        have hdr : RdL w (subSl (encN .u8).s bv_3 (uS b) (((uZ b).2.2).length)) (encN .u8) ((uZ b).2.2.drop (uS b)) := by have h := hbz.sub (a := uS b) (b := (uZ b).2.2.length) hsz (Nat.le_refl _); rw [List.take_length] at h; exact h
        refine CW.seq ?_
        refine CW.block ?_
        refine CW.loop (α := Nat × Bool × Value × List Nat × Nat × List Nat) (fun (cnt, ok, bv, bl, at1, vs) => [(0, v), (4, r_4), (6, (Value.int .i64 ((((at1 : Nat) : Int) - 1)))), (7, (Value.pointer (some ⟨b_1, 0, none⟩))), (8, (Value.int .i64 (((uX b).1 : Nat) : Int))), (9, (Value.int .i64 (((uY b).1 : Nat) : Int))), (10, (Value.int .i64 ((cnt : Nat) : Int)))]) (fun (cnt, ok, bv, bl, at1, vs) w' => Sat w [cObj b_1 150 [bv, (Value.bool ok)], cL r_4 3 (encN .i64) (vs)] w' ∧ (exL (uY b).1 (uX b).1 cnt ok bl at1 vs = uE b) ∧ (RdL w bv (encN .u8) bl) ∧ (∀ x ∈ bl, x < 256) ∧ (bl.length ≤ 1000000000) ∧ (vs.length = (uX b).1) ∧ (∀ x ∈ vs, x ≤ 2147483647) ∧ (at1 ≤ 128) ∧ (cnt ≤ 128)) (fun (cnt, ok, bv, bl, at1, vs) => cnt) ((uZ b).1, (uZ b).2.1, (subSl (encN .u8).s bv_3 (uS b) (((uZ b).2.2).length)), (uZ b).2.2.drop (uS b), 0, lowsN ((uZ b).2.2.take (uS b)) (uX b).1 (uY b).1) ⟨rfl, rfl, rfl, rfl, rfl, rfl, rfl, trivial⟩ ⟨hs_10d, rfl, hdr, fun x hx => hb x (uZ_mem b x (List.mem_of_mem_drop hx)), by rw [List.length_drop]; omega, lowsN_length .., lowsN_lt _ _ _ hY, Nat.zero_le _, hZ⟩ ?_
        rintro ⟨cnt, ok, bv, bl, at1, vs⟩ w_9 ⟨hs_11, hE, hbl, hblb, hbll, hvl, hvb, hat, hcnt⟩
        show CW _ _ _ _ [(0, v), (4, r_4), (6, (Value.int .i64 ((((at1 : Nat) : Int) - 1)))), (7, (Value.pointer (some ⟨b_1, 0, none⟩))), (8, (Value.int .i64 (((uX b).1 : Nat) : Int))), (9, (Value.int .i64 (((uY b).1 : Nat) : Int))), (10, (Value.int .i64 ((cnt : Nat) : Int)))] _
        refine CW.seq ?_
        refine CW.seq ?_
        refine CW.region ?_
        refine RT.ev rfl rfl (Ev.move rfl) <| RT.ev rfl rfl (Ev.gtrN (b := 0) rfl rfl) ?_
        refine RT.nil ?_
        refine CW.condD rfl (fun hc_2 => ?_) (fun hc_2 => ?_)
        · refine CW.skip ?_
          refine CW.seq ?_
          refine CW.block ?_
          refine CW.seq ?_
          obtain ⟨c, rfl⟩ : ∃ c, cnt = c + 1 := ⟨cnt - 1, by omega⟩
          have hlim : 2147483647 / 2 ^ (uY b).1 ≤ 1000000000000 := Nat.le_trans (Nat.div_le_self _ _) (by omega)
          have hbll2 : (numN ok bl 128).2.2.length ≤ 1000000000 := Nat.le_trans (numN_len _ _ _) hbll
          have hG := numN_le ok bl 128
          have hH := numN_le (numN ok bl 128).2.1 (numN ok bl 128).2.2 (2147483647 / 2 ^ (uY b).1)
          have hH2 := high_le hH
          rw [exL] at hE
          refine CW.region ?_
          refine RT.ev rfl rfl (Ev.move rfl) ?_
          have hA_4 : Sat w ([cObj b_1 150 [bv, (Value.bool ok)]] ++ ([cL r_4 3 (encN .i64) (vs)] ++ [])) _ := (Sat.order [0, 1] (by decide) hs_11.tail).cut 1
          refine RT.eff rfl rfl (OpE.call ent124 rfl ((bnum_ok _ _ _ _ _ _ bl 128 hA_4 hbl (hblb) (hbll) (by omega)).mono fun r_5 w_10 h_5 => ?_))
          obtain ⟨rfl, bv_4, hbv_4, hp_5⟩ := h_5
          have hs_12 : Sat w [cObj b_1 150 [bv_4, (Value.bool (numN ok bl 128).2.1)], cL r_4 3 (encN .i64) (vs)] _ := (Sat.order [0, 1] (by decide) hp_5.join).untail
          refine RT.ev rfl rfl (Ev.add rfl rfl (by unfold inI64; omega)) <| RT.ev rfl rfl (Ev.assign rfl) ?_
          refine RT.nil ?_
          refine CW.seq ?_
          refine CW.region ?_
          refine RT.ev rfl rfl (Ev.move rfl) <| RT.ev rfl rfl (Ev.shrN (a := 2147483647) rfl rfl (by have := Nat.div_le_self 2147483647 (2 ^ (uY b).1); (try simp only [IntKind.bits]); omega)) ?_
          have hA_5 : Sat w ([cObj b_1 150 [bv_4, (Value.bool (numN ok bl 128).2.1)]] ++ ([cL r_4 3 (encN .i64) (vs)] ++ [])) _ := (Sat.order [0, 1] (by decide) hs_12.tail).cut 1
          refine RT.eff rfl rfl (OpE.call ent124 rfl ((bnum_ok _ _ _ _ _ _ ((numN ok bl 128).2.2) (2147483647 / 2 ^ (uY b).1) hA_5 hbv_4 (fun x hx => hblb x (numN_mem _ _ _ x hx)) (hbll2) (hlim)).mono fun r_6 w_11 h_6 => ?_))
          obtain ⟨rfl, bv_5, hbv_5, hp_6⟩ := h_6
          have hs_13 : Sat w [cObj b_1 150 [bv_5, (Value.bool (numN ((numN ok bl 128).2.1) ((numN ok bl 128).2.2) (2147483647 / 2 ^ (uY b).1)).2.1)], cL r_4 3 (encN .i64) (vs)] _ := (Sat.order [0, 1] (by decide) hp_6.join).untail
          refine RT.ev rfl rfl (Ev.assign rfl) ?_
          refine RT.nil ?_
          refine CW.seq ?_
          refine CW.seq ?_
          refine CW.mid (fun L' w' => Weak [(0, v), (4, r_4), (6, (Value.int .i64 (((((at1 : Nat) : Int) - 1) + (((numN ok bl 128).1 : Nat) : Int))))), (7, (Value.pointer (some ⟨b_1, 0, none⟩))), (8, (Value.int .i64 (((uX b).1 : Nat) : Int))), (9, (Value.int .i64 (((uY b).1 : Nat) : Int))), (10, (Value.int .i64 (((c + 1) : Nat) : Int))), (12, (Value.int .i64 (((numN ((numN ok bl 128).2.1) ((numN ok bl 128).2.2) (2147483647 / 2 ^ (uY b).1)).1 : Nat) : Int))), (66, (Value.bool (decide ((((!(numN ((numN ok bl 128).2.1) ((numN ok bl 128).2.2) (2147483647 / 2 ^ (uY b).1)).2.1) = true) ∨ ((((((at1 : Nat) : Int) - 1) + (((numN ok bl 128).1 : Nat) : Int)) : Int) < (0 : Int))) ∨ ((((uX b).1 : Nat) : Int) ≤ (((((at1 : Nat) : Int) - 1) + (((numN ok bl 128).1 : Nat) : Int)) : Int))))))] L' ∧ Sat w [cObj b_1 150 [bv_5, (Value.bool (numN ((numN ok bl 128).2.1) ((numN ok bl 128).2.2) (2147483647 / 2 ^ (uY b).1)).2.1)], cL r_4 3 (encN .i64) (vs)] w') ?_ ?_
          · refine CW.region ?_
            refine RT.ev rfl rfl (Ev.fieldAddr fld150_1 rfl rfl) <| RT.ev rfl rfl (Ev.load scal4 rfl (hs_13.cell (i := 0) (j := 1) rfl rfl)) <| RT.ev rfl rfl (Ev.notB rfl) <| RT.ev rfl rfl (Ev.move rfl) ?_
            by_cases hg_2 : (!(numN ((numN ok bl 128).2.1) ((numN ok bl 128).2.2) (2147483647 / 2 ^ (uY b).1)).2.1) = true
            · refine RT.no rfl rfl rfl (hg_2) rfl ?_
              refine RT.no rfl rfl rfl (hg_2) rfl ?_
              refine RT.ev rfl rfl (Ev.pickY rfl (hg_2) rfl) <| RT.ev rfl rfl (Ev.move rfl) ?_
              refine RT.no rfl rfl rfl (rfl) rfl ?_
              refine RT.no rfl rfl rfl (rfl) rfl ?_
              refine RT.no rfl rfl rfl (rfl) rfl ?_
              refine RT.ev rfl rfl (Ev.pickY rfl (rfl) rfl) ?_
              refine RT.nil ?_
              exact ⟨⟨rfl, rfl, rfl, rfl, rfl, rfl, rfl, rfl, congrArg some (congrArg Value.bool (by simp [hg_2])), trivial⟩, hs_13⟩
            · refine RT.yes rfl rfl rfl (by simpa using hg_2) ?_
              refine RT.ev rfl rfl (Ev.move rfl) ?_
              refine RT.yes rfl rfl rfl (by simpa using hg_2) ?_
              refine RT.ev rfl rfl (Ev.lss rfl rfl) <| RT.ev rfl rfl (Ev.pickN rfl (by simpa using hg_2) rfl) <| RT.ev rfl rfl (Ev.move rfl) ?_
              by_cases hg_3 : (((((at1 : Nat) : Int) - 1) + (((numN ok bl 128).1 : Nat) : Int)) : Int) < (0 : Int)
              · refine RT.no rfl rfl rfl (decide_eq_true hg_3) rfl ?_
                refine RT.no rfl rfl rfl (decide_eq_true hg_3) rfl ?_
                refine RT.no rfl rfl rfl (decide_eq_true hg_3) rfl ?_
                refine RT.ev rfl rfl (Ev.pickY rfl (decide_eq_true hg_3) rfl) ?_
                refine RT.nil ?_
                exact ⟨⟨rfl, rfl, rfl, rfl, rfl, rfl, rfl, rfl, congrArg some (congrArg Value.bool (by simp [hg_2, hg_3])), trivial⟩, hs_13⟩
              · refine RT.yes rfl rfl rfl (decide_eq_false hg_3) ?_
                refine RT.ev rfl rfl (Ev.move rfl) ?_
                refine RT.yes rfl rfl rfl (decide_eq_false hg_3) ?_
                refine RT.ev rfl rfl (Ev.move rfl) ?_
                refine RT.yes rfl rfl rfl (decide_eq_false hg_3) ?_
                refine RT.ev rfl rfl (Ev.geq rfl rfl) <| RT.ev rfl rfl (Ev.pickN rfl (decide_eq_false hg_3) rfl) ?_
                refine RT.nil ?_
                exact ⟨⟨rfl, rfl, rfl, rfl, rfl, rfl, rfl, rfl, congrArg some (congrArg Value.bool (by simp [hg_2, hg_3])), trivial⟩, hs_13⟩
          · rintro L' w_12 ⟨hw_2, hs_14⟩
            refine CW.weaken _ hw_2 ?_
            refine CW.condD rfl (fun hc_3 => ?_) (fun hc_3 => ?_)
            · refine CW.goto0 ?_
              have hs_15 : Sat w [] w_12 := hs_14.sub ((.cons _ (.cons _ .slnil)))
              exact ⟨trivial, hs_15, unpk_no2 (by rw [← hE, if_pos (hc_3.elim (fun h => h.elim (fun h => .inl (by simpa using h)) fun h => .inr (.inl (by omega))) fun h => .inr (.inr (by omega)))])⟩
            · refine CW.skip ?_
              have hcc : ¬ ((numN (numN ok bl 128).2.1 (numN ok bl 128).2.2 (2147483647 / 2 ^ (uY b).1)).2.1 = false ∨ at1 + (numN ok bl 128).1 = 0 ∨ (uX b).1 < at1 + (numN ok bl 128).1) := fun h => hc_3 (h.elim (fun h => .inl (.inl (by simp [h]))) fun h => h.elim (fun h => .inl (.inr (by omega))) fun h => .inr (by omega))
              have hE2 := hE
              rw [if_neg hcc] at hE2
              simp only [not_or] at hcc
              refine CW.weaken [(0, _), (4, _), (6, (Value.int .i64 (((at1 + (numN ok bl 128).1 - 1) : Nat) : Int))), (7, _), (8, _), (9, _), (10, _), (12, _), (66, _)] ⟨rfl, rfl, congrArg some (congrArg (Value.int .i64) (by omega)), rfl, rfl, rfl, rfl, rfl, rfl, trivial⟩ ?_
              obtain ⟨y, hy⟩ : ∃ y, vs[at1 + (numN ok bl 128).1 - 1]? = some y := ⟨_, List.getElem?_eq_getElem (by omega)⟩
              have hyb := hvb y (mem_of_get hy)
              rw [getD_some hy] at hE2
              have hshp_1 := (hs_14.rdL (E := encN .i64) 1 rfl).shp (by decide)
              refine CW.draw2 (fun w' => Sat w [cObj b_1 150 [bv_5, (Value.bool (numN ((numN ok bl 128).2.1) ((numN ok bl 128).2.2) (2147483647 / 2 ^ (uY b).1)).2.1)], cL r_4 3 (encN .i64) (vs)] w') (fun w' => Sat w [cObj b_1 150 [bv_5, (Value.bool (numN ((numN ok bl 128).2.1) ((numN ok bl 128).2.2) (2147483647 / 2 ^ (uY b).1)).2.1)]] w') 9 (.free 0 (.free 1 (.free 2 (.free 3 (.free 4 (.free 5 (.free 6 (.free 7 (.free 8 (.bar 9 .fin)))))))))) (fun w' h => h.sub ((.cons_cons _ (.cons _ .slnil)))) mixed (by kernel_rfl) ?_
              have hs_16 := hs_14.drew
              refine RP.ev rfl rfl rfl (fun w' hS' => Ev.move rfl) hs_16 ?_
              refine RP.ev rfl rfl rfl (fun w' hS' => Ev.move rfl) hs_16 ?_
              refine RP.ev rfl rfl rfl (fun w' hS' => Ev.idxL (E := encN .i64) sl22 rfl rfl (hS'.rdL 1 rfl) (by omega)) hs_16 ?_
              refine RP.ev rfl rfl rfl (fun w' hS' => Ev.ldL (E := encN .i64) scal3 rfl (hS'.rdL 1 rfl) hy (by decide) rfl) hs_16 ?_
              refine RP.ev rfl rfl rfl (fun w' hS' => Ev.move rfl) hs_16 ?_
              refine RP.ev rfl rfl rfl (fun w' hS' => Ev.move rfl) hs_16 ?_
              refine RP.ev rfl rfl rfl (fun w' hS' => Ev.shlI rfl rfl (by omega) (by omega)) hs_16 ?_
              refine RP.ev rfl rfl rfl (fun w' hS' => Ev.orI rfl rfl (by omega) (by omega)) hs_16 ?_
              refine RP.ev rfl rfl rfl (fun w' hS' => Ev.idxL (E := encN .i64) sl22 rfl rfl (hS'.rdL 1 rfl) (by omega)) hs_16 ?_
              refine RP.bar rfl rfl rfl (OpE.setL (a := (y ||| ((numN ((numN ok bl 128).2.1) ((numN ok bl 128).2.2) (2147483647 / 2 ^ (uY b).1)).1 * 2 ^ (uY b).1))) 1 one3 hs_16 rfl rfl rfl rfl (by omega) fun w_13 hs_17 hch_4 => ?_)
              have hs_17d : Sat w [cObj b_1 150 [bv_5, (Value.bool (numN ((numN ok bl 128).2.1) ((numN ok bl 128).2.2) (2147483647 / 2 ^ (uY b).1)).2.1)], cL r_4 3 (encN .i64) (vs.set (at1 + (numN ok bl 128).1 - 1) (y ||| ((numN ((numN ok bl 128).2.1) ((numN ok bl 128).2.2) (2147483647 / 2 ^ (uY b).1)).1 * 2 ^ (uY b).1)))] _ := hs_17
              have hS_1 : Sat w [cObj b_1 150 [bv_5, (Value.bool (numN ((numN ok bl 128).2.1) ((numN ok bl 128).2.2) (2147483647 / 2 ^ (uY b).1)).2.1)]] _ := hs_17d.sub ((.cons_cons _ (.cons _ .slnil)))
              refine ⟨hS_1, ?_⟩
              refine RP.fin ?_
              refine CW.region ?_
              refine RT.ev rfl rfl (Ev.move rfl) <| RT.ev rfl rfl (Ev.subI (b := 1) rfl rfl (by omega) (by omega)) <| RT.ev rfl rfl (Ev.assign rfl) ?_
              refine RT.nil ?_
              exact ⟨(c, (numN (numN ok bl 128).2.1 (numN ok bl 128).2.2 (2147483647 / 2 ^ (uY b).1)).2.1, bv_5, (numN (numN ok bl 128).2.1 (numN ok bl 128).2.2 (2147483647 / 2 ^ (uY b).1)).2.2, at1 + (numN ok bl 128).1, vs.set (at1 + (numN ok bl 128).1 - 1) (y ||| ((numN ((numN ok bl 128).2.1) ((numN ok bl 128).2.2) (2147483647 / 2 ^ (uY b).1)).1 * 2 ^ (uY b).1))), ⟨rfl, rfl, congrArg some (congrArg (Value.int .i64) (by omega)), rfl, rfl, rfl, rfl, trivial⟩, ⟨hs_17d, hE2, hbv_5, fun x hx => hblb x (numN_mem _ _ _ x (numN_mem _ _ _ x hx)), Nat.le_trans (numN_len _ _ _) hbll2, by rw [List.length_set]; exact hvl, fun z hz => by
        rcases List.mem_or_eq_of_mem_set hz with hz | rfl
        · exact hvb z hz
        · exact or_le31 hyb hH2, by omega, by omega⟩, (show ((c)) < (c + 1) from by omega)⟩
        · refine CW.exit0 ?_
          refine CW.seq ?_
          refine CW.region ?_
          refine RT.ev rfl rfl (Ev.move rfl) ?_
          refine RT.eff rfl rfl (OpE.call ent99 rfl ((pack_ok _ (vs) _ (hs_11.rdL 1 rfl) (by omega) (hvb)).mono fun r_7 w_14 h_7 => ?_))
          obtain ⟨pv_1, rfl, hp_7⟩ := h_7
          have hs_18 : Sat w [cObj b_1 150 [bv, (Value.bool ok)], cL r_4 3 (encN .i64) (vs), cL pv_1 5 (encN .u8) (packBk (vs))] _ := hs_11.adds hp_7
          refine RT.ev rfl rfl (Ev.move rfl) <| RT.ev rfl rfl (Ev.extract rfl rfl) <| RT.ev rfl rfl (Ev.extract rfl rfl) <| RT.ev rfl rfl (Ev.assign rfl) ?_
          refine RT.nil ?_
          refine CW.seq ?_
          refine CW.seq ?_
          refine CW.region ?_
          refine RT.ev rfl rfl (Ev.move rfl) <| RT.ev rfl rfl (Ev.move rfl) ?_
          refine RT.eff rfl rfl (OpE.call ent65 rfl ((beq_ok _ _ (packBk (vs)) (b) _ (hs_18.rdL 2 rfl) (hv.ext hs_18.ext) (encBk_lt _ _) (hb)).mono fun r_8 w_15 h_8 => ?_))
          obtain ⟨rfl, hp_8⟩ := h_8
          have hs_19 : Sat w [cObj b_1 150 [bv, (Value.bool ok)], cL r_4 3 (encN .i64) (vs), cL pv_1 5 (encN .u8) (packBk (vs))] _ := hs_18.adds hp_8
          refine RT.ev rfl rfl (Ev.notP rfl) ?_
          refine RT.nil ?_
          refine CW.condD rfl (fun hc_4 => ?_) (fun hc_4 => ?_)
          · refine CW.goto0 ?_
            have hs_20 : Sat w [] w_15 := hs_19.sub ((.cons _ (.cons _ (.cons _ .slnil))))
            exact ⟨trivial, hs_20, by rw [unpk_fin hz1 (show uE b = some vs by rw [← hE, show cnt = 0 by omega, exL]), if_neg (by simpa using hc_4)]⟩
          · refine CW.skip ?_
            refine CW.seq ?_
            refine CW.seq ?_
            refine CW.region ?_
            refine RT.ev rfl rfl (Ev.move rfl) <| RT.ev rfl rfl (Ev.assign rfl) <| RT.ev rfl rfl (Ev.assign rfl) ?_
            refine RT.nil ?_
            refine CW.ret ?_
            show PostK _ _ _ _ _ _
            refine post2 rfl rfl rfl ?_
            have hfin := unpk_fin hz1 (show uE b = some vs by rw [← hE, show cnt = 0 by omega, exL])
            rw [if_pos (by simpa using hc_4)] at hfin
            have hs_21 : Sat w [cL r_4 3 (encN .i64) (vs)] w_15 := hs_19.sub ((.cons _ (.cons_cons _ (.cons _ .slnil))))
            exact .inl ⟨_, _, hfin, rfl, hs_21⟩
  · rintro L' w_16 ⟨hw_3, hs_22, hno⟩
    refine CW.weaken _ hw_3 ?_
    refine CW.seq ?_
    refine CW.skip ?_
    refine CW.seq ?_
    refine CW.region ?_
    refine RT.ev rfl rfl (Ev.assign rfl) <| RT.ev rfl rfl (Ev.assign rfl) ?_
    refine RT.nil ?_
    refine CW.ret ?_
    show PostK _ _ _ _ _ _
    refine post2 rfl rfl rfl ?_
    exact .inr ⟨hno, rfl, hs_22⟩

end Go.Proofs.Ytfhbflhnelbkfaa
