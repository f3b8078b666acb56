/- The walks of the functions of F02s, printed by our own program (kwgen.py) out of our descriptions (base.py). -/
import Derived.Test.YtfhbflhnelbkfaaMz
import Derived.Test.YtfhbflhnelbkfaaF03
import Derived.Test.YtfhbflhnelbkfaaKy
import Derived.Test.YtfhbflhnelbkfaaTab
namespace Go.Proofs.Ytfhbflhnelbkfaa
open Go.RowKit Go.Kw
set_option maxRecDepth 100000
set_option linter.unusedVariables false
set_option linter.unusedSimpArgs false
theorem ruv_ok (v : Nat) (w : World) (hv : v < 2 ^ 64) :
    CallsV Try.prog 87 [(Value.int .u64 ((v : Nat) : Int))] w fun r w' => Sat w [cL r 5 (encN .u8) (uv v)] w' := by
  have hs0 := Sat.start w
  refine callsV_of Try.func87 rfl rfl ?_
  refine CW.seq ?_
  refine CW.region ?_
  refine RT.ev rfl rfl (Ev.assign rfl) ?_
  refine RT.nil ?_
  refine CW.seq ?_
  refine CW.region ?_
  refine RT.ev rfl rfl (Ev.assign rfl) ?_
  refine RT.nil ?_
  refine CW.seq ?_
  refine CW.block ?_
  have hs_1 : Sat w [cL (Value.slice none 0 0) 5 (encN .u8) ([])] _ := hs0.newNilL 5 (encN .u8)
  refine CW.loop (α := Nat × Value × List Nat) (fun (v2, out, acc) => [(0, (Value.int .u64 ((v2 : Nat) : Int))), (3, out)]) (fun (v2, out, acc) w' => Sat w [cL out 5 (encN .u8) (acc)] w' ∧ (v2 < 2 ^ 64) ∧ (acc ++ uv v2 = uv v)) (fun (v2, out, acc) => v2) (v, (Value.slice none 0 0), []) ⟨rfl, rfl, trivial⟩ ⟨hs_1, hv, rfl⟩ ?_
  rintro ⟨v2, out, acc⟩ w_1 ⟨hs_2, hv2, hacc⟩
  show CW _ _ _ _ [(0, (Value.int .u64 ((v2 : Nat) : Int))), (3, out)] _
  have hl2 := congrArg List.length hacc
  simp only [List.length_append] at hl2
  have hu1 := uv_le v
  have hu2 := uv_pos v2
  refine CW.seq ?_
  refine CW.seq ?_
  refine CW.region ?_
  refine RT.ev rfl rfl (Ev.move rfl) <| RT.ev rfl rfl (Ev.geqN (b := 128) rfl rfl) ?_
  refine RT.nil ?_
  refine CW.condD rfl (fun hc_1 => ?_) (fun hc_1 => ?_)
  · refine CW.skip ?_
    refine CW.block ?_
    refine CW.seq ?_
    refine CW.region ?_
    refine RT.ev rfl rfl (Ev.move rfl) <| RT.ev rfl rfl (Ev.move rfl) <| RT.ev rfl rfl (Ev.rem (b := 128) rfl rfl (by omega)) <| RT.ev rfl rfl (Ev.convN (by rw [Try.underlying108]; rfl) Try.underlying5 rfl rfl) <| RT.ev rfl rfl (Ev.addN (b := 128) rfl rfl rfl) ?_
    refine RT.eff rfl rfl (OpE.lit1 (encN .u8) ((((v2 % 128) % 2 ^ 8) + 128) % 2 ^ 8) sl40 rfl hs_2 rfl fun v_1 w_2 hs_3 hch_1 => ?_)
    have hs_3d : Sat w [cL out 5 (encN .u8) (acc), cL v_1 5 (encN .u8) ([((((v2 % 128) % 2 ^ 8) + 128) % 2 ^ 8)])] _ := hs_3
    refine RT.eff rfl rfl (OpE.appendL 0 sl40 hs_3d rfl rfl rfl Try.underlying40 (hs_3d.rdL 1 rfl) (by simp; omega) (by simp; omega) fun v_2 w_3 hs_4 hch_2 => ?_)
    have hs_4d : Sat w [cL v_2 5 (encN .u8) (acc ++ [((((v2 % 128) % 2 ^ 8) + 128) % 2 ^ 8)])] _ := hs_4.drop 1
    refine RT.ev rfl rfl (Ev.assign rfl) ?_
    refine RT.nil ?_
    refine CW.region ?_
    refine RT.ev rfl rfl (Ev.move rfl) <| RT.ev rfl rfl (Ev.quoN (b := 128) rfl rfl rfl (by omega) (by (try simp only [IntKind.bits]); omega)) <| RT.ev rfl rfl (Ev.assign rfl) ?_
    refine RT.nil ?_
    exact ⟨((v2 / 128), v_2, acc ++ [((((v2 % 128) % 2 ^ 8) + 128) % 2 ^ 8)]), ⟨rfl, rfl, trivial⟩, ⟨hs_4d, by omega, by rw [← hacc, uv_stepR hv2 hc_1, show ((((v2 % 128) % 2 ^ 8) + 128) % 2 ^ 8) = v2 % 128 + 128 by omega]; simp⟩, (show (((v2 / 128))) < (v2) from by omega)⟩
  · refine CW.exit0 ?_
    refine CW.seq ?_
    refine CW.region ?_
    refine RT.ev rfl rfl (Ev.move rfl) <| RT.ev rfl rfl (Ev.move rfl) <| RT.ev rfl rfl (Ev.convN (by rw [Try.underlying108]; rfl) Try.underlying5 rfl rfl) ?_
    refine RT.eff rfl rfl (OpE.lit1 (encN .u8) (v2 % 2 ^ 8) sl40 rfl hs_2 rfl fun v_3 w_4 hs_5 hch_3 => ?_)
    have hs_5d : Sat w [cL out 5 (encN .u8) (acc), cL v_3 5 (encN .u8) ([(v2 % 2 ^ 8)])] _ := hs_5
    refine RT.eff rfl rfl (OpE.appendL 0 sl40 hs_5d rfl rfl rfl Try.underlying40 (hs_5d.rdL 1 rfl) (by simp; omega) (by simp; omega) fun v_4 w_5 hs_6 hch_4 => ?_)
    have hs_6d : Sat w [cL v_4 5 (encN .u8) (acc ++ [(v2 % 2 ^ 8)])] _ := hs_6.drop 1
    refine RT.ev rfl rfl (Ev.assign rfl) ?_
    refine RT.nil ?_
    refine CW.ret ?_
    show PostK _ _ _ _ _ _
    refine post1 rfl rfl ?_
    have hq : acc ++ [(v2 % 2 ^ 8)] = uv v := by rw [← hacc, uv_smallR (by omega)] <;> (first | rfl | (congr 1; simp; omega))
    rw [← hq]; exact hs_6d

theorem rlow_ok (x m : Nat) (w : World) (hx : x < 2 ^ 64) (hm : m ≤ 64) :
    CallsV Try.prog 146 [(Value.int .u64 ((x : Nat) : Int)), (Value.int .i64 ((m : Nat) : Int))] w fun r w' => Sat w [cL r 4 encB (lowB x m)] w' := by
  have hs0 := Sat.start w
  refine callsV_of Try.func146 rfl rfl ?_
  refine CW.seq ?_
  refine CW.region ?_
  refine RT.ev rfl rfl (Ev.assign rfl) ?_
  refine RT.nil ?_
  refine CW.seq ?_
  refine CW.region ?_
  refine RT.ev rfl rfl (Ev.assign rfl) ?_
  refine RT.nil ?_
  refine CW.seq ?_
  refine CW.seq ?_
  refine CW.region ?_
  refine RT.ev rfl rfl (Ev.move rfl) <| RT.ev rfl rfl (Ev.sub (b := (1 : Int)) rfl rfl (by unfold inI64; omega)) <| RT.ev rfl rfl (Ev.assign rfl) ?_
  refine RT.nil ?_
  refine CW.block ?_
  have hs_1 : Sat w [cL (Value.slice none 0 0) 4 (encB) ([])] _ := hs0.newNilL 4 (encB)
  refine CW.loop (α := Nat × Value × List Bool) (fun (m1, out, acc) => [(0, (Value.int .u64 ((x : Nat) : Int))), (5, out), (6, (Value.int .i64 ((((m1 : Nat) : Int) - 1))))]) (fun (m1, out, acc) w' => Sat w [cL out 4 (encB) (acc)] w' ∧ (m1 ≤ m) ∧ (acc ++ lowB x m1 = lowB x m)) (fun (m1, out, acc) => m1) (m, (Value.slice none 0 0), []) ⟨rfl, rfl, rfl, trivial⟩ ⟨hs_1, Nat.le_refl _, rfl⟩ ?_
  rintro ⟨m1, out, acc⟩ w_1 ⟨hs_2, hm1, hacc⟩
  show CW _ _ _ _ [(0, (Value.int .u64 ((x : Nat) : Int))), (5, out), (6, (Value.int .i64 ((((m1 : Nat) : Int) - 1))))] _
  refine CW.seq ?_
  refine CW.seq ?_
  refine CW.region ?_
  refine RT.ev rfl rfl (Ev.move rfl) <| RT.ev rfl rfl (Ev.geq rfl rfl) ?_
  refine RT.nil ?_
  refine CW.condD rfl (fun hc_1 => ?_) (fun hc_1 => ?_)
  · refine CW.skip ?_
    refine CW.seq ?_
    refine CW.block ?_
    obtain ⟨j, rfl⟩ : ∃ j, m1 = j + 1 := ⟨m1 - 1, by omega⟩
    refine CW.weaken [(0, _), (5, _), (6, (Value.int .i64 ((j : Nat) : Int))), (9, _), (10, _)] ⟨rfl, rfl, congrArg some (congrArg (Value.int .i64) (by omega)), rfl, rfl, trivial⟩ ?_
    have hl2 := congrArg List.length hacc
    simp only [List.length_append, lowB_length] at hl2
    refine CW.region ?_
    refine RT.ev rfl rfl (Ev.move rfl) <| RT.ev rfl rfl (Ev.move rfl) <| RT.ev rfl rfl (Ev.move rfl) <| RT.ev rfl rfl (Ev.convK (by rw [Try.underlying3]; rfl) Try.underlying138 rfl (wrap_u rfl (by (try simp only [IntKind.bits]); omega))) <| RT.ev rfl rfl (Ev.shrN rfl rfl (hx)) <| RT.ev rfl rfl (Ev.maskN (b := 1) 1 rfl rfl rfl (by decide) (Nat.lt_of_le_of_lt (Nat.div_le_self _ _) hx) (by decide)) <| RT.ev rfl rfl (Ev.eqlN (b := 1) rfl rfl) ?_
    refine RT.eff rfl rfl (OpE.lit1 (encB) (decide (((x / 2 ^ j) % 2 ^ 1) = 1)) sl180 rfl hs_2 rfl fun v_1 w_2 hs_3 hch_1 => ?_)
    have hs_3d : Sat w [cL out 4 (encB) (acc), cL v_1 4 (encB) ([decide (((x / 2 ^ j) % 2 ^ 1) = 1)])] _ := hs_3
    refine RT.eff rfl rfl (OpE.appendL 0 sl180 hs_3d rfl rfl rfl Try.underlying180 (hs_3d.rdL 1 rfl) (by simp; omega) (by simp; omega) fun v_2 w_3 hs_4 hch_2 => ?_)
    have hs_4d : Sat w [cL v_2 4 (encB) (acc ++ [decide (((x / 2 ^ j) % 2 ^ 1) = 1)])] _ := hs_4.drop 1
    refine RT.ev rfl rfl (Ev.assign rfl) ?_
    refine RT.nil ?_
    refine CW.region ?_
    refine RT.ev rfl rfl (Ev.move rfl) <| RT.ev rfl rfl (Ev.sub (b := (1 : Int)) rfl rfl (by unfold inI64; omega)) <| RT.ev rfl rfl (Ev.assign rfl) ?_
    refine RT.nil ?_
    exact ⟨(j, v_2, acc ++ [decide (((x / 2 ^ j) % 2 ^ 1) = 1)]), ⟨rfl, rfl, rfl, trivial⟩, ⟨hs_4d, by omega, by rw [← hacc]; simp [lowB]⟩, (show ((j)) < (j + 1) from by omega)⟩
  · refine CW.exit0 ?_
    refine CW.seq ?_
    refine CW.region ?_
    refine RT.ev rfl rfl (Ev.move rfl) <| RT.ev rfl rfl (Ev.assign rfl) ?_
    refine RT.nil ?_
    refine CW.ret ?_
    show PostK _ _ _ _ _ _
    refine post1 rfl rfl ?_
    have h0 : m1 = 0 := by omega
    subst h0
    rw [show acc = lowB x m by rw [← hacc]; simp [lowB]] at hs_2
    exact hs_2

theorem rpack_ok (v : Value) (l : List Bool) (w : World) (hv : RdL w v encB l) (hn : l.length ≤ 1000000000) :
    CallsV Try.prog 147 [v] w fun r w' => Sat w [cL r 5 (encN .u8) (packB l)] w' := by
  have hs0 := Sat.start w
  refine callsV_of Try.func147 rfl rfl ?_
  refine CW.seq ?_
  refine CW.region ?_
  refine RT.ev rfl rfl (Ev.assign rfl) ?_
  refine RT.nil ?_
  refine CW.seq ?_
  refine CW.region ?_
  refine RT.ev rfl rfl (Ev.move rfl) <| RT.ev rfl rfl (Ev.lenL Try.underlying180 rfl (hv.ext hs0.ext)) <| RT.ev rfl rfl (Ev.addI (b := 7) rfl rfl (by omega)) <| RT.ev rfl rfl (Ev.quo (b := 8) rfl rfl (by omega) (by unfold inI64; omega)) ?_
  refine RT.eff rfl rfl (OpE.makeL (encN .u8) (0) sl40 rfl hs0 rfl rfl (by omega) (by omega) (by omega) fun v_1 w_1 hs_1 hch_1 => ?_)
  have hs_1d : Sat w [cL v_1 5 (encN .u8) (List.replicate (((l.length + 7) / 8)) 0)] _ := hs_1
  refine RT.ev rfl rfl (Ev.assign rfl) ?_
  refine RT.nil ?_
  refine CW.seq ?_
  refine CW.seq ?_
  refine CW.region ?_
  refine RT.ev rfl rfl (Ev.move rfl) <| RT.ev rfl rfl (Ev.lenL Try.underlying180 rfl (hv.ext hs_1d.ext)) <| RT.ev rfl rfl (Ev.move rfl) ?_
  refine RT.nil ?_
  refine CW.block ?_
  have hs_2 : Sat w [cL v_1 5 (encN .u8) (pkT l 0)] w_1 := by
    have hq : List.replicate (((l.length + 7) / 8)) 0 = pkT l 0 := by rw [pkT_zero]
    rw [← hq]; exact hs_1d
  refine CW.loop (α := Nat) (fun k => [(3, v_1), (11, v), (12, (Value.int .i64 ((l.length : Nat) : Int))), (13, (Value.int .i64 ((k : Nat) : Int)))]) (fun k w' => Sat w [cL v_1 5 (encN .u8) (pkT l k)] w' ∧ (k ≤ l.length)) (fun k => l.length - k) 0 ⟨rfl, rfl, rfl, rfl, trivial⟩ ⟨hs_2, Nat.zero_le _⟩ ?_
  rintro k w_2 ⟨hs_3, hk⟩
  show CW _ _ _ _ [(3, v_1), (11, v), (12, (Value.int .i64 ((l.length : Nat) : Int))), (13, (Value.int .i64 ((k : Nat) : Int)))] _
  refine CW.seq ?_
  refine CW.region ?_
  refine RT.ev rfl rfl (Ev.lssN rfl rfl) ?_
  refine RT.nil ?_
  refine CW.seq ?_
  refine CW.condD rfl (fun hc_1 => ?_) (fun hc_1 => ?_)
  · refine CW.skip ?_
    refine CW.seq ?_
    refine CW.block ?_
    refine CW.seq ?_
    obtain ⟨x, hx⟩ : ∃ x, (l)[k]? = some x := ⟨_, List.getElem?_eq_getElem hc_1⟩
    refine CW.region ?_
    refine RT.ev rfl rfl (Ev.move rfl) <| RT.ev rfl rfl (Ev.idxL (E := encB) sl180 rfl rfl (hv.ext hs_3.ext) (by omega)) <| RT.ev rfl rfl (Ev.ldL (E := encB) scal4 rfl (hv.ext hs_3.ext) hx (by decide) rfl) <| RT.ev rfl rfl (Ev.assign rfl) <| RT.ev rfl rfl (Ev.assign rfl) ?_
    refine RT.nil ?_
    refine CW.seq ?_
    refine CW.region ?_
    refine RT.ev rfl rfl (Ev.move rfl) ?_
    refine RT.nil ?_
    refine CW.cond rfl (fun hc_2 => ?_) (fun hc_2 => ?_)
    · have hgt := pkT_get (lt_of_get hx)
      have hbl := byteAt_lt (l.take k) (k / 8)
      have hdl := Nat.div_le_self 128 (2 ^ (k % 8))
      refine CW.region ?_
      refine RT.ev rfl rfl (Ev.move rfl) <| RT.ev rfl rfl (Ev.move rfl) <| RT.ev rfl rfl (Ev.quo (b := 8) rfl rfl (by omega) (by unfold inI64; omega)) <| RT.ev rfl rfl (Ev.idxL (E := encN .u8) sl40 rfl rfl (hs_3.rdL 0 rfl) (by rw [pkT_length]; omega)) <| RT.ev rfl rfl (Ev.ldL (E := encN .u8) scal5 rfl (hs_3.rdL 0 rfl) hgt (by decide) rfl) <| RT.ev rfl rfl (Ev.move rfl) <| RT.ev rfl rfl (Ev.rem (b := 8) rfl rfl (by omega)) <| RT.ev rfl rfl (Ev.convK (by rw [Try.underlying3]; rfl) Try.underlying138 rfl (wrap_u rfl (by (try simp only [IntKind.bits]); omega))) <| RT.ev rfl rfl (Ev.shrN (a := 128) rfl rfl (by (try simp only [IntKind.bits]); omega)) <| RT.ev rfl rfl (Ev.orN rfl rfl rfl (by (try simp only [IntKind.bits]); omega) (by (try simp only [IntKind.bits]); omega)) <| RT.ev rfl rfl (Ev.idxL (E := encN .u8) sl40 rfl rfl (hs_3.rdL 0 rfl) (by rw [pkT_length]; omega)) ?_
      refine RT.eff rfl rfl (OpE.setL (a := ((byteAt (l.take k) (k / 8)) ||| (128 / 2 ^ (k % 8)))) 0 one5 hs_3 rfl rfl rfl rfl (by rw [pkT_length]; omega) fun w_3 hs_4 hch_2 => ?_)
      have hs_4d : Sat w [cL v_1 5 (encN .u8) ((pkT l k).set (k / 8) ((byteAt (l.take k) (k / 8)) ||| (128 / 2 ^ (k % 8))))] _ := hs_4
      refine RT.nil ?_
      refine CW.region ?_
      refine RT.ev rfl rfl (Ev.addI (b := 1) rfl rfl (by omega)) <| RT.ev rfl rfl (Ev.move rfl) ?_
      refine RT.nil ?_
      have hs_5 : Sat w [cL v_1 5 (encN .u8) (pkT l (k + 1))] w_3 := by
        have hq : (pkT l k).set (k / 8) ((byteAt (l.take k) (k / 8)) ||| (128 / 2 ^ (k % 8))) = pkT l (k + 1) := by rw [pkT_true (by rw [hx, hc_2])]
        rw [← hq]; exact hs_4d
      exact ⟨k + 1, ⟨rfl, rfl, rfl, rfl, trivial⟩, ⟨hs_5, by omega⟩, (show (l.length - (k + 1)) < (l.length - k) from by omega)⟩
    · refine CW.skip ?_
      refine CW.region ?_
      refine RT.ev rfl rfl (Ev.addI (b := 1) rfl rfl (by omega)) <| RT.ev rfl rfl (Ev.move rfl) ?_
      refine RT.nil ?_
      have hs_6 : Sat w [cL v_1 5 (encN .u8) (pkT l (k + 1))] w_2 := by
        have hq : pkT l k = pkT l (k + 1) := by rw [pkT_false (by rw [hx]; simpa using hc_2)]
        rw [← hq]; exact hs_3
      exact ⟨k + 1, ⟨rfl, rfl, rfl, rfl, trivial⟩, ⟨hs_6, by omega⟩, (show (l.length - (k + 1)) < (l.length - k) from by omega)⟩
  · refine CW.exit0 ?_
    refine CW.seq ?_
    refine CW.region ?_
    refine RT.ev rfl rfl (Ev.move rfl) <| RT.ev rfl rfl (Ev.assign rfl) ?_
    refine RT.nil ?_
    refine CW.ret ?_
    show PostK _ _ _ _ _ _
    refine post1 rfl rfl ?_
    have hs_7 : Sat w [cL v_1 5 (encN .u8) (packB l)] w_2 := by
      have hq : pkT l k = packB l := by rw [show k = l.length by omega, pkT_all]
      rw [← hq]; exact hs_3
    exact hs_7

theorem rstep_ok (v : Nat) (w : World) (hv : v < 4294967296) :
    CallsV Try.prog 150 [(Value.int .u32 ((v : Nat) : Int))] w fun r w' => r = .int .u32 (stepN v 8 : Nat) ∧ Sat w [] w' := by
  have hs0 := Sat.start w
  refine callsV_of Try.func150 rfl rfl ?_
  refine CW.seq ?_
  refine CW.region ?_
  refine RT.ev rfl rfl (Ev.assign rfl) ?_
  refine RT.nil ?_
  refine CW.seq ?_
  refine CW.seq ?_
  refine CW.region ?_
  refine RT.ev rfl rfl (Ev.assign rfl) ?_
  refine RT.nil ?_
  refine CW.block ?_
  refine CW.loop (α := Nat × Nat) (fun (k, u) => [(0, (Value.int .u32 ((u : Nat) : Int))), (3, (Value.int .i64 ((k : Nat) : Int)))]) (fun (k, u) w' => Sat w [] w' ∧ (k ≤ 8) ∧ (u = stepN v k) ∧ (u < 4294967296)) (fun (k, u) => 8 - k) (0, v) ⟨rfl, rfl, trivial⟩ ⟨hs0, Nat.zero_le _, rfl, hv⟩ ?_
  rintro ⟨k, u⟩ w_1 ⟨hs_1, hk, hu, hub⟩
  show CW _ _ _ _ [(0, (Value.int .u32 ((u : Nat) : Int))), (3, (Value.int .i64 ((k : Nat) : Int)))] _
  refine CW.seq ?_
  refine CW.seq ?_
  refine CW.region ?_
  refine RT.ev rfl rfl (Ev.move rfl) <| RT.ev rfl rfl (Ev.lssN (b := 8) rfl rfl) ?_
  refine RT.nil ?_
  refine CW.condD rfl (fun hc_1 => ?_) (fun hc_1 => ?_)
  · refine CW.skip ?_
    refine CW.seq ?_
    refine CW.block ?_
    refine CW.seq ?_
    refine CW.region ?_
    refine RT.ev rfl rfl (Ev.move rfl) <| RT.ev rfl rfl (Ev.maskN (b := 1) 1 rfl rfl rfl (by decide) (by (try simp only [IntKind.bits]); omega) (by decide)) <| RT.ev rfl rfl (Ev.eqlN (b := 1) rfl rfl) ?_
    refine RT.nil ?_
    refine CW.condD rfl (fun hc_2 => ?_) (fun hc_2 => ?_)
    · refine CW.region ?_
      refine RT.ev rfl rfl (Ev.move rfl) <| RT.ev rfl rfl (Ev.shrN (b := 1) rfl rfl (by (try simp only [IntKind.bits]); omega)) <| RT.ev rfl rfl (Ev.xorN (b := 2197175160) rfl rfl rfl (by (try simp only [IntKind.bits]); omega) (by (try simp only [IntKind.bits]); omega)) <| RT.ev rfl rfl (Ev.assign rfl) ?_
      refine RT.nil ?_
      refine CW.region ?_
      refine RT.ev rfl rfl (Ev.move rfl) <| RT.ev rfl rfl (Ev.addI (b := 1) rfl rfl (by omega)) <| RT.ev rfl rfl (Ev.assign rfl) ?_
      refine RT.nil ?_
      exact ⟨(k + 1, ((u / 2 ^ 1) ^^^ 2197175160)), ⟨rfl, rfl, trivial⟩, ⟨hs_1, by omega, by rw [stepN, ← hu]; simp [st1, hc_2], by have := st1_lt hub; simpa [st1, hc_2] using this⟩, (show (8 - (k + 1)) < (8 - k) from by omega)⟩
    · refine CW.region ?_
      refine RT.ev rfl rfl (Ev.move rfl) <| RT.ev rfl rfl (Ev.shrN (b := 1) rfl rfl (by (try simp only [IntKind.bits]); omega)) <| RT.ev rfl rfl (Ev.assign rfl) ?_
      refine RT.nil ?_
      refine CW.region ?_
      refine RT.ev rfl rfl (Ev.move rfl) <| RT.ev rfl rfl (Ev.addI (b := 1) rfl rfl (by omega)) <| RT.ev rfl rfl (Ev.assign rfl) ?_
      refine RT.nil ?_
      exact ⟨(k + 1, (u / 2 ^ 1)), ⟨rfl, rfl, trivial⟩, ⟨hs_1, by omega, by rw [stepN, ← hu]; simp [st1, hc_2], by have := st1_lt hub; simpa [st1, hc_2] using this⟩, (show (8 - (k + 1)) < (8 - k) from by omega)⟩
  · refine CW.exit0 ?_
    refine CW.seq ?_
    refine CW.region ?_
    refine RT.ev rfl rfl (Ev.move rfl) <| RT.ev rfl rfl (Ev.assign rfl) ?_
    refine RT.nil ?_
    refine CW.ret ?_
    show PostK _ _ _ _ _ _
    refine post1 rfl rfl ?_
    rw [show k = 8 by omega] at hu
    exact ⟨by rw [hu], hs_1⟩

theorem rsum_ok (v : Value) (l : List Nat) (w : World) (hv : RdL w v (encN .u8) l) (hb : ∀ x ∈ l, x < 256) (hn : l.length ≤ 1000000000) :
    CallsV Try.prog 110 [v] w fun r w' => r = .int .u32 (sumN l : Nat) ∧ Sat w [] w' := by
  have hs0 := Sat.start w
  refine callsV_of Try.func110 rfl rfl ?_
  refine CW.seq ?_
  refine CW.region ?_
  refine RT.ev rfl rfl (Ev.assign rfl) ?_
  refine RT.nil ?_
  refine CW.seq ?_
  refine CW.region ?_
  refine RT.ev rfl rfl (Ev.assign rfl) ?_
  refine RT.nil ?_
  refine CW.seq ?_
  refine CW.seq ?_
  refine CW.region ?_
  refine RT.ev rfl rfl (Ev.move rfl) <| RT.ev rfl rfl (Ev.lenL Try.underlying40 rfl (hv.ext hs0.ext)) <| RT.ev rfl rfl (Ev.move rfl) ?_
  refine RT.nil ?_
  refine CW.block ?_
  refine CW.loop (α := Nat × Nat) (fun (k, u) => [(3, (Value.int .u32 ((u : Nat) : Int))), (6, v), (7, (Value.int .i64 ((l.length : Nat) : Int))), (8, (Value.int .i64 ((k : Nat) : Int)))]) (fun (k, u) w' => Sat w [] w' ∧ (k ≤ l.length) ∧ (u = crcF (l.take k)) ∧ (u < 4294967296)) (fun (k, u) => l.length - k) (0, 4294967295) ⟨rfl, rfl, rfl, rfl, trivial⟩ ⟨hs0, Nat.zero_le _, rfl, by omega⟩ ?_
  rintro ⟨k, u⟩ w_1 ⟨hs_1, hk, hu, hub⟩
  show CW _ _ _ _ [(3, (Value.int .u32 ((u : Nat) : Int))), (6, v), (7, (Value.int .i64 ((l.length : Nat) : Int))), (8, (Value.int .i64 ((k : Nat) : Int)))] _
  refine CW.seq ?_
  refine CW.region ?_
  refine RT.ev rfl rfl (Ev.lssN rfl rfl) ?_
  refine RT.nil ?_
  refine CW.seq ?_
  refine CW.condD rfl (fun hc_1 => ?_) (fun hc_1 => ?_)
  · refine CW.skip ?_
    refine CW.seq ?_
    refine CW.block ?_
    refine CW.seq ?_
    obtain ⟨x, hx⟩ : ∃ x, (l)[k]? = some x := ⟨_, List.getElem?_eq_getElem hc_1⟩
    refine CW.region ?_
    refine RT.ev rfl rfl (Ev.idxL (E := encN .u8) sl40 rfl rfl (hv.ext hs_1.ext) (by omega)) <| RT.ev rfl rfl (Ev.ldL (E := encN .u8) scal5 rfl (hv.ext hs_1.ext) hx (by decide) rfl) <| RT.ev rfl rfl (Ev.assign rfl) ?_
    refine RT.nil ?_
    have hxb := hb x (mem_of_get hx)
    have haa : u ^^^ x < 4294967296 := xor_lt32 hub (by omega)
    refine CW.region ?_
    refine RT.ev rfl rfl (Ev.move rfl) <| RT.ev rfl rfl (Ev.move rfl) <| RT.ev rfl rfl (Ev.convK (by rw [Try.underlying5]; rfl) Try.underlying132 rfl (wrap_u rfl (by (try simp only [IntKind.bits]); omega))) <| RT.ev rfl rfl (Ev.xorN rfl rfl rfl (by (try simp only [IntKind.bits]); omega) (by (try simp only [IntKind.bits]); omega)) ?_
    refine RT.eff rfl rfl (OpE.call ent150 rfl ((rstep_ok ((u ^^^ x)) _ (haa)).mono fun r_1 w_2 h_1 => ?_))
    obtain ⟨rfl, hp_1⟩ := h_1
    have hs_2 : Sat w [] _ := hs_1.adds hp_1
    refine RT.ev rfl rfl (Ev.assign rfl) ?_
    refine RT.nil ?_
    refine CW.region ?_
    refine RT.ev rfl rfl (Ev.addI (b := 1) rfl rfl (by omega)) <| RT.ev rfl rfl (Ev.move rfl) ?_
    refine RT.nil ?_
    exact ⟨(k + 1, (stepN ((u ^^^ x)) 8)), ⟨rfl, rfl, rfl, rfl, trivial⟩, ⟨hs_2, by omega, by rw [take_succ_of hx, crcF_snoc, ← hu, stepN_eight], stepN_lt haa 8⟩, (show (l.length - (k + 1)) < (l.length - k) from by omega)⟩
  · refine CW.exit0 ?_
    refine CW.seq ?_
    refine CW.region ?_
    refine RT.ev rfl rfl (Ev.move rfl) <| RT.ev rfl rfl (Ev.not32 rfl (by omega)) <| RT.ev rfl rfl (Ev.assign rfl) ?_
    refine RT.nil ?_
    refine CW.ret ?_
    show PostK _ _ _ _ _ _
    refine post1 rfl rfl ?_
    have hs_3 : Sat w [] w_1 := hs_1.sub (.slnil)
    rw [show k = l.length by omega, List.take_length] at hu
    exact ⟨by rw [hu]; rfl, hs_3⟩

theorem rseal_ok (v : Value) (l : List Nat) (w : World) (hv : RdL w v (encN .u8) l) (hb : ∀ x ∈ l, x < 256) (hn : l.length ≤ 1000000000) :
    CallsV Try.prog 68 [v] w fun r w' => Sat w [cL r 5 (encN .u8) (sealN l)] w' := by
  have hs0 := Sat.start w
  refine callsV_of Try.func68 rfl rfl ?_
  refine CW.seq ?_
  refine CW.region ?_
  refine RT.ev rfl rfl (Ev.assign rfl) ?_
  refine RT.nil ?_
  refine CW.seq ?_
  refine CW.region ?_
  refine RT.ev rfl rfl (Ev.move rfl) ?_
  refine RT.eff rfl rfl (OpE.call ent110 rfl ((rsum_ok _ (l) _ (hv.ext hs0.ext) (hb) (hn)).mono fun r_1 w_1 h_1 => ?_))
  obtain ⟨rfl, hp_1⟩ := h_1
  have hs_1 : Sat w [] _ := hs0.adds hp_1
  refine RT.ev rfl rfl (Ev.assign rfl) ?_
  refine RT.nil ?_
  refine CW.seq ?_
  have hsl := sumN_lt hb
  refine CW.region ?_
  refine RT.ev rfl rfl (Ev.move rfl) ?_
  have hs_2 : Sat w [cL (Value.slice none 0 0) 5 (encN .u8) ([])] _ := hs_1.newNilL 5 (encN .u8)
  refine RT.eff rfl rfl (OpE.appendL 0 sl40 hs_2 rfl rfl rfl Try.underlying40 (hv.ext hs_2.ext) (by simp; omega) (by simp; omega) fun v_1 w_2 hs_3 hch_1 => ?_)
  have hs_3d : Sat w [cL v_1 5 (encN .u8) (l)] _ := hs_3
  refine RT.ev rfl rfl (Ev.move rfl) <| RT.ev rfl rfl (Ev.convN (by rw [Try.underlying132]; rfl) Try.underlying5 rfl rfl) <| RT.ev rfl rfl (Ev.move rfl) <| RT.ev rfl rfl (Ev.shrN (b := 8) rfl rfl (by (try simp only [IntKind.bits]); omega)) <| RT.ev rfl rfl (Ev.convN (by rw [Try.underlying132]; rfl) Try.underlying5 rfl rfl) <| RT.ev rfl rfl (Ev.move rfl) <| RT.ev rfl rfl (Ev.shrN (b := 16) rfl rfl (by (try simp only [IntKind.bits]); omega)) <| RT.ev rfl rfl (Ev.convN (by rw [Try.underlying132]; rfl) Try.underlying5 rfl rfl) <| RT.ev rfl rfl (Ev.move rfl) <| RT.ev rfl rfl (Ev.shrN (b := 24) rfl rfl (by (try simp only [IntKind.bits]); omega)) <| RT.ev rfl rfl (Ev.convN (by rw [Try.underlying132]; rfl) Try.underlying5 rfl rfl) ?_
  refine RT.eff rfl rfl (OpE.litN (encN .u8) [((sumN (l)) % 2 ^ 8), (((sumN (l)) / 2 ^ 8) % 2 ^ 8), (((sumN (l)) / 2 ^ 16) % 2 ^ 8), (((sumN (l)) / 2 ^ 24) % 2 ^ 8)] sl40 rfl ⟨rfl, rfl, rfl, rfl, trivial⟩ rfl rfl rfl rfl (by decide) (by decide) hs_3d fun v_2 w_3 hs_4 hch_2 => ?_)
  have hs_4d : Sat w [cL v_1 5 (encN .u8) (l), cL v_2 5 (encN .u8) ([((sumN (l)) % 2 ^ 8), (((sumN (l)) / 2 ^ 8) % 2 ^ 8), (((sumN (l)) / 2 ^ 16) % 2 ^ 8), (((sumN (l)) / 2 ^ 24) % 2 ^ 8)])] _ := hs_4
  refine RT.eff rfl rfl (OpE.appendL 0 sl40 hs_4d rfl rfl rfl Try.underlying40 (hs_4d.rdL 1 rfl) (by simp; omega) (by simp; omega) fun v_3 w_4 hs_5 hch_3 => ?_)
  have hs_5d : Sat w [cL v_3 5 (encN .u8) (l ++ [((sumN (l)) % 2 ^ 8), (((sumN (l)) / 2 ^ 8) % 2 ^ 8), (((sumN (l)) / 2 ^ 16) % 2 ^ 8), (((sumN (l)) / 2 ^ 24) % 2 ^ 8)])] _ := hs_5.drop 1
  refine RT.ev rfl rfl (Ev.assign rfl) ?_
  refine RT.nil ?_
  refine CW.ret ?_
  show PostK _ _ _ _ _ _
  refine post1 rfl rfl ?_
  have hs_6 : Sat w [cL v_3 5 (encN .u8) (l ++ [((sumN (l)) % 2 ^ 8), (((sumN (l)) / 2 ^ 8) % 2 ^ 8), (((sumN (l)) / 2 ^ 16) % 2 ^ 8), (((sumN (l)) / 2 ^ 24) % 2 ^ 8)])] w_4 := hs_5d.sub ((.cons_cons _ .slnil))
  have hs_7 : Sat w [cL v_3 5 (encN .u8) (sealN l)] w_4 := by
    have hq : l ++ [((sumN (l)) % 2 ^ 8), (((sumN (l)) / 2 ^ 8) % 2 ^ 8), (((sumN (l)) / 2 ^ 16) % 2 ^ 8), (((sumN (l)) / 2 ^ 24) % 2 ^ 8)] = sealN l := by simp [sealN, byts]
    rw [← hq]; exact hs_6
  exact hs_7

end Go.Proofs.Ytfhbflhnelbkfaa

/- The walks of the functions of F15s, printed by our own program (kwgen.py) out of our descriptions (base.py). -/
namespace Go.Proofs.Ytfhbflhnelbkfaa
open Go.RowKit Go.Kw
set_option maxRecDepth 100000
set_option linter.unusedVariables false
set_option linter.unusedSimpArgs false
theorem rbcheck_ok (v : Value) (l : List Nat) (w : World) (hv : RdL w v (encN .i64) l) (hn : l.length ≤ 128) (hb : ∀ x ∈ l, x ≤ 2147483647) :
    CallsV Try.prog 178 [v] w fun r w' => r = .int .i64 ((0 : Nat) : Int) ∧ Sat w [] w' := by
  have hs0 := Sat.start w
  refine callsV_of Try.func178 rfl rfl ?_
  refine CW.seq ?_
  refine CW.region ?_
  refine RT.ev rfl rfl (Ev.assign rfl) ?_
  refine RT.nil ?_
  refine CW.seq ?_
  refine CW.seq ?_
  refine CW.region ?_
  refine RT.ev rfl rfl (Ev.move rfl) <| RT.ev rfl rfl (Ev.lenL Try.underlying22 rfl (hv.ext hs0.ext)) <| RT.ev rfl rfl (Ev.gtrN (b := 128) rfl rfl) ?_
  refine RT.nil ?_
  refine CW.condF rfl (decide_eq_false (by omega)) ?_
  refine CW.skip ?_
  refine CW.seq ?_
  refine CW.seq ?_
  refine CW.region ?_
  refine RT.ev rfl rfl (Ev.move rfl) <| RT.ev rfl rfl (Ev.lenL Try.underlying22 rfl (hv.ext hs0.ext)) <| RT.ev rfl rfl (Ev.move rfl) ?_
  refine RT.nil ?_
  refine CW.block ?_
  refine CW.loop (α := Nat) (fun k => [(8, v), (9, (Value.int .i64 ((l.length : Nat) : Int))), (10, (Value.int .i64 ((k : Nat) : Int)))]) (fun k w' => Sat w [] w' ∧ (k ≤ l.length)) (fun k => l.length - k) 0 ⟨rfl, rfl, rfl, trivial⟩ ⟨hs0, Nat.zero_le _⟩ ?_
  rintro k w_1 ⟨hs_1, hk⟩
  show CW _ _ _ _ [(8, v), (9, (Value.int .i64 ((l.length : Nat) : Int))), (10, (Value.int .i64 ((k : Nat) : Int)))] _
  refine CW.seq ?_
  refine CW.region ?_
  refine RT.ev rfl rfl (Ev.lssN rfl rfl) ?_
  refine RT.nil ?_
  refine CW.seq ?_
  refine CW.condD rfl (fun hc_1 => ?_) (fun hc_1 => ?_)
  · refine CW.skip ?_
    refine CW.seq ?_
    refine CW.block ?_
    refine CW.seq ?_
    obtain ⟨x, hx⟩ : ∃ x, (l)[k]? = some x := ⟨_, List.getElem?_eq_getElem hc_1⟩
    refine CW.region ?_
    refine RT.ev rfl rfl (Ev.idxL (E := encN .i64) sl22 rfl rfl (hv.ext hs_1.ext) (by omega)) <| RT.ev rfl rfl (Ev.ldL (E := encN .i64) scal3 rfl (hv.ext hs_1.ext) hx (by decide) rfl) <| RT.ev rfl rfl (Ev.assign rfl) ?_
    refine RT.nil ?_
    refine CW.seq ?_
    refine CW.mid (fun L' w' => Weak [(4, (Value.int .i64 ((x : Nat) : Int))), (8, v), (9, (Value.int .i64 ((l.length : Nat) : Int))), (10, (Value.int .i64 ((k : Nat) : Int))), (11, (Value.bool (decide (k < l.length)))), (19, (Value.bool (decide ((x < 0) ∨ (2147483647 < x)))))] L' ∧ Sat w [] w') ?_ ?_
    · refine CW.region ?_
      refine RT.ev rfl rfl (Ev.move rfl) <| RT.ev rfl rfl (Ev.lssN (b := 0) rfl rfl) <| RT.ev rfl rfl (Ev.move rfl) ?_
      by_cases hg_1 : x < 0
      · refine RT.no rfl rfl rfl (decide_eq_true hg_1) rfl ?_
        refine RT.no rfl rfl rfl (decide_eq_true hg_1) rfl ?_
        refine RT.ev rfl rfl (Ev.pickY rfl (decide_eq_true hg_1) rfl) ?_
        refine RT.nil ?_
        exact ⟨⟨rfl, rfl, rfl, rfl, rfl, congrArg some (congrArg Value.bool (by simp [hg_1])), trivial⟩, hs_1⟩
      · refine RT.yes rfl rfl rfl (decide_eq_false hg_1) ?_
        refine RT.ev rfl rfl (Ev.move rfl) ?_
        refine RT.yes rfl rfl rfl (decide_eq_false hg_1) ?_
        refine RT.ev rfl rfl (Ev.gtrN (b := 2147483647) rfl rfl) <| RT.ev rfl rfl (Ev.pickN rfl (decide_eq_false hg_1) rfl) ?_
        refine RT.nil ?_
        exact ⟨⟨rfl, rfl, rfl, rfl, rfl, congrArg some (congrArg Value.bool (by simp [hg_1])), trivial⟩, hs_1⟩
    · rintro L' w_2 ⟨hw_1, hs_2⟩
      refine CW.weaken _ hw_1 ?_
      refine CW.condF rfl (decide_eq_false (by have := hb x (mem_of_get hx); omega)) ?_
      refine CW.skip ?_
      refine CW.region ?_
      refine RT.ev rfl rfl (Ev.addI (b := 1) rfl rfl (by omega)) <| RT.ev rfl rfl (Ev.move rfl) ?_
      refine RT.nil ?_
      exact ⟨k + 1, ⟨rfl, rfl, rfl, trivial⟩, ⟨hs_2, by omega⟩, (show (l.length - (k + 1)) < (l.length - k) from by omega)⟩
  · refine CW.exit0 ?_
    refine CW.seq ?_
    refine CW.region ?_
    refine RT.ev rfl rfl (Ev.assign rfl) ?_
    refine RT.nil ?_
    refine CW.ret ?_
    show PostK _ _ _ _ _ _
    refine post1 rfl rfl ?_
    exact ⟨rfl, hs_1⟩

theorem rbytes_ok (v : Value) (l : List Nat) (width : Nat) (w : World) (hv : RdL w v (encN .i64) l) (hn : l.length ≤ 4096) (hb : ∀ x ∈ l, x < 2 ^ 63) (hw : width ≤ 31) :
    CallsV Try.prog 148 [v, (Value.int .i64 ((width : Nat) : Int))] w fun r w' => Sat w [cL r 5 (encN .u8) (encBk width l)] w' := by
  have hs0 := Sat.start w
  refine callsV_of Try.func148 rfl rfl ?_
  refine CW.seq ?_
  refine CW.region ?_
  refine RT.ev rfl rfl (Ev.assign rfl) ?_
  refine RT.nil ?_
  refine CW.seq ?_
  refine CW.region ?_
  refine RT.ev rfl rfl (Ev.assign rfl) ?_
  refine RT.nil ?_
  refine CW.seq ?_
  refine CW.region ?_
  refine RT.ev rfl rfl (Ev.assign rfl) ?_
  refine RT.nil ?_
  refine CW.seq ?_
  refine CW.region ?_
  refine RT.ev rfl rfl (Ev.assign rfl) <| RT.ev rfl rfl (Ev.assign rfl) ?_
  refine RT.nil ?_
  refine CW.seq ?_
  refine CW.seq ?_
  refine CW.region ?_
  refine RT.ev rfl rfl (Ev.move rfl) <| RT.ev rfl rfl (Ev.lenL Try.underlying22 rfl (hv.ext hs0.ext)) <| RT.ev rfl rfl (Ev.move rfl) ?_
  refine RT.nil ?_
  refine CW.block ?_
  have hs_1 : Sat w [cL (Value.slice none 0 0) 4 (encB) ([])] _ := hs0.newNilL 4 (encB)
  have hs_2 : Sat w [cL (Value.slice none 0 0) 4 (encB) ([]), cL (Value.slice none 0 0) 5 (encN .u8) ([])] _ := hs_1.newNilL 5 (encN .u8)
  refine CW.loop (α := Nat × Value × List Bool × Value × List Nat × Nat × Nat) (fun (k, wv, bits, ev, ex, c, b) => [(0, v), (1, (Value.int .i64 ((width : Nat) : Int))), (5, wv), (6, ev), (7, (Value.int .i64 ((c : Nat) : Int))), (8, (Value.int .i64 ((((b : Nat) : Int) - 1)))), (12, v), (13, (Value.int .i64 ((l.length : Nat) : Int))), (14, (Value.int .i64 ((k : Nat) : Int)))]) (fun (k, wv, bits, ev, ex, c, b) w' => Sat w [cL wv 4 (encB) (bits), cL ev 5 (encN .u8) (ex)] w' ∧ (k ≤ l.length) ∧ (encSt width (l.take k) = (k, bits, ex, c, b)) ∧ (bits.length ≤ 31 * k) ∧ (ex.length ≤ 20 * k) ∧ (c ≤ k) ∧ (b ≤ k)) (fun (k, wv, bits, ev, ex, c, b) => l.length - k) (0, (Value.slice none 0 0), [], (Value.slice none 0 0), [], 0, 0) ⟨rfl, rfl, rfl, rfl, rfl, rfl, rfl, rfl, rfl, trivial⟩ ⟨hs_2, Nat.zero_le _, rfl, by simp, by simp, Nat.le_refl _, Nat.le_refl _⟩ ?_
  rintro ⟨k, wv, bits, ev, ex, c, b⟩ w_1 ⟨hs_3, hk, hst, hbl, hel, hcb, hbb⟩
  show CW _ _ _ _ [(0, v), (1, (Value.int .i64 ((width : Nat) : Int))), (5, wv), (6, ev), (7, (Value.int .i64 ((c : Nat) : Int))), (8, (Value.int .i64 ((((b : Nat) : Int) - 1)))), (12, v), (13, (Value.int .i64 ((l.length : Nat) : Int))), (14, (Value.int .i64 ((k : Nat) : Int)))] _
  refine CW.seq ?_
  refine CW.region ?_
  refine RT.ev rfl rfl (Ev.lssN rfl rfl) ?_
  refine RT.nil ?_
  refine CW.seq ?_
  refine CW.condD rfl (fun hc_1 => ?_) (fun hc_1 => ?_)
  · refine CW.skip ?_
    refine CW.seq ?_
    refine CW.block ?_
    refine CW.seq ?_
    obtain ⟨x, hx⟩ : ∃ x, (l)[k]? = some x := ⟨_, List.getElem?_eq_getElem hc_1⟩
    refine CW.region ?_
    refine RT.ev rfl rfl (Ev.move rfl) <| RT.ev rfl rfl (Ev.idxL (E := encN .i64) sl22 rfl rfl (hv.ext hs_3.ext) (by omega)) <| RT.ev rfl rfl (Ev.ldL (E := encN .i64) scal3 rfl (hv.ext hs_3.ext) hx (by decide) rfl) <| RT.ev rfl rfl (Ev.assign rfl) <| RT.ev rfl rfl (Ev.assign rfl) ?_
    refine RT.nil ?_
    refine CW.seq ?_
    have hx64 := hb x (mem_of_get hx)
    have hxd := Nat.div_le_self x (2 ^ width)
    have h8 := uv_le (k + 1 - b)
    have h9 := uv_le (x / 2 ^ width)
    refine CW.region ?_
    refine RT.ev rfl rfl (Ev.move rfl) <| RT.ev rfl rfl (Ev.move rfl) <| RT.ev rfl rfl (Ev.convK (by rw [Try.underlying3]; rfl) Try.underlying108 rfl (wrap_u rfl (by (try simp only [IntKind.bits]); omega))) <| RT.ev rfl rfl (Ev.move rfl) ?_
    refine RT.eff rfl rfl (OpE.call ent146 rfl ((rlow_ok (x) (width) _ (by omega) (by omega)).mono fun r_1 w_2 h_1 => ?_))
    have hp_1 := h_1
    have hs_4 : Sat w [cL wv 4 (encB) (bits), cL ev 5 (encN .u8) (ex), cL r_1 4 (encB) (lowB x width)] _ := hs_3.adds hp_1
    refine RT.eff rfl rfl (OpE.appendL 0 sl180 hs_4 rfl rfl rfl Try.underlying180 (hs_4.rdL 2 rfl) (by (try simp only [List.length_append, lowB_length]); omega) (by (try simp only [List.length_append, lowB_length]); omega) fun v_1 w_3 hs_5 hch_1 => ?_)
    have hs_5d : Sat w [cL v_1 4 (encB) (bits ++ lowB x width), cL ev 5 (encN .u8) (ex), cL r_1 4 (encB) (lowB x width)] _ := hs_5
    refine RT.ev rfl rfl (Ev.assign rfl) ?_
    refine RT.nil ?_
    refine CW.seq ?_
    refine CW.region ?_
    refine RT.ev rfl rfl (Ev.move rfl) <| RT.ev rfl rfl (Ev.move rfl) <| RT.ev rfl rfl (Ev.convK (by rw [Try.underlying3]; rfl) Try.underlying138 rfl (wrap_u rfl (by (try simp only [IntKind.bits]); omega))) <| RT.ev rfl rfl (Ev.shrN rfl rfl (by (try simp only [IntKind.bits]); omega)) <| RT.ev rfl rfl (Ev.neqN (b := 0) rfl rfl) ?_
    refine RT.nil ?_
    refine CW.condD rfl (fun hc_2 => ?_) (fun hc_2 => ?_)
    · refine CW.seq ?_
      refine CW.region ?_
      refine RT.ev rfl rfl (Ev.move rfl) <| RT.ev rfl rfl (Ev.addI (b := 1) rfl rfl (by omega)) <| RT.ev rfl rfl (Ev.assign rfl) ?_
      refine RT.nil ?_
      refine CW.seq ?_
      refine CW.region ?_
      refine RT.ev rfl rfl (Ev.move rfl) <| RT.ev rfl rfl (Ev.move rfl) <| RT.ev rfl rfl (Ev.move rfl) <| RT.ev rfl rfl (Ev.subPred rfl rfl (by omega) (by omega)) <| RT.ev rfl rfl (Ev.convK (by rw [Try.underlying3]; rfl) Try.underlying108 rfl (wrap_u rfl (by (try simp only [IntKind.bits]); omega))) ?_
      refine RT.eff rfl rfl (OpE.call ent87 rfl ((ruv_ok ((k + 1 - b)) _ (by omega)).mono fun r_2 w_4 h_2 => ?_))
      have hp_2 := h_2
      have hs_6 : Sat w [cL v_1 4 (encB) (bits ++ lowB x width), cL ev 5 (encN .u8) (ex), cL r_1 4 (encB) (lowB x width), cL r_2 5 (encN .u8) (uv ((k + 1 - b)))] _ := hs_5d.adds hp_2
      refine RT.eff rfl rfl (OpE.appendL 1 sl40 hs_6 rfl rfl rfl Try.underlying40 (hs_6.rdL 3 rfl) (by (try simp only [List.length_append]); omega) (by (try simp only [List.length_append]); omega) fun v_2 w_5 hs_7 hch_2 => ?_)
      have hs_7d : Sat w [cL v_1 4 (encB) (bits ++ lowB x width), cL v_2 5 (encN .u8) (ex ++ uv ((k + 1 - b))), cL r_1 4 (encB) (lowB x width), cL r_2 5 (encN .u8) (uv ((k + 1 - b)))] _ := hs_7
      refine RT.ev rfl rfl (Ev.move rfl) <| RT.ev rfl rfl (Ev.move rfl) <| RT.ev rfl rfl (Ev.convK (by rw [Try.underlying3]; rfl) Try.underlying138 rfl (wrap_u rfl (by (try simp only [IntKind.bits]); omega))) <| RT.ev rfl rfl (Ev.shrN rfl rfl (by (try simp only [IntKind.bits]); omega)) <| RT.ev rfl rfl (Ev.convK (by rw [Try.underlying3]; rfl) Try.underlying108 rfl (wrap_u rfl (by (try simp only [IntKind.bits]); omega))) ?_
      refine RT.eff rfl rfl (OpE.call ent87 rfl ((ruv_ok ((x / 2 ^ width)) _ (by omega)).mono fun r_3 w_6 h_3 => ?_))
      have hp_3 := h_3
      have hs_8 : Sat w [cL v_1 4 (encB) (bits ++ lowB x width), cL v_2 5 (encN .u8) (ex ++ uv ((k + 1 - b))), cL r_1 4 (encB) (lowB x width), cL r_2 5 (encN .u8) (uv ((k + 1 - b))), cL r_3 5 (encN .u8) (uv ((x / 2 ^ width)))] _ := hs_7d.adds hp_3
      refine RT.eff rfl rfl (OpE.appendL 1 sl40 hs_8 rfl rfl rfl Try.underlying40 (hs_8.rdL 4 rfl) (by (try simp only [List.length_append]); omega) (by (try simp only [List.length_append]); omega) fun v_3 w_7 hs_9 hch_3 => ?_)
      have hs_9d : Sat w [cL v_1 4 (encB) (bits ++ lowB x width), cL v_3 5 (encN .u8) (ex ++ uv ((k + 1 - b)) ++ uv ((x / 2 ^ width))), cL r_1 4 (encB) (lowB x width), cL r_2 5 (encN .u8) (uv ((k + 1 - b))), cL r_3 5 (encN .u8) (uv ((x / 2 ^ width)))] _ := hs_9
      refine RT.ev rfl rfl (Ev.assign rfl) ?_
      refine RT.nil ?_
      refine CW.weaken [(0, _), (1, _), (5, _), (6, _), (7, _), (8, _), (9, _), (10, _), (12, _), (13, _), (14, _), (15, _), (29, _)] ⟨rfl, rfl, rfl, rfl, rfl, rfl, rfl, rfl, rfl, rfl, rfl, rfl, rfl, trivial⟩ ?_
      refine CW.region ?_
      refine RT.ev rfl rfl (Ev.move rfl) <| RT.ev rfl rfl (Ev.assign rfl) ?_
      refine RT.nil ?_
      refine CW.region ?_
      refine RT.ev rfl rfl (Ev.addI (b := 1) rfl rfl (by omega)) <| RT.ev rfl rfl (Ev.move rfl) ?_
      refine RT.nil ?_
      have hs_10 : Sat w [cL v_1 4 (encB) (bits ++ lowB x width), cL v_3 5 (encN .u8) (ex ++ uv ((k + 1 - b)) ++ uv ((x / 2 ^ width)))] w_7 := hs_9d.sub ((.cons_cons _ (.cons_cons _ (.cons _ (.cons _ (.cons _ .slnil))))))
      exact ⟨(k + 1, v_1, bits ++ lowB x width, v_3, ex ++ uv ((k + 1 - b)) ++ uv ((x / 2 ^ width)), (c + 1), k + 1), ⟨rfl, rfl, rfl, rfl, rfl, congrArg some (congrArg (Value.int .i64) (by omega)), rfl, rfl, rfl, trivial⟩, ⟨hs_10, by omega, by rw [take_succ_of hx, encSt_snoc, hst, encStep, if_pos (Nat.pos_of_ne_zero hc_2), lowB_mod _ _ _ (Nat.le_refl _)], by simp only [List.length_append, lowB_length]; omega, by have h8 := uv_le (k + 1 - b); have h9 := uv_le (x / 2 ^ width); (try simp only [List.length_append]); omega, by omega, by omega⟩, (show (l.length - (k + 1)) < (l.length - k) from by omega)⟩
    · refine CW.skip ?_
      refine CW.region ?_
      refine RT.ev rfl rfl (Ev.addI (b := 1) rfl rfl (by omega)) <| RT.ev rfl rfl (Ev.move rfl) ?_
      refine RT.nil ?_
      have hs_11 : Sat w [cL v_1 4 (encB) (bits ++ lowB x width), cL ev 5 (encN .u8) (ex)] w_3 := hs_5d.sub ((.cons_cons _ (.cons_cons _ (.cons _ .slnil))))
      exact ⟨(k + 1, v_1, bits ++ lowB x width, ev, ex, c, b), ⟨rfl, rfl, rfl, rfl, rfl, rfl, rfl, rfl, rfl, trivial⟩, ⟨hs_11, by omega, by rw [take_succ_of hx, encSt_snoc, hst, encStep, if_neg (fun h => hc_2 (Nat.ne_of_gt h)), lowB_mod _ _ _ (Nat.le_refl _)], by simp only [List.length_append, lowB_length]; omega, by have h8 := uv_le (k + 1 - b); have h9 := uv_le (x / 2 ^ width); (try simp only [List.length_append]); omega, by omega, by omega⟩, (show (l.length - (k + 1)) < (l.length - k) from by omega)⟩
  · refine CW.exit0 ?_
    refine CW.seq ?_
    have hpl := packB_length bits
    have h1 := uv_le l.length
    have h2 := uv_le width
    have h3 := uv_le c
    refine CW.region ?_
    refine RT.ev rfl rfl (Ev.move rfl) <| RT.ev rfl rfl (Ev.lenL Try.underlying22 rfl (hv.ext hs_3.ext)) <| RT.ev rfl rfl (Ev.convK (by rw [Try.underlying3]; rfl) Try.underlying108 rfl (wrap_u rfl (by (try simp only [IntKind.bits]); omega))) ?_
    refine RT.eff rfl rfl (OpE.call ent87 rfl ((ruv_ok (l.length) _ (by omega)).mono fun r_4 w_8 h_4 => ?_))
    have hp_4 := h_4
    have hs_12 : Sat w [cL wv 4 (encB) (bits), cL ev 5 (encN .u8) (ex), cL r_4 5 (encN .u8) (uv (l.length))] _ := hs_3.adds hp_4
    refine RT.ev rfl rfl (Ev.move rfl) <| RT.ev rfl rfl (Ev.convK (by rw [Try.underlying3]; rfl) Try.underlying108 rfl (wrap_u rfl (by (try simp only [IntKind.bits]); omega))) ?_
    refine RT.eff rfl rfl (OpE.call ent87 rfl ((ruv_ok (width) _ (by omega)).mono fun r_5 w_9 h_5 => ?_))
    have hp_5 := h_5
    have hs_13 : Sat w [cL wv 4 (encB) (bits), cL ev 5 (encN .u8) (ex), cL r_4 5 (encN .u8) (uv (l.length)), cL r_5 5 (encN .u8) (uv (width))] _ := hs_12.adds hp_5
    refine RT.eff rfl rfl (OpE.appendL 2 sl40 hs_13 rfl rfl rfl Try.underlying40 (hs_13.rdL 3 rfl) (by (try simp only [List.length_append]); omega) (by (try simp only [List.length_append]); omega) fun v_4 w_10 hs_14 hch_4 => ?_)
    have hs_14d : Sat w [cL wv 4 (encB) (bits), cL ev 5 (encN .u8) (ex), cL v_4 5 (encN .u8) (uv (l.length) ++ uv (width)), cL r_5 5 (encN .u8) (uv (width))] _ := hs_14
    refine RT.ev rfl rfl (Ev.assign rfl) ?_
    refine RT.nil ?_
    refine CW.seq ?_
    refine CW.region ?_
    refine RT.ev rfl rfl (Ev.move rfl) <| RT.ev rfl rfl (Ev.move rfl) <| RT.ev rfl rfl (Ev.convK (by rw [Try.underlying3]; rfl) Try.underlying108 rfl (wrap_u rfl (by (try simp only [IntKind.bits]); omega))) ?_
    refine RT.eff rfl rfl (OpE.call ent87 rfl ((ruv_ok (c) _ (by omega)).mono fun r_6 w_11 h_6 => ?_))
    have hp_6 := h_6
    have hs_15 : Sat w [cL wv 4 (encB) (bits), cL ev 5 (encN .u8) (ex), cL v_4 5 (encN .u8) (uv (l.length) ++ uv (width)), cL r_5 5 (encN .u8) (uv (width)), cL r_6 5 (encN .u8) (uv (c))] _ := hs_14d.adds hp_6
    refine RT.eff rfl rfl (OpE.appendL 2 sl40 hs_15 rfl rfl rfl Try.underlying40 (hs_15.rdL 4 rfl) (by (try simp only [List.length_append]); omega) (by (try simp only [List.length_append]); omega) fun v_5 w_12 hs_16 hch_5 => ?_)
    have hs_16d : Sat w [cL wv 4 (encB) (bits), cL ev 5 (encN .u8) (ex), cL v_5 5 (encN .u8) (uv (l.length) ++ uv (width) ++ uv (c)), cL r_5 5 (encN .u8) (uv (width)), cL r_6 5 (encN .u8) (uv (c))] _ := hs_16
    refine RT.ev rfl rfl (Ev.move rfl) ?_
    refine RT.eff rfl rfl (OpE.call ent147 rfl ((rpack_ok _ (bits) _ (hs_16d.rdL 0 rfl) (by omega)).mono fun r_7 w_13 h_7 => ?_))
    have hp_7 := h_7
    have hs_17 : Sat w [cL wv 4 (encB) (bits), cL ev 5 (encN .u8) (ex), cL v_5 5 (encN .u8) (uv (l.length) ++ uv (width) ++ uv (c)), cL r_5 5 (encN .u8) (uv (width)), cL r_6 5 (encN .u8) (uv (c)), cL r_7 5 (encN .u8) (packB (bits))] _ := hs_16d.adds hp_7
    refine RT.eff rfl rfl (OpE.appendL 2 sl40 hs_17 rfl rfl rfl Try.underlying40 (hs_17.rdL 5 rfl) (by (try simp only [List.length_append]); omega) (by (try simp only [List.length_append]); omega) fun v_6 w_14 hs_18 hch_6 => ?_)
    have hs_18d : Sat w [cL wv 4 (encB) (bits), cL ev 5 (encN .u8) (ex), cL v_6 5 (encN .u8) (uv (l.length) ++ uv (width) ++ uv (c) ++ packB (bits)), cL r_5 5 (encN .u8) (uv (width)), cL r_6 5 (encN .u8) (uv (c)), cL r_7 5 (encN .u8) (packB (bits))] _ := hs_18
    refine RT.ev rfl rfl (Ev.assign rfl) ?_
    refine RT.nil ?_
    refine CW.seq ?_
    refine CW.region ?_
    refine RT.ev rfl rfl (Ev.move rfl) <| RT.ev rfl rfl (Ev.move rfl) ?_
    refine RT.eff rfl rfl (OpE.appendL 2 sl40 hs_18d rfl rfl rfl Try.underlying40 (hs_18d.rdL 1 rfl) (by (try simp only [List.length_append]); omega) (by (try simp only [List.length_append]); omega) fun v_7 w_15 hs_19 hch_7 => ?_)
    have hs_19d : Sat w [cL wv 4 (encB) (bits), cL ev 5 (encN .u8) (ex), cL v_7 5 (encN .u8) (uv (l.length) ++ uv (width) ++ uv (c) ++ packB (bits) ++ ex), cL r_5 5 (encN .u8) (uv (width)), cL r_6 5 (encN .u8) (uv (c)), cL r_7 5 (encN .u8) (packB (bits))] _ := hs_19
    refine RT.ev rfl rfl (Ev.assign rfl) ?_
    refine RT.nil ?_
    refine CW.ret ?_
    show PostK _ _ _ _ _ _
    refine post1 rfl rfl ?_
    have hs_20 : Sat w [cL v_7 5 (encN .u8) (uv (l.length) ++ uv (width) ++ uv (c) ++ packB (bits) ++ ex)] w_15 := hs_19d.sub ((.cons _ (.cons _ (.cons_cons _ (.cons _ (.cons _ (.cons _ .slnil)))))))
    have hs_21 : Sat w [cL v_7 5 (encN .u8) (encBk width l)] w_15 := by
      have hq : uv (l.length) ++ uv (width) ++ uv (c) ++ packB (bits) ++ ex = encBk width l := by unfold encBk; rw [show encSt width l = (k, bits, ex, c, b) by rw [← hst, show k = l.length by omega, List.take_length]]
      rw [← hq]; exact hs_20
    exact hs_21

theorem rwidth_ok (v : Value) (l : List Nat) (w : World) (hv : RdL w v (encN .i64) l) (hn : l.length ≤ 128) (hb : ∀ x ∈ l, x ≤ 2147483647) :
    CallsV Try.prog 149 [v] w fun r w' => r = .int .i64 ((bestW l 32 : Nat) : Int) ∧ Sat w [] w' := by
  have hs0 := Sat.start w
  refine callsV_of Try.func149 rfl rfl ?_
  refine CW.seq ?_
  have hb63 : ∀ x ∈ l, x < 2 ^ 63 := fun x hx => by have := hb x hx; omega
  refine CW.region ?_
  refine RT.ev rfl rfl (Ev.assign rfl) ?_
  refine RT.nil ?_
  refine CW.seq ?_
  refine CW.seq ?_
  refine CW.region ?_
  refine RT.ev rfl rfl (Ev.move rfl) ?_
  refine RT.eff rfl rfl (OpE.call ent178 rfl ((rbcheck_ok _ (l) _ (hv.ext hs0.ext) (hn) (hb)).mono fun r_1 w_1 h_1 => ?_))
  obtain ⟨rfl, hp_1⟩ := h_1
  have hs_1 : Sat w [] _ := hs0.adds hp_1
  refine RT.ev rfl rfl (Ev.neqN (a := 0) (b := 0) rfl rfl) ?_
  refine RT.nil ?_
  refine CW.condF rfl (rfl) ?_
  refine CW.skip ?_
  refine CW.seq ?_
  refine CW.region ?_
  refine RT.ev rfl rfl (Ev.assign rfl) ?_
  refine RT.nil ?_
  refine CW.seq ?_
  refine CW.seq ?_
  refine CW.region ?_
  refine RT.ev rfl rfl (Ev.assign rfl) ?_
  refine RT.nil ?_
  refine CW.block ?_
  refine CW.loop (α := Nat × Nat) (fun (m, bw) => [(0, v), (3, (Value.int .i64 ((bw : Nat) : Int))), (4, (Value.int .i64 ((m : Nat) : Int)))]) (fun (m, bw) w' => Sat w [] w' ∧ (1 ≤ m) ∧ (m ≤ 32) ∧ (bw = bestW l m) ∧ (bw ≤ 31)) (fun (m, bw) => 32 - m) (1, 0) ⟨rfl, rfl, rfl, trivial⟩ ⟨hs_1, Nat.le_refl _, by omega, by simp [bestW], by omega⟩ ?_
  rintro ⟨m, bw⟩ w_2 ⟨hs_2, hm1, hm, hbw, hbl⟩
  show CW _ _ _ _ [(0, v), (3, (Value.int .i64 ((bw : Nat) : Int))), (4, (Value.int .i64 ((m : Nat) : Int)))] _
  refine CW.seq ?_
  refine CW.seq ?_
  refine CW.region ?_
  refine RT.ev rfl rfl (Ev.move rfl) <| RT.ev rfl rfl (Ev.leqN (b := 31) rfl rfl) ?_
  refine RT.nil ?_
  refine CW.condD rfl (fun hc_1 => ?_) (fun hc_1 => ?_)
  · refine CW.skip ?_
    refine CW.seq ?_
    refine CW.block ?_
    refine CW.seq ?_
    refine CW.region ?_
    refine RT.ev rfl rfl (Ev.move rfl) <| RT.ev rfl rfl (Ev.move rfl) ?_
    refine RT.eff rfl rfl (OpE.call ent148 rfl ((rbytes_ok _ (l) (m) _ (hv.ext hs_2.ext) (by omega) (hb63) (by omega)).mono fun r_2 w_3 h_2 => ?_))
    have hp_2 := h_2
    have hs_3 : Sat w [cL r_2 5 (encN .u8) (encBk m l)] _ := hs_2.adds hp_2
    refine RT.ev rfl rfl (Ev.lenL Try.underlying40 rfl (hs_3.rdL 0 rfl)) <| RT.ev rfl rfl (Ev.move rfl) <| RT.ev rfl rfl (Ev.move rfl) ?_
    refine RT.eff rfl rfl (OpE.call ent148 rfl ((rbytes_ok _ (l) (bw) _ (hv.ext hs_3.ext) (by omega) (hb63) (by omega)).mono fun r_3 w_4 h_3 => ?_))
    have hp_3 := h_3
    have hs_4 : Sat w [cL r_2 5 (encN .u8) (encBk m l), cL r_3 5 (encN .u8) (encBk bw l)] _ := hs_3.adds hp_3
    refine RT.ev rfl rfl (Ev.lenL Try.underlying40 rfl (hs_4.rdL 1 rfl)) <| RT.ev rfl rfl (Ev.lssN rfl rfl) ?_
    refine RT.nil ?_
    refine CW.condD rfl (fun hc_2 => ?_) (fun hc_2 => ?_)
    · refine CW.region ?_
      refine RT.ev rfl rfl (Ev.move rfl) <| RT.ev rfl rfl (Ev.assign rfl) ?_
      refine RT.nil ?_
      refine CW.region ?_
      refine RT.ev rfl rfl (Ev.move rfl) <| RT.ev rfl rfl (Ev.addI (b := 1) rfl rfl (by omega)) <| RT.ev rfl rfl (Ev.assign rfl) ?_
      refine RT.nil ?_
      have hs_5 : Sat w [] w_4 := hs_4.sub ((.cons _ (.cons _ .slnil)))
      exact ⟨(m + 1, m), ⟨rfl, rfl, rfl, trivial⟩, ⟨hs_5, by omega, by omega, by rw [bestW, ← hbw, costB_len (by omega) (by omega) hb63, costB_len (by omega) (by omega) hb63, if_pos hc_2], by omega⟩, (show (32 - (m + 1)) < (32 - m) from by omega)⟩
    · refine CW.skip ?_
      refine CW.region ?_
      refine RT.ev rfl rfl (Ev.move rfl) <| RT.ev rfl rfl (Ev.addI (b := 1) rfl rfl (by omega)) <| RT.ev rfl rfl (Ev.assign rfl) ?_
      refine RT.nil ?_
      have hs_6 : Sat w [] w_4 := hs_4.sub ((.cons _ (.cons _ .slnil)))
      exact ⟨(m + 1, bw), ⟨rfl, rfl, rfl, trivial⟩, ⟨hs_6, by omega, by omega, by rw [bestW, ← hbw, costB_len (by omega) (by omega) hb63, costB_len (by omega) (by omega) hb63, if_neg hc_2], by omega⟩, (show (32 - (m + 1)) < (32 - m) from by omega)⟩
  · refine CW.exit0 ?_
    refine CW.seq ?_
    refine CW.region ?_
    refine RT.ev rfl rfl (Ev.move rfl) <| RT.ev rfl rfl (Ev.assign rfl) ?_
    refine RT.nil ?_
    refine CW.ret ?_
    show PostK _ _ _ _ _ _
    refine post1 rfl rfl ?_
    rw [show m = 32 by omega] at hbw
    exact ⟨by rw [hbw], hs_2⟩

theorem rbpack_ok (v : Value) (l : List Nat) (w : World) (hv : RdL w v (encN .i64) l) (hn : l.length ≤ 128) (hb : ∀ x ∈ l, x ≤ 2147483647) :
    CallsV Try.prog 109 [v] w fun r w' => Sat w [cL r 5 (encN .u8) (packBk l)] w' := by
  have hs0 := Sat.start w
  refine callsV_of Try.func109 rfl rfl ?_
  refine CW.seq ?_
  have hb63 : ∀ x ∈ l, x < 2 ^ 63 := fun x hx => by have := hb x hx; omega
  refine CW.region ?_
  refine RT.ev rfl rfl (Ev.assign rfl) ?_
  refine RT.nil ?_
  refine CW.seq ?_
  refine CW.region ?_
  refine RT.ev rfl rfl (Ev.move rfl) <| RT.ev rfl rfl (Ev.move rfl) ?_
  refine RT.eff rfl rfl (OpE.call ent149 rfl ((rwidth_ok _ (l) _ (hv.ext hs0.ext) (hn) (hb)).mono fun r_1 w_1 h_1 => ?_))
  obtain ⟨rfl, hp_1⟩ := h_1
  have hs_1 : Sat w [] _ := hs0.adds hp_1
  refine RT.eff rfl rfl (OpE.call ent148 rfl ((rbytes_ok _ (l) ((bestW l 32)) _ (hv.ext hs_1.ext) (by omega) (hb63) (by have := bestW_le l 32; omega)).mono fun r_2 w_2 h_2 => ?_))
  have hp_2 := h_2
  have hs_2 : Sat w [cL r_2 5 (encN .u8) (encBk (bestW l 32) l)] _ := hs_1.adds hp_2
  refine RT.ev rfl rfl (Ev.assign rfl) ?_
  refine RT.nil ?_
  refine CW.ret ?_
  show PostK _ _ _ _ _ _
  refine post1 rfl rfl ?_
  exact hs_2

end Go.Proofs.Ytfhbflhnelbkfaa

/- The walks of the functions of F14s, printed by our own program (kwgen.py) out of our descriptions (base.py). -/
namespace Go.Proofs.Ytfhbflhnelbkfaa
open Go.RowKit Go.Kw
set_option maxRecDepth 100000
set_option linter.unusedVariables false
set_option linter.unusedSimpArgs false
theorem rlcheck_ok (v : Value) (c : List Nat) (w : World) (hv : RdL w v (encN .i64) c) (hn : c.length ≤ 1024) (hc : ∀ x ∈ c, x ≤ 4096) :
    CallsV Try.prog 143 [v, (Value.int .i64 ((15 : Nat) : Int))] w fun r w' => r = .int .i64 ((0 : Nat) : Int) ∧ Sat w [] w' := by
  have hs0 := Sat.start w
  refine callsV_of Try.func143 rfl rfl ?_
  refine CW.seq ?_
  refine CW.region ?_
  refine RT.ev rfl rfl (Ev.assign rfl) ?_
  refine RT.nil ?_
  refine CW.seq ?_
  refine CW.seq ?_
  refine CW.mid (fun L' w' => Weak [(0, v), (1, (Value.int .i64 ((15 : Nat) : Int))), (4, (Value.int .i64 ((0 : Nat) : Int))), (13, (Value.bool (decide ((15 < 1) ∨ (15 < 15)))))] L' ∧ Sat w [] w') ?_ ?_
  · refine CW.region ?_
    refine RT.ev rfl rfl (Ev.move rfl) <| RT.ev rfl rfl (Ev.lssN (a := 15) (b := 1) rfl rfl) <| RT.ev rfl rfl (Ev.move rfl) ?_
    refine RT.yes rfl rfl rfl (rfl) ?_
    refine RT.ev rfl rfl (Ev.move rfl) ?_
    refine RT.yes rfl rfl rfl (rfl) ?_
    refine RT.ev rfl rfl (Ev.gtrN (a := 15) (b := 15) rfl rfl) <| RT.ev rfl rfl (Ev.pickN rfl (rfl) rfl) ?_
    refine RT.nil ?_
    exact ⟨⟨rfl, rfl, rfl, congrArg some (congrArg Value.bool (by simp [])), trivial⟩, hs0⟩
  · rintro L' w_1 ⟨hw_1, hs_1⟩
    refine CW.weaken _ hw_1 ?_
    refine CW.condF rfl (decide_eq_false (by omega)) ?_
    refine CW.skip ?_
    refine CW.seq ?_
    refine CW.seq ?_
    refine CW.region ?_
    refine RT.ev rfl rfl (Ev.move rfl) <| RT.ev rfl rfl (Ev.lenL Try.underlying22 rfl (hv.ext hs_1.ext)) <| RT.ev rfl rfl (Ev.gtrN (b := 1024) rfl rfl) ?_
    refine RT.nil ?_
    refine CW.condF rfl (decide_eq_false (by omega)) ?_
    refine CW.skip ?_
    refine CW.seq ?_
    refine CW.region ?_
    refine RT.ev rfl rfl (Ev.assign rfl) ?_
    refine RT.nil ?_
    refine CW.seq ?_
    refine CW.seq ?_
    refine CW.region ?_
    refine RT.ev rfl rfl (Ev.move rfl) <| RT.ev rfl rfl (Ev.lenL Try.underlying22 rfl (hv.ext hs_1.ext)) <| RT.ev rfl rfl (Ev.move rfl) ?_
    refine RT.nil ?_
    refine CW.block ?_
    refine CW.loop (α := Nat × Nat) (fun (k, p) => [(1, (Value.int .i64 ((15 : Nat) : Int))), (5, (Value.int .i64 ((p : Nat) : Int))), (17, v), (18, (Value.int .i64 ((c.length : Nat) : Int))), (19, (Value.int .i64 ((k : Nat) : Int)))]) (fun (k, p) w' => Sat w [] w' ∧ (k ≤ c.length) ∧ (p ≤ k)) (fun (k, p) => c.length - k) (0, 0) ⟨rfl, rfl, rfl, rfl, rfl, trivial⟩ ⟨hs_1, Nat.zero_le _, Nat.le_refl _⟩ ?_
    rintro ⟨k, p⟩ w_2 ⟨hs_2, hk, hp⟩
    show CW _ _ _ _ [(1, (Value.int .i64 ((15 : Nat) : Int))), (5, (Value.int .i64 ((p : Nat) : Int))), (17, v), (18, (Value.int .i64 ((c.length : Nat) : Int))), (19, (Value.int .i64 ((k : Nat) : Int)))] _
    refine CW.seq ?_
    refine CW.region ?_
    refine RT.ev rfl rfl (Ev.lssN rfl rfl) ?_
    refine RT.nil ?_
    refine CW.seq ?_
    refine CW.condD rfl (fun hc_1 => ?_) (fun hc_1 => ?_)
    · refine CW.skip ?_
      refine CW.seq ?_
      refine CW.block ?_
      refine CW.seq ?_
      obtain ⟨x, hx⟩ : ∃ x, (c)[k]? = some x := ⟨_, List.getElem?_eq_getElem hc_1⟩
      refine CW.region ?_
      refine RT.ev rfl rfl (Ev.idxL (E := encN .i64) sl22 rfl rfl (hv.ext hs_2.ext) (by omega)) <| RT.ev rfl rfl (Ev.ldL (E := encN .i64) scal3 rfl (hv.ext hs_2.ext) hx (by decide) rfl) <| RT.ev rfl rfl (Ev.assign rfl) ?_
      refine RT.nil ?_
      refine CW.seq ?_
      refine CW.seq ?_
      refine CW.mid (fun L' w' => Weak [(1, (Value.int .i64 ((15 : Nat) : Int))), (5, (Value.int .i64 ((p : Nat) : Int))), (7, (Value.int .i64 ((x : Nat) : Int))), (17, v), (18, (Value.int .i64 ((c.length : Nat) : Int))), (19, (Value.int .i64 ((k : Nat) : Int))), (20, (Value.bool (decide (k < c.length)))), (28, (Value.bool (decide ((x < 0) ∨ (4096 < x)))))] L' ∧ Sat w [] w') ?_ ?_
      · refine CW.region ?_
        refine RT.ev rfl rfl (Ev.move rfl) <| RT.ev rfl rfl (Ev.lssN (b := 0) rfl rfl) <| RT.ev rfl rfl (Ev.move rfl) ?_
        by_cases hg_1 : x < 0
        · refine RT.no rfl rfl rfl (decide_eq_true hg_1) rfl ?_
          refine RT.no rfl rfl rfl (decide_eq_true hg_1) rfl ?_
          refine RT.ev rfl rfl (Ev.pickY rfl (decide_eq_true hg_1) rfl) ?_
          refine RT.nil ?_
          exact ⟨⟨rfl, rfl, rfl, rfl, rfl, rfl, rfl, congrArg some (congrArg Value.bool (by simp [hg_1])), trivial⟩, hs_2⟩
        · refine RT.yes rfl rfl rfl (decide_eq_false hg_1) ?_
          refine RT.ev rfl rfl (Ev.move rfl) ?_
          refine RT.yes rfl rfl rfl (decide_eq_false hg_1) ?_
          refine RT.ev rfl rfl (Ev.gtrN (b := 4096) rfl rfl) <| RT.ev rfl rfl (Ev.pickN rfl (decide_eq_false hg_1) rfl) ?_
          refine RT.nil ?_
          exact ⟨⟨rfl, rfl, rfl, rfl, rfl, rfl, rfl, congrArg some (congrArg Value.bool (by simp [hg_1])), trivial⟩, hs_2⟩
      · rintro L' w_3 ⟨hw_2, hs_3⟩
        refine CW.weaken _ hw_2 ?_
        refine CW.condF rfl (decide_eq_false (by have := hc x (mem_of_get hx); omega)) ?_
        refine CW.skip ?_
        refine CW.seq ?_
        refine CW.region ?_
        refine RT.ev rfl rfl (Ev.move rfl) <| RT.ev rfl rfl (Ev.gtrN (b := 0) rfl rfl) ?_
        refine RT.nil ?_
        refine CW.condD rfl (fun hc_2 => ?_) (fun hc_2 => ?_)
        · refine CW.region ?_
          refine RT.ev rfl rfl (Ev.move rfl) <| RT.ev rfl rfl (Ev.addI (b := 1) rfl rfl (by omega)) <| RT.ev rfl rfl (Ev.assign rfl) ?_
          refine RT.nil ?_
          refine CW.region ?_
          refine RT.ev rfl rfl (Ev.addI (b := 1) rfl rfl (by omega)) <| RT.ev rfl rfl (Ev.move rfl) ?_
          refine RT.nil ?_
          exact ⟨(k + 1, (p + 1)), ⟨rfl, rfl, rfl, rfl, rfl, trivial⟩, ⟨hs_3, by omega, by omega⟩, (show (c.length - (k + 1)) < (c.length - k) from by omega)⟩
        · refine CW.skip ?_
          refine CW.region ?_
          refine RT.ev rfl rfl (Ev.addI (b := 1) rfl rfl (by omega)) <| RT.ev rfl rfl (Ev.move rfl) ?_
          refine RT.nil ?_
          exact ⟨(k + 1, p), ⟨rfl, rfl, rfl, rfl, rfl, trivial⟩, ⟨hs_3, by omega, by omega⟩, (show (c.length - (k + 1)) < (c.length - k) from by omega)⟩
    · refine CW.exit0 ?_
      refine CW.seq ?_
      refine CW.seq ?_
      refine CW.region ?_
      refine RT.ev rfl rfl (Ev.move rfl) <| RT.ev rfl rfl (Ev.move rfl) <| RT.ev rfl rfl (Ev.convK (by rw [Try.underlying3]; rfl) Try.underlying138 rfl (wrap_u rfl (by (try simp only [IntKind.bits]); omega))) <| RT.ev rfl rfl (Ev.shlI (a := 1) (b := 15) rfl rfl (by omega) (by omega)) <| RT.ev rfl rfl (Ev.gtrN rfl rfl) ?_
      refine RT.nil ?_
      refine CW.condF rfl (decide_eq_false (by omega)) ?_
      refine CW.skip ?_
      refine CW.seq ?_
      refine CW.region ?_
      refine RT.ev rfl rfl (Ev.assign rfl) ?_
      refine RT.nil ?_
      refine CW.ret ?_
      show PostK _ _ _ _ _ _
      refine post1 rfl rfl ?_
      exact ⟨rfl, hs_2⟩

theorem rvalid_ok (v : Value) (l : List Nat) (w : World) (hv : RdL w v (encN .i64) l) (hn : l.length ≤ 1024) :
    CallsV Try.prog 177 [v] w fun r w' => r = .bool (validB l) ∧ Sat w [] w' := by
  have hs0 := Sat.start w
  refine callsV_of Try.func177 rfl rfl ?_
  refine CW.seq ?_
  refine CW.region ?_
  refine RT.ev rfl rfl (Ev.assign rfl) ?_
  refine RT.nil ?_
  refine CW.seq ?_
  refine CW.seq ?_
  refine CW.region ?_
  refine RT.ev rfl rfl (Ev.move rfl) <| RT.ev rfl rfl (Ev.lenL Try.underlying22 rfl (hv.ext hs0.ext)) <| RT.ev rfl rfl (Ev.gtrN (b := 1024) rfl rfl) ?_
  refine RT.nil ?_
  refine CW.condF rfl (decide_eq_false (by omega)) ?_
  refine CW.skip ?_
  refine CW.seq ?_
  refine CW.region ?_
  refine RT.ev rfl rfl (Ev.assign rfl) ?_
  refine RT.nil ?_
  refine CW.seq ?_
  refine CW.seq ?_
  refine CW.region ?_
  refine RT.ev rfl rfl (Ev.move rfl) <| RT.ev rfl rfl (Ev.lenL Try.underlying22 rfl (hv.ext hs0.ext)) <| RT.ev rfl rfl (Ev.move rfl) ?_
  refine RT.nil ?_
  refine CW.block ?_
  refine CW.loop (α := Nat × Nat) (fun (k, s) => [(3, (Value.int .i64 ((s : Nat) : Int))), (9, v), (10, (Value.int .i64 ((l.length : Nat) : Int))), (11, (Value.int .i64 ((k : Nat) : Int)))]) (fun (k, s) w' => Sat w [] w' ∧ (k ≤ l.length) ∧ (s = ksum (l.take k)) ∧ (s ≤ k * 2 ^ 14) ∧ (∀ x ∈ l.take k, x ≤ 15)) (fun (k, s) => l.length - k) (0, 0) ⟨rfl, rfl, rfl, rfl, trivial⟩ ⟨hs0, Nat.zero_le _, rfl, Nat.zero_le _, by simp⟩ ?_
  rintro ⟨k, s⟩ w_1 ⟨hs_1, hk, hsum, hsb, hall⟩
  show CW _ _ _ _ [(3, (Value.int .i64 ((s : Nat) : Int))), (9, v), (10, (Value.int .i64 ((l.length : Nat) : Int))), (11, (Value.int .i64 ((k : Nat) : Int)))] _
  refine CW.seq ?_
  refine CW.region ?_
  refine RT.ev rfl rfl (Ev.lssN rfl rfl) ?_
  refine RT.nil ?_
  refine CW.seq ?_
  refine CW.condD rfl (fun hc_1 => ?_) (fun hc_1 => ?_)
  · refine CW.skip ?_
    refine CW.seq ?_
    refine CW.block ?_
    refine CW.seq ?_
    obtain ⟨x, hx⟩ : ∃ x, (l)[k]? = some x := ⟨_, List.getElem?_eq_getElem hc_1⟩
    refine CW.region ?_
    refine RT.ev rfl rfl (Ev.idxL (E := encN .i64) sl22 rfl rfl (hv.ext hs_1.ext) (by omega)) <| RT.ev rfl rfl (Ev.ldL (E := encN .i64) scal3 rfl (hv.ext hs_1.ext) hx (by decide) rfl) <| RT.ev rfl rfl (Ev.assign rfl) ?_
    refine RT.nil ?_
    refine CW.seq ?_
    refine CW.seq ?_
    refine CW.mid (fun L' w' => Weak [(3, (Value.int .i64 ((s : Nat) : Int))), (5, (Value.int .i64 ((x : Nat) : Int))), (9, v), (10, (Value.int .i64 ((l.length : Nat) : Int))), (11, (Value.int .i64 ((k : Nat) : Int))), (12, (Value.bool (decide (k < l.length)))), (20, (Value.bool (decide ((x < 0) ∨ (15 < x)))))] L' ∧ Sat w [] w') ?_ ?_
    · refine CW.region ?_
      refine RT.ev rfl rfl (Ev.move rfl) <| RT.ev rfl rfl (Ev.lssN (b := 0) rfl rfl) <| RT.ev rfl rfl (Ev.move rfl) ?_
      by_cases hg_1 : x < 0
      · refine RT.no rfl rfl rfl (decide_eq_true hg_1) rfl ?_
        refine RT.no rfl rfl rfl (decide_eq_true hg_1) rfl ?_
        refine RT.ev rfl rfl (Ev.pickY rfl (decide_eq_true hg_1) rfl) ?_
        refine RT.nil ?_
        exact ⟨⟨rfl, rfl, rfl, rfl, rfl, rfl, congrArg some (congrArg Value.bool (by simp [hg_1])), trivial⟩, hs_1⟩
      · refine RT.yes rfl rfl rfl (decide_eq_false hg_1) ?_
        refine RT.ev rfl rfl (Ev.move rfl) ?_
        refine RT.yes rfl rfl rfl (decide_eq_false hg_1) ?_
        refine RT.ev rfl rfl (Ev.gtrN (b := 15) rfl rfl) <| RT.ev rfl rfl (Ev.pickN rfl (decide_eq_false hg_1) rfl) ?_
        refine RT.nil ?_
        exact ⟨⟨rfl, rfl, rfl, rfl, rfl, rfl, congrArg some (congrArg Value.bool (by simp [hg_1])), trivial⟩, hs_1⟩
    · rintro L' w_2 ⟨hw_1, hs_2⟩
      refine CW.weaken _ hw_1 ?_
      refine CW.condD rfl (fun hc_2 => ?_) (fun hc_2 => ?_)
      · refine CW.seq ?_
        refine CW.region ?_
        refine RT.ev rfl rfl (Ev.assign rfl) ?_
        refine RT.nil ?_
        refine CW.ret ?_
        show PostK _ _ _ _ _ _
        refine post1 rfl rfl ?_
        exact ⟨by rw [validB_bad (mem_of_get hx) (by omega)], hs_2⟩
      · refine CW.skip ?_
        refine CW.seq ?_
        refine CW.region ?_
        refine RT.ev rfl rfl (Ev.move rfl) <| RT.ev rfl rfl (Ev.gtrN (b := 0) rfl rfl) ?_
        refine RT.nil ?_
        refine CW.condD rfl (fun hc_3 => ?_) (fun hc_3 => ?_)
        · have h2 : 2 ^ (15 - x) ≤ 2 ^ 14 := Nat.pow_le_pow_right (by decide) (by omega)
          refine CW.region ?_
          refine RT.ev rfl rfl (Ev.move rfl) <| RT.ev rfl rfl (Ev.move rfl) <| RT.ev rfl rfl (Ev.subI (a := 15) rfl rfl (by omega) (by omega)) <| RT.ev rfl rfl (Ev.convK (by rw [Try.underlying3]; rfl) Try.underlying138 rfl (wrap_u rfl (by (try simp only [IntKind.bits]); omega))) <| RT.ev rfl rfl (Ev.shlI (a := 1) rfl rfl (by omega) (by omega)) <| RT.ev rfl rfl (Ev.addI rfl rfl (by omega)) <| RT.ev rfl rfl (Ev.assign rfl) ?_
          refine RT.nil ?_
          refine CW.region ?_
          refine RT.ev rfl rfl (Ev.addI (b := 1) rfl rfl (by omega)) <| RT.ev rfl rfl (Ev.move rfl) ?_
          refine RT.nil ?_
          exact ⟨(k + 1, (s + (1 * 2 ^ (15 - x)))), ⟨rfl, rfl, rfl, rfl, trivial⟩, ⟨hs_2, by omega, by rw [take_succ_of hx, ksum_append, ← hsum]; simp [ksum, kr, hc_3], by omega, all_take hall hx (by omega)⟩, (show (l.length - (k + 1)) < (l.length - k) from by omega)⟩
        · refine CW.skip ?_
          refine CW.region ?_
          refine RT.ev rfl rfl (Ev.addI (b := 1) rfl rfl (by omega)) <| RT.ev rfl rfl (Ev.move rfl) ?_
          refine RT.nil ?_
          exact ⟨(k + 1, s), ⟨rfl, rfl, rfl, rfl, trivial⟩, ⟨hs_2, by omega, by rw [take_succ_of hx, ksum_append, ← hsum]; simp [ksum, kr, hc_3], by omega, all_take hall hx (by omega)⟩, (show (l.length - (k + 1)) < (l.length - k) from by omega)⟩
  · refine CW.exit0 ?_
    refine CW.seq ?_
    refine CW.region ?_
    refine RT.ev rfl rfl (Ev.move rfl) <| RT.ev rfl rfl (Ev.leqN (b := 32768) rfl rfl) <| RT.ev rfl rfl (Ev.assign rfl) ?_
    refine RT.nil ?_
    refine CW.ret ?_
    show PostK _ _ _ _ _ _
    refine post1 rfl rfl ?_
    rw [show k = l.length by omega, List.take_length] at hsum hall
    exact ⟨by rw [validB_of hall, hsum], hs_1⟩

theorem rcodes_ok (v : Value) (l : List Nat) (w : World) (hv : RdL w v (encN .i64) l) (hn : l.length ≤ 1024) (hval : validB l = true) :
    CallsV Try.prog 145 [v] w fun r w' => ∃ v', r = .tuple #[v', .int .i64 ((0 : Nat) : Int)] ∧ Sat w [cL v' 108 (encN .u64) (codesN l)] w' := by
  have hs0 := Sat.start w
  refine callsV_of Try.func145 rfl rfl ?_
  refine CW.seq ?_
  have hb := validB_le hval
  refine CW.region ?_
  refine RT.ev rfl rfl (Ev.assign rfl) <| RT.ev rfl rfl (Ev.assign rfl) ?_
  refine RT.nil ?_
  refine CW.seq ?_
  refine CW.seq ?_
  refine CW.region ?_
  refine RT.ev rfl rfl (Ev.move rfl) ?_
  refine RT.eff rfl rfl (OpE.call ent177 rfl ((rvalid_ok _ (l) _ (hv.ext hs0.ext) (hn)).mono fun r_1 w_1 h_1 => ?_))
  obtain ⟨rfl, hp_1⟩ := h_1
  have hs_1 : Sat w [] _ := hs0.adds hp_1
  refine RT.ev rfl rfl (Ev.notB rfl) ?_
  refine RT.nil ?_
  refine CW.condF rfl (by rw [hval]; rfl) ?_
  refine CW.skip ?_
  refine CW.seq ?_
  refine CW.region ?_
  refine RT.ev rfl rfl (Ev.move rfl) <| RT.ev rfl rfl (Ev.lenL Try.underlying22 rfl (hv.ext hs_1.ext)) ?_
  refine RT.eff rfl rfl (OpE.makeL (encN .u64) (0) sl167 rfl hs_1 rfl rfl (by omega) (by omega) (by omega) fun v_1 w_2 hs_2 hch_1 => ?_)
  have hs_2d : Sat w [cL v_1 108 (encN .u64) (List.replicate (l.length) 0)] _ := hs_2
  refine RT.ev rfl rfl (Ev.assign rfl) ?_
  refine RT.nil ?_
  refine CW.seq ?_
  refine CW.region ?_
  refine RT.ev rfl rfl (Ev.assign rfl) <| RT.ev rfl rfl (Ev.assign rfl) ?_
  refine RT.nil ?_
  refine CW.seq ?_
  refine CW.seq ?_
  refine CW.region ?_
  refine RT.ev rfl rfl (Ev.assign rfl) ?_
  refine RT.nil ?_
  refine CW.block ?_
  refine CW.loop (α := Nat × Nat × Nat × List Nat × Nat) (fun (n, code0, bef0, cds0, cnt0) => [(0, v), (4, v_1), (5, (Value.int .u64 ((code0 : Nat) : Int))), (6, (Value.int .i64 ((bef0 : Nat) : Int))), (7, (Value.int .i64 ((n : Nat) : Int)))]) (fun (n, code0, bef0, cds0, cnt0) w' => Sat w [cL v_1 108 (encN .u64) (cds0)] w' ∧ (1 ≤ n) ∧ (n ≤ 16) ∧ (cdSt l (ordR l n 0) = (cnt0, code0, bef0, cds0)) ∧ (code0 < 2 ^ 64) ∧ (cds0.length = l.length) ∧ (bef0 < n) ∧ (bef0 = 0 ↔ cnt0 = 0) ∧ (cnt0 = 0 → code0 = 0)) (fun (n, code0, bef0, cds0, cnt0) => 16 - n) (1, 0, 0, List.replicate l.length 0, 0) ⟨rfl, rfl, rfl, rfl, rfl, trivial⟩ ⟨hs_2d, Nat.le_refl _, by omega, by rw [ordR_first]; rfl, by omega, by simp, by omega, by omega, fun _ => rfl⟩ ?_
  rintro ⟨n, code0, bef0, cds0, cnt0⟩ w_3 ⟨hs_3, h1n, hn16, hst0, hcd0, hcl0, hbn0, h0c0, h0d0⟩
  show CW _ _ _ _ [(0, v), (4, v_1), (5, (Value.int .u64 ((code0 : Nat) : Int))), (6, (Value.int .i64 ((bef0 : Nat) : Int))), (7, (Value.int .i64 ((n : Nat) : Int)))] _
  refine CW.seq ?_
  refine CW.seq ?_
  refine CW.region ?_
  refine RT.ev rfl rfl (Ev.move rfl) <| RT.ev rfl rfl (Ev.leqN (b := 15) rfl rfl) ?_
  refine RT.nil ?_
  refine CW.condD rfl (fun hc_1 => ?_) (fun hc_1 => ?_)
  · refine CW.skip ?_
    refine CW.seq ?_
    refine CW.block ?_
    refine CW.seq ?_
    refine CW.region ?_
    refine RT.ev rfl rfl (Ev.move rfl) <| RT.ev rfl rfl (Ev.lenL Try.underlying22 rfl (hv.ext hs_3.ext)) <| RT.ev rfl rfl (Ev.move rfl) ?_
    refine RT.nil ?_
    refine CW.block ?_
    refine CW.loop (α := Nat × Nat × Nat × List Nat × Nat) (fun (k, code, bef, cds, cnt) => [(0, v), (4, v_1), (5, (Value.int .u64 ((code : Nat) : Int))), (6, (Value.int .i64 ((bef : Nat) : Int))), (7, (Value.int .i64 ((n : Nat) : Int))), (20, v), (21, (Value.int .i64 ((l.length : Nat) : Int))), (22, (Value.int .i64 ((k : Nat) : Int)))]) (fun (k, code, bef, cds, cnt) w' => Sat w [cL v_1 108 (encN .u64) (cds)] w' ∧ (k ≤ l.length) ∧ (cdSt l (ordR l n k) = (cnt, code, bef, cds)) ∧ (code < 2 ^ 64) ∧ (cds.length = l.length) ∧ (bef ≤ n) ∧ (bef = 0 ↔ cnt = 0) ∧ (cnt = 0 → code = 0)) (fun (k, code, bef, cds, cnt) => l.length - k) (0, code0, bef0, cds0, cnt0) ⟨rfl, rfl, rfl, rfl, rfl, rfl, rfl, rfl, trivial⟩ ⟨hs_3, Nat.zero_le _, hst0, hcd0, hcl0, by omega, h0c0, h0d0⟩ ?_
    rintro ⟨k, code, bef, cds, cnt⟩ w_4 ⟨hs_4, hk, hst, hcd, hcl, hbn, h0c, h0d⟩
    show CW _ _ _ _ [(0, v), (4, v_1), (5, (Value.int .u64 ((code : Nat) : Int))), (6, (Value.int .i64 ((bef : Nat) : Int))), (7, (Value.int .i64 ((n : Nat) : Int))), (20, v), (21, (Value.int .i64 ((l.length : Nat) : Int))), (22, (Value.int .i64 ((k : Nat) : Int)))] _
    refine CW.seq ?_
    refine CW.region ?_
    refine RT.ev rfl rfl (Ev.lssN rfl rfl) ?_
    refine RT.nil ?_
    refine CW.seq ?_
    refine CW.condD rfl (fun hc_2 => ?_) (fun hc_2 => ?_)
    · refine CW.skip ?_
      refine CW.seq ?_
      refine CW.block ?_
      refine CW.seq ?_
      obtain ⟨x, hx⟩ : ∃ x, (l)[k]? = some x := ⟨_, List.getElem?_eq_getElem hc_2⟩
      refine CW.region ?_
      refine RT.ev rfl rfl (Ev.move rfl) <| RT.ev rfl rfl (Ev.idxL (E := encN .i64) sl22 rfl rfl (hv.ext hs_4.ext) (by omega)) <| RT.ev rfl rfl (Ev.ldL (E := encN .i64) scal3 rfl (hv.ext hs_4.ext) hx (by decide) rfl) <| RT.ev rfl rfl (Ev.assign rfl) <| RT.ev rfl rfl (Ev.assign rfl) ?_
      refine RT.nil ?_
      refine CW.seq ?_
      refine CW.seq ?_
      refine CW.region ?_
      refine RT.ev rfl rfl (Ev.move rfl) <| RT.ev rfl rfl (Ev.move rfl) <| RT.ev rfl rfl (Ev.neqN rfl rfl) ?_
      refine RT.nil ?_
      refine CW.condD rfl (fun hc_3 => ?_) (fun hc_3 => ?_)
      · refine CW.exit0 ?_
        refine CW.region ?_
        refine RT.ev rfl rfl (Ev.addI (b := 1) rfl rfl (by omega)) <| RT.ev rfl rfl (Ev.move rfl) ?_
        refine RT.nil ?_
        exact ⟨(k + 1, code, bef, cds, cnt), ⟨rfl, rfl, rfl, rfl, rfl, rfl, rfl, rfl, trivial⟩, ⟨hs_4, by omega, by rw [ordR_skip h1n hx (by simpa using hc_3)]; exact hst, hcd, hcl, hbn, h0c, h0d⟩, (show (l.length - (k + 1)) < (l.length - k) from by omega)⟩
      · refine CW.skip ?_
        refine CW.seq ?_
        refine CW.seq ?_
        have hxn : x = n := Classical.byContradiction fun h => hc_3 h
        have hlk : lenKey l k = n := by simp [lenKey, List.getD_eq_getElem?_getD, hx, hxn]
        refine CW.region ?_
        refine RT.ev rfl rfl (Ev.move rfl) <| RT.ev rfl rfl (Ev.eqlN (b := 0) rfl rfl) ?_
        refine RT.nil ?_
        refine CW.condD rfl (fun hc_4 => ?_) (fun hc_4 => ?_)
        · refine CW.region ?_
          refine RT.ev rfl rfl (Ev.assign rfl) ?_
          refine RT.nil ?_
          refine CW.region ?_
          refine RT.ev rfl rfl (Ev.move rfl) <| RT.ev rfl rfl (Ev.move rfl) <| RT.ev rfl rfl (Ev.move rfl) <| RT.ev rfl rfl (Ev.move rfl) <| RT.ev rfl rfl (Ev.idxL (E := encN .u64) sl167 rfl rfl (hs_4.rdL 0 rfl) (by omega)) ?_
          refine RT.eff rfl rfl (OpE.setL (a := 0) 0 one108 hs_4 rfl rfl rfl rfl (by omega) fun w_5 hs_5 hch_2 => ?_)
          have hs_5d : Sat w [cL v_1 108 (encN .u64) (cds.set k 0)] _ := hs_5
          refine RT.ev rfl rfl (Ev.assign rfl) ?_
          refine RT.nil ?_
          refine CW.region ?_
          refine RT.ev rfl rfl (Ev.addI (b := 1) rfl rfl (by omega)) <| RT.ev rfl rfl (Ev.move rfl) ?_
          refine RT.nil ?_
          exact ⟨(k + 1, 0, n, cds.set k 0, cnt + 1), ⟨rfl, rfl, rfl, rfl, rfl, rfl, rfl, rfl, trivial⟩, ⟨hs_5d, by omega, by rw [ordR_take h1n (by rw [hx, hxn]), cdSt_snoc, hst, cdStep_first (h0c.1 hc_4) (h0d (h0c.1 hc_4)), hlk], by omega, by simp only [List.length_set]; exact hcl, Nat.le_refl _, by omega, by omega⟩, (show (l.length - (k + 1)) < (l.length - k) from by omega)⟩
        · refine CW.region ?_
          refine RT.ev rfl rfl (Ev.move rfl) <| RT.ev rfl rfl (Ev.addN (b := 1) rfl rfl rfl) <| RT.ev rfl rfl (Ev.move rfl) <| RT.ev rfl rfl (Ev.move rfl) <| RT.ev rfl rfl (Ev.subI rfl rfl (by omega) (by omega)) <| RT.ev rfl rfl (Ev.convK (by rw [Try.underlying3]; rfl) Try.underlying138 rfl (wrap_u rfl (by (try simp only [IntKind.bits]); omega))) <| RT.ev rfl rfl (Ev.shlN rfl rfl rfl (by (try simp only [IntKind.bits]); omega)) <| RT.ev rfl rfl (Ev.assign rfl) ?_
          refine RT.nil ?_
          refine CW.region ?_
          refine RT.ev rfl rfl (Ev.move rfl) <| RT.ev rfl rfl (Ev.move rfl) <| RT.ev rfl rfl (Ev.move rfl) <| RT.ev rfl rfl (Ev.move rfl) <| RT.ev rfl rfl (Ev.idxL (E := encN .u64) sl167 rfl rfl (hs_4.rdL 0 rfl) (by omega)) ?_
          refine RT.eff rfl rfl (OpE.setL (a := (((code + 1) % 2 ^ 64) * 2 ^ (n - bef) % 2 ^ 64)) 0 one108 hs_4 rfl rfl rfl rfl (by omega) fun w_6 hs_6 hch_3 => ?_)
          have hs_6d : Sat w [cL v_1 108 (encN .u64) (cds.set k (((code + 1) % 2 ^ 64) * 2 ^ (n - bef) % 2 ^ 64))] _ := hs_6
          refine RT.ev rfl rfl (Ev.assign rfl) ?_
          refine RT.nil ?_
          refine CW.region ?_
          refine RT.ev rfl rfl (Ev.addI (b := 1) rfl rfl (by omega)) <| RT.ev rfl rfl (Ev.move rfl) ?_
          refine RT.nil ?_
          exact ⟨(k + 1, (((code + 1) % 2 ^ 64) * 2 ^ (n - bef) % 2 ^ 64), n, cds.set k (((code + 1) % 2 ^ 64) * 2 ^ (n - bef) % 2 ^ 64), cnt + 1), ⟨rfl, rfl, rfl, rfl, rfl, rfl, rfl, rfl, trivial⟩, ⟨hs_6d, by omega, by rw [ordR_take h1n (by rw [hx, hxn]), cdSt_snoc, hst, cdStep_next (fun h => hc_4 (h0c.2 h)), hlk], by omega, by simp only [List.length_set]; exact hcl, Nat.le_refl _, by omega, by omega⟩, (show (l.length - (k + 1)) < (l.length - k) from by omega)⟩
    · refine CW.exit0 ?_
      refine CW.region ?_
      refine RT.ev rfl rfl (Ev.move rfl) <| RT.ev rfl rfl (Ev.addI (b := 1) rfl rfl (by omega)) <| RT.ev rfl rfl (Ev.assign rfl) ?_
      refine RT.nil ?_
      exact ⟨(n + 1, code, bef, cds, cnt), ⟨rfl, rfl, rfl, rfl, rfl, trivial⟩, ⟨hs_4, by omega, by omega, by rw [← ordR_next, ← hst, show k = l.length by omega], hcd, hcl, by omega, h0c, h0d⟩, (show (16 - (n + 1)) < (16 - n) from by omega)⟩
  · refine CW.exit0 ?_
    refine CW.seq ?_
    refine CW.region ?_
    refine RT.ev rfl rfl (Ev.move rfl) <| RT.ev rfl rfl (Ev.assign rfl) <| RT.ev rfl rfl (Ev.assign rfl) ?_
    refine RT.nil ?_
    refine CW.ret ?_
    show PostK _ _ _ _ _ _
    refine post2 rfl rfl rfl ?_
    have hs_7 : Sat w [cL v_1 108 (encN .u64) (cds0)] w_3 := hs_3.sub ((.cons_cons _ .slnil))
    have hs_8 : Sat w [cL v_1 108 (encN .u64) (codesN l)] w_3 := by
      have hq : cds0 = codesN l := by unfold codesN; rw [← ordR_last (fun i => lenKey_le hb i), show 16 = n by omega, hst0]
      rw [← hq]; exact hs_7
    exact ⟨_, rfl, hs_8⟩

theorem rhencode_ok (v u : Value) (l syms : List Nat) (w : World) (hv : RdL w v (encN .i64) l) (hu : RdL w u (encN .i64) syms) (hn : l.length ≤ 1024) (hval : validB l = true) (hsn : syms.length ≤ 4096) (hsy : ∀ s ∈ syms, s < l.length ∧ 0 < lenKey l s) :
    CallsV Try.prog 108 [v, u] w fun r w' => ∃ v', r = .tuple #[v', .int .i64 ((hufB l syms).length : Int), .int .i64 ((0 : Nat) : Int)] ∧ Sat w [cL v' 5 (encN .u8) (packB (hufB l syms))] w' := by
  have hs0 := Sat.start w
  refine callsV_of Try.func108 rfl rfl ?_
  refine CW.seq ?_
  have hgl := GoodLens.of_valid hval
  refine CW.region ?_
  refine RT.ev rfl rfl (Ev.assign rfl) <| RT.ev rfl rfl (Ev.assign rfl) <| RT.ev rfl rfl (Ev.assign rfl) ?_
  refine RT.nil ?_
  refine CW.seq ?_
  refine CW.region ?_
  refine RT.ev rfl rfl (Ev.move rfl) ?_
  refine RT.eff rfl rfl (OpE.call ent145 rfl ((rcodes_ok _ (l) _ (hv.ext hs0.ext) (hn) (hval)).mono fun r_1 w_1 h_1 => ?_))
  obtain ⟨cv_1, rfl, hp_1⟩ := h_1
  have hs_1 : Sat w [cL cv_1 108 (encN .u64) (codesN l)] _ := hs0.adds hp_1
  refine RT.ev rfl rfl (Ev.move rfl) <| RT.ev rfl rfl (Ev.extract rfl rfl) <| RT.ev rfl rfl (Ev.extract rfl rfl) <| RT.ev rfl rfl (Ev.assign rfl) <| RT.ev rfl rfl (Ev.assign rfl) ?_
  refine RT.nil ?_
  refine CW.seq ?_
  refine CW.seq ?_
  refine CW.region ?_
  refine RT.ev rfl rfl (Ev.move rfl) <| RT.ev rfl rfl (Ev.neqN (a := 0) (b := 0) rfl rfl) ?_
  refine RT.nil ?_
  refine CW.condF rfl (decide_eq_false (by omega)) ?_
  refine CW.skip ?_
  refine CW.seq ?_
  refine CW.seq ?_
  refine CW.region ?_
  refine RT.ev rfl rfl (Ev.move rfl) <| RT.ev rfl rfl (Ev.lenL Try.underlying22 rfl (hu.ext hs_1.ext)) <| RT.ev rfl rfl (Ev.gtrN (b := 4096) rfl rfl) ?_
  refine RT.nil ?_
  refine CW.condF rfl (decide_eq_false (by omega)) ?_
  refine CW.skip ?_
  refine CW.seq ?_
  refine CW.region ?_
  refine RT.ev rfl rfl (Ev.assign rfl) ?_
  refine RT.nil ?_
  refine CW.seq ?_
  refine CW.seq ?_
  refine CW.region ?_
  refine RT.ev rfl rfl (Ev.move rfl) <| RT.ev rfl rfl (Ev.lenL Try.underlying22 rfl (hu.ext hs_1.ext)) <| RT.ev rfl rfl (Ev.move rfl) ?_
  refine RT.nil ?_
  refine CW.block ?_
  have hs_2 : Sat w [cL cv_1 108 (encN .u64) (codesN l), cL (Value.slice none 0 0) 4 (encB) ([])] _ := hs_1.newNilL 4 (encB)
  refine CW.loop (α := Nat × Value × List Bool) (fun (k, wv, bits) => [(0, v), (7, cv_1), (9, wv), (23, u), (24, (Value.int .i64 ((syms.length : Nat) : Int))), (25, (Value.int .i64 ((k : Nat) : Int)))]) (fun (k, wv, bits) w' => Sat w [cL cv_1 108 (encN .u64) (codesN l), cL wv 4 (encB) (bits)] w' ∧ (k ≤ syms.length) ∧ (bits = hufB l (syms.take k)) ∧ (bits.length ≤ 15 * k)) (fun (k, wv, bits) => syms.length - k) (0, (Value.slice none 0 0), []) ⟨rfl, rfl, rfl, rfl, rfl, rfl, trivial⟩ ⟨hs_2, Nat.zero_le _, rfl, Nat.le_refl _⟩ ?_
  rintro ⟨k, wv, bits⟩ w_2 ⟨hs_3, hk, hbits, hbl⟩
  show CW _ _ _ _ [(0, v), (7, cv_1), (9, wv), (23, u), (24, (Value.int .i64 ((syms.length : Nat) : Int))), (25, (Value.int .i64 ((k : Nat) : Int)))] _
  refine CW.seq ?_
  refine CW.region ?_
  refine RT.ev rfl rfl (Ev.lssN rfl rfl) ?_
  refine RT.nil ?_
  refine CW.seq ?_
  refine CW.condD rfl (fun hc_1 => ?_) (fun hc_1 => ?_)
  · refine CW.skip ?_
    refine CW.seq ?_
    refine CW.block ?_
    refine CW.seq ?_
    obtain ⟨x, hx⟩ : ∃ x, (syms)[k]? = some x := ⟨_, List.getElem?_eq_getElem hc_1⟩
    refine CW.region ?_
    refine RT.ev rfl rfl (Ev.idxL (E := encN .i64) sl22 rfl rfl (hu.ext hs_3.ext) (by omega)) <| RT.ev rfl rfl (Ev.ldL (E := encN .i64) scal3 rfl (hu.ext hs_3.ext) hx (by decide) rfl) <| RT.ev rfl rfl (Ev.assign rfl) ?_
    refine RT.nil ?_
    refine CW.seq ?_
    refine CW.seq ?_
    have hx0 := hsy x (mem_of_get hx)
    have hlx := lenKey_some hx0.1
    have hcdx := (code_of hgl hx0.2).2
    have hl15 := hgl.le x
    have hp15 : 2 ^ lenKey l x ≤ 2 ^ 15 := Nat.pow_le_pow_right (by decide) hl15
    have hcl := codesN_length l
    refine CW.region ?_
    refine RT.ev rfl rfl (Ev.move rfl) <| RT.ev rfl rfl (Ev.lssN (b := 0) rfl rfl) <| RT.ev rfl rfl (Ev.move rfl) ?_
    refine RT.yes rfl rfl rfl (decide_eq_false (by omega)) ?_
    refine RT.ev rfl rfl (Ev.move rfl) ?_
    refine RT.yes rfl rfl rfl (decide_eq_false (by omega)) ?_
    refine RT.ev rfl rfl (Ev.move rfl) ?_
    refine RT.yes rfl rfl rfl (decide_eq_false (by omega)) ?_
    refine RT.ev rfl rfl (Ev.lenL Try.underlying22 rfl (hv.ext hs_3.ext)) ?_
    refine RT.yes rfl rfl rfl (decide_eq_false (by omega)) ?_
    refine RT.ev rfl rfl (Ev.geqN rfl rfl) <| RT.ev rfl rfl (Ev.pickN rfl (decide_eq_false (by omega)) rfl) <| RT.ev rfl rfl (Ev.move rfl) ?_
    refine RT.yes rfl rfl rfl (decide_eq_false (by omega)) ?_
    refine RT.ev rfl rfl (Ev.move rfl) ?_
    refine RT.yes rfl rfl rfl (decide_eq_false (by omega)) ?_
    refine RT.ev rfl rfl (Ev.move rfl) ?_
    refine RT.yes rfl rfl rfl (decide_eq_false (by omega)) ?_
    refine RT.ev rfl rfl (Ev.idxL (E := encN .i64) sl22 rfl rfl (hv.ext hs_3.ext) (hx0.1)) ?_
    refine RT.yes rfl rfl rfl (decide_eq_false (by omega)) ?_
    refine RT.ev rfl rfl (Ev.ldL (E := encN .i64) scal3 rfl (hv.ext hs_3.ext) hlx (by decide) rfl) ?_
    refine RT.yes rfl rfl rfl (decide_eq_false (by omega)) ?_
    refine RT.ev rfl rfl (Ev.eqlN (b := 0) rfl rfl) <| RT.ev rfl rfl (Ev.pickN rfl (decide_eq_false (by omega)) rfl) ?_
    refine RT.nil ?_
    refine CW.condF rfl (decide_eq_false (by omega)) ?_
    refine CW.skip ?_
    have hshp_1 := (hs_3.rdL (E := encB) 1 rfl).shp (by decide)
    refine CW.draw (fun w' => Sat w [cL cv_1 108 (encN .u64) (codesN l)] w') (.free 0 (.free 1 (.free 2 (.free 3 (.free 4 (.free 5 (.free 6 (.free 7 (.free 8 (.one 9 (.one 10 (.free 11 .fin)))))))))))) mixed (by kernel_rfl) ?_
    have hs_4 := hs_3.drew
    have hS_1 : Sat w [cL cv_1 108 (encN .u64) (codesN l)] _ := hs_4.sub ((.cons_cons _ (.cons _ .slnil)))
    refine RP.ev rfl rfl rfl (fun w' hS' => Ev.move rfl) hS_1 ?_
    refine RP.ev rfl rfl rfl (fun w' hS' => Ev.move rfl) hS_1 ?_
    refine RP.ev rfl rfl rfl (fun w' hS' => Ev.move rfl) hS_1 ?_
    refine RP.ev rfl rfl rfl (fun w' hS' => Ev.idxL (E := encN .u64) sl167 rfl rfl (hS'.rdL 0 rfl) (by omega)) hS_1 ?_
    refine RP.ev rfl rfl rfl (fun w' hS' => Ev.ldL (E := encN .u64) scal108 rfl (hS'.rdL 0 rfl) (code_of hgl hx0.2).1 (by decide) rfl) hS_1 ?_
    refine RP.ev rfl rfl rfl (fun w' hS' => Ev.move rfl) hS_1 ?_
    refine RP.ev rfl rfl rfl (fun w' hS' => Ev.move rfl) hS_1 ?_
    refine RP.ev rfl rfl rfl (fun w' hS' => Ev.idxL (E := encN .i64) sl22 rfl rfl (hv.ext hS'.ext) (hx0.1)) hS_1 ?_
    refine RP.ev rfl rfl rfl (fun w' hS' => Ev.ldL (E := encN .i64) scal3 rfl (hv.ext hS'.ext) hlx (by decide) rfl) hS_1 ?_
    refine RP.eff rfl rfl rfl (OpE.call ent146 rfl ((rlow_ok ((cdOf l x)) ((lenKey l x)) _ (by omega) (by omega)).mono fun r_2 w_3 h_2 => ?_))
    have hp_2 := h_2
    have hs_5 : Sat w [cL cv_1 108 (encN .u64) (codesN l), cL wv 4 (encB) (bits), cL r_2 4 (encB) (lowB (cdOf l x) (lenKey l x))] _ := hs_4.adds hp_2
    have hS_2 : Sat w [cL cv_1 108 (encN .u64) (codesN l)] _ := hs_5.sub ((.cons_cons _ (.cons _ (.cons _ .slnil))))
    refine ⟨hS_2, ?_⟩
    refine RP.eff rfl rfl rfl (OpE.appendL 1 sl180 hs_5 rfl rfl rfl Try.underlying180 (hs_5.rdL 2 rfl) (by simp only [List.length_append, lowB_length]; omega) (by simp only [List.length_append, lowB_length]; omega) fun v_1 w_4 hs_6 hch_1 => ?_)
    have hs_6d : Sat w [cL cv_1 108 (encN .u64) (codesN l), cL v_1 4 (encB) (bits ++ lowB (cdOf l x) (lenKey l x)), cL r_2 4 (encB) (lowB (cdOf l x) (lenKey l x))] _ := hs_6
    have hS_3 : Sat w [cL cv_1 108 (encN .u64) (codesN l)] _ := hs_6d.sub ((.cons_cons _ (.cons _ (.cons _ .slnil))))
    refine ⟨hS_3, ?_⟩
    refine RP.ev rfl rfl rfl (fun w' hS' => Ev.assign rfl) hS_3 ?_
    refine RP.fin ?_
    refine CW.region ?_
    refine RT.ev rfl rfl (Ev.addI (b := 1) rfl rfl (by omega)) <| RT.ev rfl rfl (Ev.move rfl) ?_
    refine RT.nil ?_
    have hs_7 : Sat w [cL cv_1 108 (encN .u64) (codesN l), cL v_1 4 (encB) (bits ++ lowB (cdOf l x) (lenKey l x))] w_4 := hs_6d.sub ((.cons_cons _ (.cons_cons _ (.cons _ .slnil))))
    exact ⟨(k + 1, v_1, bits ++ lowB (cdOf l x) (lenKey l x)), ⟨rfl, rfl, rfl, rfl, rfl, rfl, trivial⟩, ⟨hs_7, by omega, by rw [take_succ_of hx, hufB_snoc, hbits], by simp only [List.length_append, lowB_length]; omega⟩, (show (syms.length - (k + 1)) < (syms.length - k) from by omega)⟩
  · refine CW.exit0 ?_
    refine CW.seq ?_
    refine CW.region ?_
    refine RT.ev rfl rfl (Ev.move rfl) ?_
    refine RT.eff rfl rfl (OpE.call ent147 rfl ((rpack_ok _ (bits) _ (hs_3.rdL 1 rfl) (by omega)).mono fun r_3 w_5 h_3 => ?_))
    have hp_3 := h_3
    have hs_8 : Sat w [cL cv_1 108 (encN .u64) (codesN l), cL wv 4 (encB) (bits), cL r_3 5 (encN .u8) (packB (bits))] _ := hs_3.adds hp_3
    refine RT.ev rfl rfl (Ev.move rfl) <| RT.ev rfl rfl (Ev.lenL Try.underlying180 rfl (hs_8.rdL 1 rfl)) <| RT.ev rfl rfl (Ev.assign rfl) <| RT.ev rfl rfl (Ev.assign rfl) <| RT.ev rfl rfl (Ev.assign rfl) ?_
    refine RT.nil ?_
    refine CW.ret ?_
    show PostK _ _ _ _ _ _
    refine post3 rfl rfl rfl rfl ?_
    have hs_9 : Sat w [cL r_3 5 (encN .u8) (packB (bits))] w_5 := hs_8.sub ((.cons _ (.cons _ (.cons_cons _ .slnil))))
    have hkl : bits = hufB l syms := by rw [hbits, show k = syms.length by omega, List.take_length]
    subst hkl
    exact ⟨_, rfl, hs_9⟩

end Go.Proofs.Ytfhbflhnelbkfaa

/- The walks of the functions of F14p, printed by our own program (kwgen.py) out of our descriptions (base.py). -/
namespace Go.Proofs.Ytfhbflhnelbkfaa
open Go.RowKit Go.Kw
set_option maxRecDepth 100000
set_option linter.unusedVariables false
set_option linter.unusedSimpArgs false
theorem rmerge_ok (v u : Value) (a b : List RI) (w : World) (hv : RdL w v encRI a) (hu : RdL w u encRI b) (hn : a.length ≤ 4096) (hm : b.length ≤ 4096) :
    CallsV Try.prog 144 [v, u] w fun r w' => Sat w [cL r 176 encRI (mrgR a b)] w' := by
  have hs0 := Sat.start w
  refine callsV_of Try.func144 rfl rfl ?_
  refine CW.seq ?_
  refine CW.region ?_
  refine RT.ev rfl rfl (Ev.assign rfl) ?_
  refine RT.nil ?_
  refine CW.seq ?_
  refine CW.region ?_
  refine RT.ev rfl rfl (Ev.assign rfl) ?_
  refine RT.nil ?_
  refine CW.seq ?_
  refine CW.region ?_
  refine RT.ev rfl rfl (Ev.assign rfl) ?_
  refine RT.nil ?_
  refine CW.seq ?_
  refine CW.seq ?_
  refine CW.region ?_
  refine RT.ev rfl rfl (Ev.move rfl) <| RT.ev rfl rfl (Ev.lenL Try.underlying174 rfl (hu.ext hs0.ext)) <| RT.ev rfl rfl (Ev.move rfl) ?_
  refine RT.nil ?_
  refine CW.block ?_
  have hs_1 : Sat w [cL (Value.slice none 0 0) 176 (encRI) ([])] _ := hs0.newNilL 176 (encRI)
  refine CW.loop (α := Nat × Nat × Value × List RI) (fun (k, i, ov, out) => [(0, v), (5, ov), (6, (Value.int .i64 ((i : Nat) : Int))), (9, u), (10, (Value.int .i64 ((b.length : Nat) : Int))), (11, (Value.int .i64 ((k : Nat) : Int)))]) (fun (k, i, ov, out) w' => Sat w [cL ov 176 (encRI) (out)] w' ∧ (k ≤ b.length) ∧ (i ≤ a.length) ∧ (out ++ mrgR (a.drop i) (b.drop k) = mrgR a b) ∧ (out.length = i + k)) (fun (k, i, ov, out) => b.length - k) (0, 0, (Value.slice none 0 0), []) ⟨rfl, rfl, rfl, rfl, rfl, rfl, trivial⟩ ⟨hs_1, Nat.zero_le _, Nat.zero_le _, rfl, rfl⟩ ?_
  rintro ⟨k, i, ov, out⟩ w_1 ⟨hs_2, hk, hi, hout, hol⟩
  show CW _ _ _ _ [(0, v), (5, ov), (6, (Value.int .i64 ((i : Nat) : Int))), (9, u), (10, (Value.int .i64 ((b.length : Nat) : Int))), (11, (Value.int .i64 ((k : Nat) : Int)))] _
  refine CW.seq ?_
  refine CW.region ?_
  refine RT.ev rfl rfl (Ev.lssN rfl rfl) ?_
  refine RT.nil ?_
  refine CW.seq ?_
  refine CW.condD rfl (fun hc_1 => ?_) (fun hc_1 => ?_)
  · refine CW.skip ?_
    refine CW.seq ?_
    refine CW.block ?_
    refine CW.seq ?_
    obtain ⟨x, hx⟩ : ∃ x, (b)[k]? = some x := ⟨_, List.getElem?_eq_getElem hc_1⟩
    refine CW.region ?_
    refine RT.ev rfl rfl (Ev.idxL (E := encRI) sl174 rfl rfl (hu.ext hs_2.ext) (by omega)) <| RT.ev rfl rfl (Ev.ldAgg (E := encRI) agg176 rfl (hu.ext hs_2.ext) hx (by decide)) ?_
    refine RT.eff rfl rfl (OpE.alloc hs_2 zero176 fun b_1 w_2 hs_3 hch_1 hb_1 => ?_)
    have hs_3d : Sat w [cL ov 176 (encRI) (out), cObj b_1 176 [(Value.int .i64 ((0 : Nat) : Int)), (Value.bool false), (Value.slice none 0 0)]] _ := hs_3
    refine RT.eff rfl rfl (OpE.storeObjA (vs := (encRI).enc x) agg176 hs_3d (i := 1) rfl rfl rfl rfl ((encRI).one _) fun w_3 hs_4 hch_2 => ?_)
    have hs_4d : Sat w [cL ov 176 (encRI) (out), cObj b_1 176 [(Value.int .i64 ((x.w : Nat) : Int)), (Value.bool x.leaf), x.sv.val]] _ := hs_4
    refine RT.nil ?_
    refine CW.seq ?_
    refine CW.block ?_
    refine CW.loop (α := Nat × Value × List RI) (fun (i, ov, out) => [(0, v), (5, ov), (6, (Value.int .i64 ((i : Nat) : Int))), (8, (Value.pointer (some ⟨b_1, 0, none⟩))), (9, u), (10, (Value.int .i64 ((b.length : Nat) : Int))), (11, (Value.int .i64 ((k : Nat) : Int)))]) (fun (i, ov, out) w' => Sat w [cL ov 176 (encRI) (out), cObj b_1 176 [(Value.int .i64 ((x.w : Nat) : Int)), (Value.bool x.leaf), x.sv.val]] w' ∧ (i ≤ a.length) ∧ (out ++ mrgR (a.drop i) (b.drop k) = mrgR a b) ∧ (out.length = i + k)) (fun (i, ov, out) => a.length - i) (i, ov, out) ⟨rfl, rfl, rfl, rfl, rfl, rfl, rfl, trivial⟩ ⟨hs_4d, hi, hout, hol⟩ ?_
    rintro ⟨i, ov, out⟩ w_4 ⟨hs_5, hi, hout, hol⟩
    show CW _ _ _ _ [(0, v), (5, ov), (6, (Value.int .i64 ((i : Nat) : Int))), (8, (Value.pointer (some ⟨b_1, 0, none⟩))), (9, u), (10, (Value.int .i64 ((b.length : Nat) : Int))), (11, (Value.int .i64 ((k : Nat) : Int)))] _
    refine CW.seq ?_
    refine CW.seq ?_
    rcases Nat.lt_or_ge i a.length with hw | hw
    · obtain ⟨y, hy⟩ : ∃ y, (a)[i]? = some y := ⟨_, List.getElem?_eq_getElem (hw)⟩
      refine CW.draw (fun w' => Sat w [cL ov 176 (encRI) (out), cObj b_1 176 [(Value.int .i64 ((x.w : Nat) : Int)), (Value.bool x.leaf), x.sv.val]] w') (.free 0 (.free 1 (.free 2 (.free 3 (.free 4 (.free 5 (.free 6 (.free 7 (.free 8 (.free 9 (.free 10 (.free 11 (.free 12 (.free 13 .fin)))))))))))))) mixed (by kernel_rfl) ?_
      have hs_6 := hs_5.drew
      refine RP.ev rfl rfl rfl (fun w' hS' => Ev.move rfl) hs_6 ?_
      refine RP.ev rfl rfl rfl (fun w' hS' => Ev.move rfl) hs_6 ?_
      refine RP.ev rfl rfl rfl (fun w' hS' => Ev.lenL Try.underlying174 rfl (hv.ext hS'.ext)) hs_6 ?_
      refine RP.ev rfl rfl rfl (fun w' hS' => Ev.lssN rfl rfl) hs_6 ?_
      refine RP.ev rfl rfl rfl (fun w' hS' => Ev.move rfl) hs_6 ?_
      refine RP.evYes rfl rfl rfl rfl (decide_eq_true hw) rfl (fun w' hS' => Ev.move rfl) hs_6 ?_
      refine RP.evYes rfl rfl rfl rfl (decide_eq_true hw) rfl (fun w' hS' => Ev.move rfl) hs_6 ?_
      refine RP.evYes rfl rfl rfl rfl (decide_eq_true hw) rfl (fun w' hS' => Ev.idxL (E := encRI) sl174 rfl rfl (hv.ext hS'.ext) (by omega)) hs_6 ?_
      refine RP.evYes rfl rfl rfl rfl (decide_eq_true hw) rfl (fun w' hS' => Ev.fldL (E := encRI) fld176_0 rfl (hv.ext hS'.ext) (by omega) (by decide)) hs_6 ?_
      refine RP.evYes rfl rfl rfl rfl (decide_eq_true hw) rfl (fun w' hS' => Ev.ldLF (E := encRI) scal3 rfl (hv.ext hS'.ext) hy (by decide) rfl) hs_6 ?_
      refine RP.evYes rfl rfl rfl rfl (decide_eq_true hw) rfl (fun w' hS' => Ev.fieldAddr fld176_0 rfl rfl) hs_6 ?_
      refine RP.evYes rfl rfl rfl rfl (decide_eq_true hw) rfl (fun w' hS' => Ev.load scal3 rfl (hS'.cell (i := 1) (j := 0) rfl rfl)) hs_6 ?_
      refine RP.evYes rfl rfl rfl rfl (decide_eq_true hw) rfl (fun w' hS' => Ev.leqN rfl rfl) hs_6 ?_
      refine RP.ev rfl rfl rfl (fun w' hS' => Ev.pickY rfl (decide_eq_true hw) rfl) hs_6 ?_
      refine RP.fin ?_
      refine CW.condD rfl (fun hc_2 => ?_) (fun hc_2 => ?_)
      · refine CW.skip ?_
        refine CW.block ?_
        refine CW.seq ?_
        refine CW.region ?_
        refine RT.ev rfl rfl (Ev.move rfl) <| RT.ev rfl rfl (Ev.move rfl) <| RT.ev rfl rfl (Ev.move rfl) <| RT.ev rfl rfl (Ev.idxL (E := encRI) sl174 rfl rfl (hv.ext hs_6.ext) (by omega)) <| RT.ev rfl rfl (Ev.ldAgg (E := encRI) agg176 rfl (hv.ext hs_6.ext) hy (by decide)) ?_
        refine RT.eff rfl rfl (OpE.lit1A (encRI) y sl174 (by decide) (by decide) hs_6 rfl fun v_1 w_5 hs_7 hch_3 => ?_)
        have hs_7d : Sat w [cL ov 176 (encRI) (out), cObj b_1 176 [(Value.int .i64 ((x.w : Nat) : Int)), (Value.bool x.leaf), x.sv.val], cL v_1 176 (encRI) ([y])] _ := hs_7
        refine RT.eff rfl rfl (OpE.appendL 0 sl174 hs_7d rfl rfl rfl Try.underlying174 (hs_7d.rdL 2 rfl) (by (try simp only [List.length_append]); simp; omega) (by (try simp only [List.length_append]); simp; omega) fun v_2 w_6 hs_8 hch_4 => ?_)
        have hs_8d : Sat w [cL v_2 176 (encRI) (out ++ [y]), cObj b_1 176 [(Value.int .i64 ((x.w : Nat) : Int)), (Value.bool x.leaf), x.sv.val]] _ := hs_8.drop 2
        refine RT.ev rfl rfl (Ev.assign rfl) ?_
        refine RT.nil ?_
        refine CW.region ?_
        refine RT.ev rfl rfl (Ev.move rfl) <| RT.ev rfl rfl (Ev.addI (b := 1) rfl rfl (by omega)) <| RT.ev rfl rfl (Ev.assign rfl) ?_
        refine RT.nil ?_
        have hs_9 : Sat w [cL v_2 176 (encRI) (out ++ [y]), cObj b_1 176 [(Value.int .i64 ((x.w : Nat) : Int)), (Value.bool x.leaf), x.sv.val]] w_6 := hs_8d.sub ((.cons_cons _ (.cons_cons _ .slnil)))
        exact ⟨(i + 1, v_2, out ++ [y]), ⟨rfl, rfl, rfl, rfl, rfl, rfl, rfl, trivial⟩, ⟨hs_9, by omega, by rw [← hout, mrgR_left hy hx hc_2]; simp, by simp; omega⟩, (show (a.length - (i + 1)) < (a.length - i) from by omega)⟩
      · refine CW.exit0 ?_
        have hge : ∀ z, a[i]? = some z → ¬ z.w ≤ x.w := fun z hz => by rw [hy] at hz; cases hz; exact hc_2
        refine CW.region ?_
        refine RT.ev rfl rfl (Ev.move rfl) <| RT.ev rfl rfl (Ev.ldObj agg176 rfl hs_6 (i := 1) rfl rfl) ?_
        refine RT.eff rfl rfl (OpE.lit1A (encRI) x sl174 (by decide) (by decide) hs_6 rfl fun v_3 w_7 hs_10 hch_5 => ?_)
        have hs_10d : Sat w [cL ov 176 (encRI) (out), cObj b_1 176 [(Value.int .i64 ((x.w : Nat) : Int)), (Value.bool x.leaf), x.sv.val], cL v_3 176 (encRI) ([x])] _ := hs_10
        refine RT.eff rfl rfl (OpE.appendL 0 sl174 hs_10d rfl rfl rfl Try.underlying174 (hs_10d.rdL 2 rfl) (by (try simp only [List.length_append]); simp; omega) (by (try simp only [List.length_append]); simp; omega) fun v_4 w_8 hs_11 hch_6 => ?_)
        have hs_11d : Sat w [cL v_4 176 (encRI) (out ++ [x]), cObj b_1 176 [(Value.int .i64 ((x.w : Nat) : Int)), (Value.bool x.leaf), x.sv.val]] _ := hs_11.drop 2
        refine RT.ev rfl rfl (Ev.assign rfl) ?_
        refine RT.nil ?_
        refine CW.region ?_
        refine RT.ev rfl rfl (Ev.addI (b := 1) rfl rfl (by omega)) <| RT.ev rfl rfl (Ev.move rfl) ?_
        refine RT.nil ?_
        have hs_12 : Sat w [cL v_4 176 (encRI) (out ++ [x])] w_8 := hs_11d.sub ((.cons_cons _ (.cons _ .slnil)))
        exact ⟨(k + 1, i, v_4, out ++ [x]), ⟨rfl, rfl, rfl, rfl, rfl, rfl, trivial⟩, ⟨hs_12, by omega, hi, by rw [← hout, mrgR_right hx hge]; simp, by simp; omega⟩, (show (b.length - (k + 1)) < (b.length - k) from by omega)⟩
    · refine CW.draw (fun w' => Sat w [cL ov 176 (encRI) (out), cObj b_1 176 [(Value.int .i64 ((x.w : Nat) : Int)), (Value.bool x.leaf), x.sv.val]] w') (.free 0 (.free 1 (.free 2 (.free 3 (.free 4 (.free 5 (.free 6 (.free 7 (.free 8 (.free 9 (.free 10 (.free 11 (.free 12 (.free 13 .fin)))))))))))))) mixed (by kernel_rfl) ?_
      have hs_13 := hs_5.drew
      refine RP.ev rfl rfl rfl (fun w' hS' => Ev.move rfl) hs_13 ?_
      refine RP.ev rfl rfl rfl (fun w' hS' => Ev.move rfl) hs_13 ?_
      refine RP.ev rfl rfl rfl (fun w' hS' => Ev.lenL Try.underlying174 rfl (hv.ext hS'.ext)) hs_13 ?_
      refine RP.ev rfl rfl rfl (fun w' hS' => Ev.lssN rfl rfl) hs_13 ?_
      refine RP.ev rfl rfl rfl (fun w' hS' => Ev.move rfl) hs_13 ?_
      refine RP.no rfl rfl rfl rfl (decide_eq_false (by omega)) rfl hs_13 ?_
      refine RP.no rfl rfl rfl rfl (decide_eq_false (by omega)) rfl hs_13 ?_
      refine RP.no rfl rfl rfl rfl (decide_eq_false (by omega)) rfl hs_13 ?_
      refine RP.no rfl rfl rfl rfl (decide_eq_false (by omega)) rfl hs_13 ?_
      refine RP.no rfl rfl rfl rfl (decide_eq_false (by omega)) rfl hs_13 ?_
      refine RP.no rfl rfl rfl rfl (decide_eq_false (by omega)) rfl hs_13 ?_
      refine RP.no rfl rfl rfl rfl (decide_eq_false (by omega)) rfl hs_13 ?_
      refine RP.no rfl rfl rfl rfl (decide_eq_false (by omega)) rfl hs_13 ?_
      refine RP.ev rfl rfl rfl (fun w' hS' => Ev.pickN rfl (decide_eq_false (by omega)) rfl) hs_13 ?_
      refine RP.fin ?_
      refine CW.condF rfl (rfl) ?_
      refine CW.exit0 ?_
      have hge : ∀ z, a[i]? = some z → ¬ z.w ≤ x.w := fun z hz => by have := lt_of_get hz; omega
      refine CW.region ?_
      refine RT.ev rfl rfl (Ev.move rfl) <| RT.ev rfl rfl (Ev.ldObj agg176 rfl hs_13 (i := 1) rfl rfl) ?_
      refine RT.eff rfl rfl (OpE.lit1A (encRI) x sl174 (by decide) (by decide) hs_13 rfl fun v_5 w_9 hs_14 hch_7 => ?_)
      have hs_14d : Sat w [cL ov 176 (encRI) (out), cObj b_1 176 [(Value.int .i64 ((x.w : Nat) : Int)), (Value.bool x.leaf), x.sv.val], cL v_5 176 (encRI) ([x])] _ := hs_14
      refine RT.eff rfl rfl (OpE.appendL 0 sl174 hs_14d rfl rfl rfl Try.underlying174 (hs_14d.rdL 2 rfl) (by (try simp only [List.length_append]); simp; omega) (by (try simp only [List.length_append]); simp; omega) fun v_6 w_10 hs_15 hch_8 => ?_)
      have hs_15d : Sat w [cL v_6 176 (encRI) (out ++ [x]), cObj b_1 176 [(Value.int .i64 ((x.w : Nat) : Int)), (Value.bool x.leaf), x.sv.val]] _ := hs_15.drop 2
      refine RT.ev rfl rfl (Ev.assign rfl) ?_
      refine RT.nil ?_
      refine CW.region ?_
      refine RT.ev rfl rfl (Ev.addI (b := 1) rfl rfl (by omega)) <| RT.ev rfl rfl (Ev.move rfl) ?_
      refine RT.nil ?_
      have hs_16 : Sat w [cL v_6 176 (encRI) (out ++ [x])] w_10 := hs_15d.sub ((.cons_cons _ (.cons _ .slnil)))
      exact ⟨(k + 1, i, v_6, out ++ [x]), ⟨rfl, rfl, rfl, rfl, rfl, rfl, trivial⟩, ⟨hs_16, by omega, hi, by rw [← hout, mrgR_right hx hge]; simp, by simp; omega⟩, (show (b.length - (k + 1)) < (b.length - k) from by omega)⟩
  · refine CW.exit0 ?_
    refine CW.seq ?_
    refine CW.region ?_
    refine RT.ev rfl rfl (Ev.move rfl) <| RT.ev rfl rfl (Ev.move rfl) <| RT.ev rfl rfl (Ev.move rfl) <| RT.ev rfl rfl (Ev.sliceL (E := encRI) (a := i) (c := (a).length) sl174 rfl (hv.ext hs_2.ext) ⟨_, rfl⟩ rfl (by omega) (Nat.le_refl _)) ?_
    refine RT.eff rfl rfl (OpE.appendL 0 sl174 hs_2 rfl rfl rfl Try.underlying174 (((hv.ext hs_2.ext)).sub (a := i) (b := (a).length) (by omega) (Nat.le_refl _)) (by simp; omega) (by simp; omega) fun v_7 w_11 hs_17 hch_9 => ?_)
    have hs_17d : Sat w [cL v_7 176 (encRI) (out ++ ((a).take ((a).length)).drop i)] _ := hs_17
    refine RT.ev rfl rfl (Ev.assign rfl) ?_
    refine RT.nil ?_
    refine CW.ret ?_
    show PostK _ _ _ _ _ _
    refine post1 rfl rfl ?_
    have hs_18 : Sat w [cL v_7 176 (encRI) (out ++ ((a).take ((a).length)).drop i)] w_11 := hs_17d.sub ((.cons_cons _ .slnil))
    have hs_19 : Sat w [cL v_7 176 (encRI) (mrgR a b)] w_11 := by
      have hq : out ++ ((a).take ((a).length)).drop i = mrgR a b := by rw [← hout, show k = b.length by omega, List.drop_length, mrgR_nil]; simp
      rw [← hq]; exact hs_18
    exact hs_19

end Go.Proofs.Ytfhbflhnelbkfaa
