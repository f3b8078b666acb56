/- The walks of the functions of F02, printed by our own program (kwgen.py) out of our descriptions (base.py). -/
import Derived.Test.YtfhbflhnelbkfaaM02
import Derived.Test.YtfhbflhnelbkfaaKs
import Derived.Test.YtfhbflhnelbkfaaShelf
import Derived.Test.YtfhbflhnelbkfaaTab
namespace Go.Proofs.Ytfhbflhnelbkfaa
open Go.RowKit Go.Kw
set_option maxRecDepth 100000
set_option linter.unusedVariables false
set_option linter.unusedSimpArgs false
theorem put_ok (bv : Value) (l : List Nat) (v : Nat) (w : World) (hb : RdL w bv (encN .u8) l) (hn : l.length ≤ 1000000000000) (hv : v < 2 ^ 64) :
    CallsV Try.prog 83 [bv, (Value.int .u64 ((v : Nat) : Int))] w fun r w' => Sat w [cL r 5 (encN .u8) (l ++ uv v)] w' := by
  have hs0 := Sat.start w
  refine callsV_of Try.func83 rfl rfl ?_
  refine CW.seq ?_
  refine CW.region ?_
  refine RT.ev rfl rfl (Ev.assign rfl) ?_
  refine RT.nil ?_
  refine CW.seq ?_
  refine CW.region ?_
  refine RT.ev rfl rfl (Ev.move rfl) <| RT.ev rfl rfl (Ev.lenL Try.underlying40 rfl (hb.ext hs0.ext)) <| RT.ev rfl rfl (Ev.move rfl) <| RT.ev rfl rfl (Ev.lenL Try.underlying40 rfl (hb.ext hs0.ext)) <| RT.ev rfl rfl (Ev.addI (b := 10) rfl rfl (by omega)) ?_
  refine RT.eff rfl rfl (OpE.makeL (encN .u8) (0) sl40 rfl hs0 rfl rfl (by omega) (by omega) (by omega) fun v_1 w_1 hs_1 hch_1 => ?_)
  have hs_1d : Sat w [cL v_1 5 (encN .u8) (List.replicate (l.length) 0)] _ := hs_1
  refine RT.ev rfl rfl (Ev.assign rfl) ?_
  refine RT.nil ?_
  refine CW.seq ?_
  refine CW.region ?_
  refine RT.ev rfl rfl (Ev.move rfl) <| RT.ev rfl rfl (Ev.move rfl) ?_
  refine RT.eff rfl rfl (OpE.copyL 0 sl40 rfl hs_1d rfl rfl rfl (hb.ext hs_1d.ext) fun w_2 hs_2 hch_2 => ?_)
  have hs_2d : Sat w [cL v_1 5 (encN .u8) (l)] w_2 := by
    have hq : (l).take (List.replicate (l.length) 0).length ++ (List.replicate (l.length) 0).drop (l).length = l := by simp
    rw [← hq]; exact hs_2
  refine RT.nil ?_
  refine CW.seq ?_
  refine CW.block ?_
  refine CW.loop (α := Nat × Value × List Nat) (fun (v2, out, acc) => [(1, (Value.int .u64 ((v2 : Nat) : Int))), (5, out)]) (fun (v2, out, acc) w' => Sat w [cL out 5 (encN .u8) (acc)] w' ∧ (v2 < 2 ^ 64) ∧ (acc ++ uv v2 = l ++ uv v)) (fun (v2, out, acc) => v2) (v, v_1, l) ⟨rfl, rfl, trivial⟩ ⟨hs_2d, hv, rfl⟩ ?_
  rintro ⟨v2, out, acc⟩ w_3 ⟨hs_3, hv2, hacc⟩
  show CW _ _ _ _ [(1, (Value.int .u64 ((v2 : Nat) : Int))), (5, out)] _
  have hl2 := congrArg List.length hacc
  simp only [List.length_append] at hl2
  have hu1 := uv_le v
  have hu2 := uv_pos v2
  refine CW.seq ?_
  refine CW.seq ?_
  refine CW.region ?_
  refine RT.ev rfl rfl (Ev.move rfl) <| RT.ev rfl rfl (Ev.geqN (b := 128) rfl rfl) ?_
  refine RT.nil ?_
  refine CW.condD rfl (fun hc_1 => ?_) (fun hc_1 => ?_)
  · refine CW.skip ?_
    refine CW.block ?_
    refine CW.seq ?_
    refine CW.region ?_
    refine RT.ev rfl rfl (Ev.move rfl) <| RT.ev rfl rfl (Ev.move rfl) <| RT.ev rfl rfl (Ev.convN (by rw [Try.underlying108]; rfl) Try.underlying5 rfl rfl) <| RT.ev rfl rfl (Ev.orN (b := 128) rfl rfl rfl (by (try simp only [IntKind.bits]); omega) (by (try simp only [IntKind.bits]); omega)) ?_
    refine RT.eff rfl rfl (OpE.lit1 (encN .u8) ((v2 % 2 ^ 8) ||| 128) sl40 rfl hs_3 rfl fun v_2 w_4 hs_4 hch_3 => ?_)
    have hs_4d : Sat w [cL out 5 (encN .u8) (acc), cL v_2 5 (encN .u8) ([((v2 % 2 ^ 8) ||| 128)])] _ := hs_4
    refine RT.eff rfl rfl (OpE.appendL 0 sl40 hs_4d rfl rfl rfl Try.underlying40 (hs_4d.rdL 1 rfl) (by simp; omega) (by simp; omega) fun v_3 w_5 hs_5 hch_4 => ?_)
    have hs_5d : Sat w [cL v_3 5 (encN .u8) (acc ++ [((v2 % 2 ^ 8) ||| 128)])] _ := hs_5.drop 1
    refine RT.ev rfl rfl (Ev.assign rfl) ?_
    refine RT.nil ?_
    refine CW.region ?_
    refine RT.ev rfl rfl (Ev.move rfl) <| RT.ev rfl rfl (Ev.shrN (b := 7) rfl rfl (by (try simp only [IntKind.bits]); omega)) <| RT.ev rfl rfl (Ev.assign rfl) ?_
    refine RT.nil ?_
    exact ⟨((v2 / 2 ^ 7), v_3, acc ++ [((v2 % 2 ^ 8) ||| 128)]), ⟨rfl, rfl, trivial⟩, ⟨hs_5d, by omega, by rw [← hacc, uv_step v2 hv2 hc_1]; simp⟩, (show (((v2 / 2 ^ 7))) < (v2) from by omega)⟩
  · refine CW.exit0 ?_
    refine CW.seq ?_
    refine CW.region ?_
    refine RT.ev rfl rfl (Ev.move rfl) <| RT.ev rfl rfl (Ev.move rfl) <| RT.ev rfl rfl (Ev.convN (by rw [Try.underlying108]; rfl) Try.underlying5 rfl rfl) ?_
    refine RT.eff rfl rfl (OpE.lit1 (encN .u8) (v2 % 2 ^ 8) sl40 rfl hs_3 rfl fun v_4 w_6 hs_6 hch_5 => ?_)
    have hs_6d : Sat w [cL out 5 (encN .u8) (acc), cL v_4 5 (encN .u8) ([(v2 % 2 ^ 8)])] _ := hs_6
    refine RT.eff rfl rfl (OpE.appendL 0 sl40 hs_6d rfl rfl rfl Try.underlying40 (hs_6d.rdL 1 rfl) (by simp; omega) (by simp; omega) fun v_5 w_7 hs_7 hch_6 => ?_)
    have hs_7d : Sat w [cL v_5 5 (encN .u8) (acc ++ [(v2 % 2 ^ 8)])] _ := hs_7.drop 1
    refine RT.ev rfl rfl (Ev.assign rfl) ?_
    refine RT.nil ?_
    refine CW.ret ?_
    show PostK _ _ _ _ _ _
    refine post1 rfl rfl ?_
    have hq : acc ++ [v2 % 2 ^ 8] = l ++ uv v := by rw [← hacc, uv_small v2 (by omega)]
    rw [← hq]; exact hs_7d

theorem len64_ok (x : Nat) (w : World) (hx : x < 2 ^ 64) : CallsV Try.prog 162 [.int .u64 (x : Int)] w fun r w' => r = .int .i64 ((Lib.bitLen x : Nat) : Int) ∧ Sat w [] w' := by
  refine Calls.mono (Try.bits_Len64 (x : Int) w (by omega) (by omega)) ?_
  rintro e w' ⟨rfl, rfl⟩
  exact ⟨_, rfl, by simp, Sat.start _⟩

theorem newWriter_ok (w : World) :
    CallsV Try.prog 138 [] w fun r w' => ∃ g, r = .pointer (some ⟨g, 0, none⟩) ∧ Sat w [cObj g 214 [.slice none 0 0, .int .i64 0], cL (.slice none 0 0) 5 (encN .u8) []] w' := by
  have hs0 := Sat.start w
  refine callsV_of Try.func138 rfl rfl ?_
  refine CW.seq ?_
  refine CW.region ?_
  refine RT.ev rfl rfl (Ev.assign rfl) ?_
  refine RT.nil ?_
  refine CW.seq ?_
  refine CW.region ?_
  refine RT.ev rfl rfl (Ev.build bt214 rfl trivial rfl) ?_
  refine RT.eff rfl rfl (OpE.box hs0 rfl fun b_1 w_1 hs_1 hch_1 hb_1 => ?_)
  have hs_1d : Sat w [cObj b_1 214 [(Value.slice none 0 0), (Value.int .i64 ((0 : Nat) : Int))]] _ := hs_1
  refine RT.ev rfl rfl (Ev.assign rfl) ?_
  refine RT.nil ?_
  refine CW.ret ?_
  show PostK _ _ _ _ _ _
  refine post1 rfl rfl ?_
  exact ⟨_, rfl, hs_1d.newNilL 5 (encN .u8)⟩

theorem wput_ok (w0 w : World) (cs : List Chunk) (g : Nat) (v : Value) (bits : List Bool) (x : Nat) (hs : Sat w0 ([cObj g 214 [v, .int .i64 (((bits).length : Nat) : Int)], cL v 5 (encN .u8) (packB (bits))] ++ cs) w) (hx : x < 2 ^ 64) (hn : bits.length ≤ 1000000000000) :
    CallsV Try.prog 198 [(Value.pointer (some ⟨g, 0, none⟩)), (Value.int .u64 ((x : Nat) : Int))] w fun r w' => r = .tuple #[] ∧ ∃ v', Sat w0 ([cObj g 214 [v', .int .i64 (((bits ++ [decide (x % 2 ^ 1 = 1)]).length : Nat) : Int)], cL v' 5 (encN .u8) (packB (bits ++ [decide (x % 2 ^ 1 = 1)]))] ++ cs) w' := by
  refine callsV_of Try.func198 rfl rfl ?_
  refine CW.seqMid (fun L' w' => ∃ (v1 : Value), Weak [(0, (Value.pointer (some ⟨g, 0, none⟩))), (1, (Value.int .u64 ((x : Nat) : Int)))] L' ∧ Sat w0 ([cObj g 214 [v1, (Value.int .i64 (((bits).length : Nat) : Int))], cL v1 5 (encN .u8) (roomB bits)] ++ cs) w') ?_ ?_
  · refine CW.seq ?_
    have hpl := packB_length bits
    refine CW.region ?_
    refine RT.ev rfl rfl (Ev.move rfl) <| RT.ev rfl rfl (Ev.nilCheck rfl) <| RT.ev rfl rfl (Ev.fieldAddr fld200_1 rfl rfl) <| RT.ev rfl rfl (Ev.load scal3 rfl (hs.cell (i := 0) (j := 1) rfl rfl)) <| RT.ev rfl rfl (Ev.maskI (b := 7) 3 rfl rfl (by decide) (by omega) (by decide)) <| RT.ev rfl rfl (Ev.eqlN (b := 0) rfl rfl) ?_
    refine RT.nil ?_
    refine CW.condD rfl (fun hc_1 => ?_) (fun hc_1 => ?_)
    · refine CW.region ?_
      refine RT.ev rfl rfl (Ev.move rfl) <| RT.ev rfl rfl (Ev.move rfl) <| RT.ev rfl rfl (Ev.nilCheck rfl) <| RT.ev rfl rfl (Ev.fieldAddr fld200_0 rfl rfl) <| RT.ev rfl rfl (Ev.load scal40 rfl (hs.cell (i := 0) (j := 0) rfl rfl)) ?_
      refine RT.eff rfl rfl (OpE.lit1 (encN .u8) 0 sl40 rfl hs rfl fun v_1 w_1 hs_1 hch_1 => ?_)
      have hs_1d : Sat w0 ([cObj g 214 [v, (Value.int .i64 (((bits).length : Nat) : Int))], cL v 5 (encN .u8) (packB (bits)), cL v_1 5 (encN .u8) ([0])] ++ cs) _ := (hs_1).mid
      refine RT.eff rfl rfl (OpE.appendL 1 sl40 hs_1d rfl rfl rfl Try.underlying40 (hs_1d.rdL 2 rfl) (by simp; omega) (by simp; omega) fun v_2 w_2 hs_2 hch_2 => ?_)
      have hs_2d : Sat w0 ([cObj g 214 [v, (Value.int .i64 (((bits).length : Nat) : Int))], cL v_2 5 (encN .u8) (packB (bits) ++ [0])] ++ cs) _ := hs_2.drop 2
      refine RT.ev rfl rfl (Ev.nilCheck rfl) <| RT.ev rfl rfl (Ev.fieldAddr fld200_0 rfl rfl) ?_
      refine RT.eff rfl rfl (OpE.storeObj one40 hs_2d (i := 0) rfl rfl rfl ((hs_2d.rdL 1 rfl).oneCell) rfl fun w_3 hs_3 hch_3 => ?_)
      have hs_3d : Sat w0 ([cObj g 214 [v_2, (Value.int .i64 (((bits).length : Nat) : Int))], cL v_2 5 (encN .u8) (packB (bits) ++ [0])] ++ cs) _ := hs_3
      refine RT.nil ?_
      have hs_4 : Sat w0 ([cObj g 214 [v_2, (Value.int .i64 (((bits).length : Nat) : Int))], cL v_2 5 (encN .u8) (roomB bits)] ++ cs) w_3 := by
        have hq : packB (bits) ++ [0] = roomB bits := by unfold roomB; rw [if_pos hc_1]
        rw [← hq]; exact hs_3d
      exact ⟨v_2, ⟨rfl, rfl, trivial⟩, hs_4⟩
    · refine CW.skip ?_
      have hs_5 : Sat w0 ([cObj g 214 [v, (Value.int .i64 (((bits).length : Nat) : Int))], cL v 5 (encN .u8) (roomB bits)] ++ cs) w := by
        have hq : packB (bits) = roomB bits := by unfold roomB; rw [if_neg hc_1]
        rw [← hq]; exact hs
      exact ⟨v, ⟨rfl, rfl, trivial⟩, hs_5⟩
  · rintro L' w_4 ⟨v1, hw_1, hs_6⟩
    refine CW.weaken _ hw_1 ?_
    refine CW.seqMid (fun L' w' => Weak [(0, (Value.pointer (some ⟨g, 0, none⟩)))] L' ∧ Sat w0 ([cObj g 214 [v1, (Value.int .i64 (((bits).length : Nat) : Int))], cL v1 5 (encN .u8) (packB (bits ++ [decide (x % 2 ^ 1 = 1)]))] ++ cs) w') ?_ ?_
    · refine CW.seq ?_
      refine CW.region ?_
      refine RT.ev rfl rfl (Ev.move rfl) <| RT.ev rfl rfl (Ev.maskN (b := 1) 1 rfl rfl rfl (by decide) (by (try simp only [IntKind.bits]); omega) (by decide)) <| RT.ev rfl rfl (Ev.eqlN (b := 1) rfl rfl) ?_
      refine RT.nil ?_
      refine CW.condD rfl (fun hc_2 => ?_) (fun hc_2 => ?_)
      · have hshp_1 := (hs_6.rdL (E := encN .u8) 1 rfl).shp (by decide)
        refine CW.draw (fun w' => Sat w0 ([cObj g 214 [v1, (Value.int .i64 (((bits).length : Nat) : Int))]] ++ cs) w') (.free 0 (.free 1 (.free 2 (.free 3 (.free 4 (.free 5 (.free 6 (.free 7 (.free 8 (.free 11 (.free 12 (.free 13 (.free 14 (.free 15 (.free 16 (.one 9 (.one 10 (.free 17 (.one 18 (.one 19 .fin)))))))))))))))))))) mixed (by kernel_rfl) ?_
        have hs_7 := hs_6.drew
        have hS_1 : Sat w0 ([cObj g 214 [v1, (Value.int .i64 (((bits).length : Nat) : Int))]] ++ cs) _ := hs_7.sub ((.cons_cons _ (.cons _ (.refl _))))
        refine RP.ev rfl rfl rfl (fun w' hS' => Ev.move rfl) hS_1 ?_
        refine RP.ev rfl rfl rfl (fun w' hS' => Ev.nilCheck rfl) hS_1 ?_
        refine RP.ev rfl rfl rfl (fun w' hS' => Ev.fieldAddr fld200_0 rfl rfl) hS_1 ?_
        refine RP.ev rfl rfl rfl (fun w' hS' => Ev.load scal40 rfl (hS'.cell (i := 0) (j := 0) rfl rfl)) hS_1 ?_
        refine RP.ev rfl rfl rfl (fun w' hS' => Ev.move rfl) hS_1 ?_
        refine RP.ev rfl rfl rfl (fun w' hS' => Ev.nilCheck rfl) hS_1 ?_
        refine RP.ev rfl rfl rfl (fun w' hS' => Ev.fieldAddr fld200_1 rfl rfl) hS_1 ?_
        refine RP.ev rfl rfl rfl (fun w' hS' => Ev.load scal3 rfl (hS'.cell (i := 0) (j := 1) rfl rfl)) hS_1 ?_
        refine RP.ev rfl rfl rfl (fun w' hS' => Ev.shrN (b := 3) rfl rfl (by (try simp only [IntKind.bits]); omega)) hS_1 ?_
        refine RP.ev rfl rfl rfl (fun w' hS' => Ev.move rfl) hS_1 ?_
        refine RP.ev rfl rfl rfl (fun w' hS' => Ev.nilCheck rfl) hS_1 ?_
        refine RP.ev rfl rfl rfl (fun w' hS' => Ev.fieldAddr fld200_1 rfl rfl) hS_1 ?_
        refine RP.ev rfl rfl rfl (fun w' hS' => Ev.load scal3 rfl (hS'.cell (i := 0) (j := 1) rfl rfl)) hS_1 ?_
        refine RP.ev rfl rfl rfl (fun w' hS' => Ev.maskI (b := 7) 3 rfl rfl (by decide) (by omega) (by decide)) hS_1 ?_
        refine RP.ev rfl rfl rfl (fun w' hS' => Ev.shrN (a := 128) rfl rfl (by (try simp only [IntKind.bits]); omega)) hS_1 ?_
        refine RP.eff rfl rfl rfl (OpE.ev (Ev.idxL (E := encN .u8) sl40 rfl rfl (hs_7.rdL 1 rfl) (by rw [roomB_length]; omega)) ⟨hS_1, ?_⟩)
        refine RP.eff rfl rfl rfl (OpE.ev (Ev.ldL (E := encN .u8) scal5 rfl (hs_7.rdL 1 rfl) (roomB_get bits) (by decide) rfl) ⟨hS_1, ?_⟩)
        refine RP.ev rfl rfl rfl (fun w' hS' => Ev.orN rfl rfl rfl (by first | exact byteAt_lt _ _ | (simp only [IntKind.bits]; have := Nat.div_le_self 128 (2 ^ (bits.length % 2 ^ 3)); omega)) (by first | exact byteAt_lt _ _ | (simp only [IntKind.bits]; have := Nat.div_le_self 128 (2 ^ (bits.length % 2 ^ 3)); omega))) hS_1 ?_
        refine RP.eff rfl rfl rfl (OpE.ev (Ev.idxL (E := encN .u8) sl40 rfl rfl (hs_7.rdL 1 rfl) (by rw [roomB_length]; omega)) ⟨hS_1, ?_⟩)
        refine RP.eff rfl rfl rfl (OpE.setL (a := ((byteAt bits (bits.length / 2 ^ 3)) ||| (128 / 2 ^ ((bits).length % 2 ^ 3)))) 1 one5 hs_7 rfl rfl rfl rfl (by rw [roomB_length]; omega) fun w_5 hs_8 hch_4 => ?_)
        have hs_8d : Sat w0 ([cObj g 214 [v1, (Value.int .i64 (((bits).length : Nat) : Int))], cL v1 5 (encN .u8) ((roomB bits).set ((bits).length / 2 ^ 3) ((byteAt bits (bits.length / 2 ^ 3)) ||| (128 / 2 ^ ((bits).length % 2 ^ 3))))] ++ cs) _ := hs_8
        have hS_2 : Sat w0 ([cObj g 214 [v1, (Value.int .i64 (((bits).length : Nat) : Int))]] ++ cs) _ := hs_8d.sub ((.cons_cons _ (.cons _ (.refl _))))
        refine ⟨hS_2, ?_⟩
        refine RP.fin ?_
        have hs_9 : Sat w0 ([cObj g 214 [v1, (Value.int .i64 (((bits).length : Nat) : Int))], cL v1 5 (encN .u8) (packB (bits ++ [decide (x % 2 ^ 1 = 1)]))] ++ cs) w_5 := by
          have hq : (roomB bits).set ((bits).length / 2 ^ 3) ((byteAt bits (bits.length / 2 ^ 3)) ||| (128 / 2 ^ ((bits).length % 2 ^ 3))) = packB (bits ++ [decide (x % 2 ^ 1 = 1)]) := by rw [decide_eq_true hc_2, packB_true]
          rw [← hq]; exact hs_8d
        exact ⟨⟨rfl, trivial⟩, hs_9⟩
      · refine CW.skip ?_
        have hs_10 : Sat w0 ([cObj g 214 [v1, (Value.int .i64 (((bits).length : Nat) : Int))], cL v1 5 (encN .u8) (packB (bits ++ [decide (x % 2 ^ 1 = 1)]))] ++ cs) w_4 := by
          have hq : roomB bits = packB (bits ++ [decide (x % 2 ^ 1 = 1)]) := by rw [decide_eq_false hc_2, packB_false]
          rw [← hq]; exact hs_6
        exact ⟨⟨rfl, trivial⟩, hs_10⟩
    · rintro L' w_6 ⟨hw_2, hs_11⟩
      refine CW.weaken _ hw_2 ?_
      refine CW.region ?_
      refine RT.ev rfl rfl (Ev.move rfl) <| RT.ev rfl rfl (Ev.nilCheck rfl) <| RT.ev rfl rfl (Ev.fieldAddr fld200_1 rfl rfl) <| RT.ev rfl rfl (Ev.load scal3 rfl (hs_11.cell (i := 0) (j := 1) rfl rfl)) <| RT.ev rfl rfl (Ev.addI (b := 1) rfl rfl (by omega)) <| RT.ev rfl rfl (Ev.nilCheck rfl) <| RT.ev rfl rfl (Ev.fieldAddr fld200_1 rfl rfl) ?_
      refine RT.eff rfl rfl (OpE.storeObj one3 hs_11 (i := 0) rfl rfl rfl (rfl) rfl fun w_7 hs_12 hch_5 => ?_)
      have hs_12d : Sat w0 ([cObj g 214 [v1, (Value.int .i64 ((((bits).length + 1) : Nat) : Int))], cL v1 5 (encN .u8) (packB (bits ++ [decide (x % 2 ^ 1 = 1)]))] ++ cs) _ := hs_12
      refine RT.nil ?_
      show PostK _ _ _ _ _ _
      refine post0 rfl ?_
      refine ⟨rfl, v1, ?_⟩
      rw [show (bits ++ [decide (x % 2 ^ 1 = 1)]).length = bits.length + 1 by simp]; exact hs_12d


theorem wlow_ok (w0 w : World) (cs : List Chunk) (g : Nat) (v : Value) (bits : List Bool) (x m : Nat) (hs : Sat w0 ([cObj g 214 [v, .int .i64 (((bits).length : Nat) : Int)], cL v 5 (encN .u8) (packB (bits))] ++ cs) w) (hx : x < 2 ^ 64) (hm : m ≤ 64) (hn : bits.length + m ≤ 1000000000) :
    CallsV Try.prog 175 [(Value.pointer (some ⟨g, 0, none⟩)), (Value.int .u64 ((x : Nat) : Int)), (Value.int .i64 ((m : Nat) : Int))] w fun r w' => r = .tuple #[] ∧ ∃ v', Sat w0 ([cObj g 214 [v', .int .i64 (((bits ++ lowB x m).length : Nat) : Int)], cL v' 5 (encN .u8) (packB (bits ++ lowB x m))] ++ cs) w' := by
  refine callsV_of Try.func175 rfl rfl ?_
  refine CW.seq ?_
  refine CW.region ?_
  refine RT.ev rfl rfl (Ev.move rfl) <| RT.ev rfl rfl (Ev.sub (b := (1 : Int)) rfl rfl (by unfold inI64; omega)) <| RT.ev rfl rfl (Ev.assign rfl) ?_
  refine RT.nil ?_
  refine CW.block ?_
  refine CW.loop (α := Nat × Value × List Bool) (fun (m1, v1, bs) => [(0, (Value.pointer (some ⟨g, 0, none⟩))), (1, (Value.int .u64 ((x : Nat) : Int))), (6, (Value.int .i64 ((((m1 : Nat) : Int) - 1))))]) (fun (m1, v1, bs) w' => Sat w0 ([cObj g 214 [v1, (Value.int .i64 (((bs).length : Nat) : Int))], cL v1 5 (encN .u8) (packB (bs))] ++ cs) w' ∧ (m1 ≤ m) ∧ (bs ++ lowB x m1 = bits ++ lowB x m)) (fun (m1, v1, bs) => m1) (m, v, bits) ⟨rfl, rfl, rfl, trivial⟩ ⟨hs, Nat.le_refl _, rfl⟩ ?_
  rintro ⟨m1, v1, bs⟩ w_1 ⟨hs_1, hm1, hacc⟩
  show CW _ _ _ _ [(0, (Value.pointer (some ⟨g, 0, none⟩))), (1, (Value.int .u64 ((x : Nat) : Int))), (6, (Value.int .i64 ((((m1 : Nat) : Int) - 1))))] _
  refine CW.seq ?_
  refine CW.seq ?_
  refine CW.region ?_
  refine RT.ev rfl rfl (Ev.move rfl) <| RT.ev rfl rfl (Ev.geq rfl rfl) ?_
  refine RT.nil ?_
  refine CW.condD rfl (fun hc_1 => ?_) (fun hc_1 => ?_)
  · refine CW.skip ?_
    refine CW.seq ?_
    refine CW.block ?_
    obtain ⟨j, rfl⟩ : ∃ j, m1 = j + 1 := ⟨m1 - 1, by omega⟩
    refine CW.weaken [(0, _), (1, _), (6, (Value.int .i64 ((j : Nat) : Int))), (9, _), (10, _)] ⟨rfl, rfl, congrArg some (congrArg (Value.int .i64) (by omega)), rfl, rfl, trivial⟩ ?_
    have hl2 := congrArg List.length hacc
    simp only [List.length_append, lowB_length] at hl2
    have hshp_1 := (hs_1.rdL (E := encN .u8) 1 rfl).shp (by decide)
    refine CW.draw (fun w' => Sat w0 ([] ++ cs) w') (.free 0 (.free 1 (.free 2 (.free 3 (.free 4 (.free 5 (.one 6 .fin))))))) mixed (by kernel_rfl) ?_
    have hs_2 := hs_1.drew
    have hS_1 : Sat w0 ([] ++ cs) _ := hs_2.sub ((.cons _ (.cons _ (.refl _))))
    refine RP.ev rfl rfl rfl (fun w' hS' => Ev.move rfl) hS_1 ?_
    refine RP.ev rfl rfl rfl (fun w' hS' => Ev.nilCheck rfl) hS_1 ?_
    refine RP.ev rfl rfl rfl (fun w' hS' => Ev.fieldAddr fld214_0 rfl rfl) hS_1 ?_
    refine RP.ev rfl rfl rfl (fun w' hS' => Ev.move rfl) hS_1 ?_
    refine RP.ev rfl rfl rfl (fun w' hS' => Ev.move rfl) hS_1 ?_
    refine RP.ev rfl rfl rfl (fun w' hS' => Ev.shrN rfl rfl (hx)) hS_1 ?_
    have hA_1 : Sat w0 ([cObj g 214 [v1, (Value.int .i64 (((bs).length : Nat) : Int))], cL v1 5 (encN .u8) (packB (bs))] ++ ([] ++ cs)) _ := (Sat.order [0, 1] (by decide) hs_2).cut 2
    refine RP.eff rfl rfl rfl (OpE.call ent198 rfl ((wput_ok _ _ _ _ _ (bs) ((x / 2 ^ j)) hA_1 (Nat.lt_of_le_of_lt (Nat.div_le_self _ _) hx) (by omega)).mono fun r_1 w_2 h_1 => ?_))
    obtain ⟨rfl, wv_1, hp_1⟩ := h_1
    have hs_3 : Sat w0 ([cObj g 214 [wv_1, (Value.int .i64 (((bs ++ [decide ((x / 2 ^ j) % 2 ^ 1 = 1)]).length : Nat) : Int))], cL wv_1 5 (encN .u8) (packB (bs ++ [decide ((x / 2 ^ j) % 2 ^ 1 = 1)]))] ++ cs) _ := hp_1
    have hS_2 : Sat w0 ([] ++ cs) _ := hs_3.sub ((.cons _ (.cons _ (.refl _))))
    refine ⟨hS_2, ?_⟩
    refine RP.fin ?_
    refine CW.region ?_
    refine RT.ev rfl rfl (Ev.move rfl) <| RT.ev rfl rfl (Ev.sub (b := (1 : Int)) rfl rfl (by unfold inI64; omega)) <| RT.ev rfl rfl (Ev.assign rfl) ?_
    refine RT.nil ?_
    exact ⟨(j, wv_1, bs ++ [decide ((x / 2 ^ j) % 2 ^ 1 = 1)]), ⟨rfl, rfl, rfl, trivial⟩, ⟨hs_3, by omega, by rw [← hacc]; simp [lowB]⟩, (show ((j)) < (j + 1) from by omega)⟩
  · refine CW.exit0 ?_
    show PostK _ _ _ _ _ _
    refine post0 rfl ?_
    have h0 : m1 = 0 := by omega
    subst h0
    rw [show bs = bits ++ lowB x m by rw [← hacc]; simp [lowB]] at hs_1
    exact ⟨rfl, v1, hs_1⟩

theorem wbits_ok (w0 w : World) (cs : List Chunk) (g : Nat) (v : Value) (bits : List Bool) (x m : Nat) (hs : Sat w0 ([cObj g 214 [v, .int .i64 (((bits).length : Nat) : Int)], cL v 5 (encN .u8) (packB (bits))] ++ cs) w) (hx : x < 2 ^ m) (hm : m ≤ 64) (hn : bits.length + m ≤ 1000000000) :
    CallsV Try.prog 139 [(Value.pointer (some ⟨g, 0, none⟩)), (Value.int .u64 ((x : Nat) : Int)), (Value.int .i64 ((m : Nat) : Int))] w fun r w' => r = .int .i64 0 ∧ ∃ v', Sat w0 ([cObj g 214 [v', .int .i64 (((bits ++ lowB x m).length : Nat) : Int)], cL v' 5 (encN .u8) (packB (bits ++ lowB x m))] ++ cs) w' := by
  have hx64 : x < 2 ^ 64 := Nat.lt_of_lt_of_le hx (Nat.pow_le_pow_right (by decide) hm)
  have hbl := bitLen_le hx
  refine callsV_of Try.func139 rfl rfl ?_
  refine CW.seq ?_
  refine CW.region ?_
  refine RT.ev rfl rfl (Ev.assign rfl) ?_
  refine RT.nil ?_
  refine CW.seq ?_
  refine CW.seq ?_
  refine CW.mid (fun L' w' => Weak [(0, (Value.pointer (some ⟨g, 0, none⟩))), (1, (Value.int .u64 ((x : Nat) : Int))), (2, (Value.int .i64 ((m : Nat) : Int))), (6, (Value.int .i64 ((0 : Nat) : Int))), (18, (Value.bool (decide (((m < 0) ∨ (64 < m)) ∨ (m < (Lib.bitLen (x)))))))] L' ∧ Sat w0 ([cObj g 214 [v, (Value.int .i64 (((bits).length : Nat) : Int))], cL v 5 (encN .u8) (packB (bits))] ++ cs) w') ?_ ?_
  · refine CW.region ?_
    refine RT.ev rfl rfl (Ev.move rfl) <| RT.ev rfl rfl (Ev.lssN (b := 0) rfl rfl) <| RT.ev rfl rfl (Ev.move rfl) ?_
    by_cases hg_1 : m < 0
    · refine RT.no rfl rfl rfl (decide_eq_true hg_1) rfl ?_
      refine RT.no rfl rfl rfl (decide_eq_true hg_1) rfl ?_
      refine RT.ev rfl rfl (Ev.pickY rfl (decide_eq_true hg_1) rfl) <| RT.ev rfl rfl (Ev.move rfl) ?_
      refine RT.no rfl rfl rfl (rfl) rfl ?_
      refine RT.no rfl rfl rfl (rfl) rfl ?_
      refine RT.no rfl rfl rfl (rfl) rfl ?_
      refine RT.no rfl rfl rfl (rfl) rfl ?_
      refine RT.ev rfl rfl (Ev.pickY rfl (rfl) rfl) ?_
      refine RT.nil ?_
      exact ⟨⟨rfl, rfl, rfl, rfl, congrArg some (congrArg Value.bool (by simp [hg_1])), trivial⟩, hs⟩
    · refine RT.yes rfl rfl rfl (decide_eq_false hg_1) ?_
      refine RT.ev rfl rfl (Ev.move rfl) ?_
      refine RT.yes rfl rfl rfl (decide_eq_false hg_1) ?_
      refine RT.ev rfl rfl (Ev.gtrN (b := 64) rfl rfl) <| RT.ev rfl rfl (Ev.pickN rfl (decide_eq_false hg_1) rfl) <| RT.ev rfl rfl (Ev.move rfl) ?_
      by_cases hg_2 : 64 < m
      · refine RT.no rfl rfl rfl (decide_eq_true hg_2) rfl ?_
        refine RT.no rfl rfl rfl (decide_eq_true hg_2) rfl ?_
        refine RT.no rfl rfl rfl (decide_eq_true hg_2) rfl ?_
        refine RT.no rfl rfl rfl (decide_eq_true hg_2) rfl ?_
        refine RT.ev rfl rfl (Ev.pickY rfl (decide_eq_true hg_2) rfl) ?_
        refine RT.nil ?_
        exact ⟨⟨rfl, rfl, rfl, rfl, congrArg some (congrArg Value.bool (by simp [hg_1, hg_2])), trivial⟩, hs⟩
      · refine RT.yes rfl rfl rfl (decide_eq_false hg_2) ?_
        refine RT.ev rfl rfl (Ev.move rfl) ?_
        refine RT.yes rfl rfl rfl (decide_eq_false hg_2) ?_
        refine RT.eff rfl rfl (OpE.call ent162 rfl ((len64_ok (x) _ (by omega)).mono fun r_1 w_1 h_1 => ?_))
        obtain ⟨rfl, hp_1⟩ := h_1
        have hs_1 : Sat w0 ([cObj g 214 [v, (Value.int .i64 (((bits).length : Nat) : Int))], cL v 5 (encN .u8) (packB (bits))] ++ cs) _ := (hs.adds hp_1).mid
        refine RT.yes rfl rfl rfl (decide_eq_false hg_2) ?_
        refine RT.ev rfl rfl (Ev.move rfl) ?_
        refine RT.yes rfl rfl rfl (decide_eq_false hg_2) ?_
        refine RT.ev rfl rfl (Ev.gtrN rfl rfl) <| RT.ev rfl rfl (Ev.pickN rfl (decide_eq_false hg_2) rfl) ?_
        refine RT.nil ?_
        exact ⟨⟨rfl, rfl, rfl, rfl, congrArg some (congrArg Value.bool (by simp [hg_1, hg_2])), trivial⟩, hs_1⟩
  · rintro L' w_2 ⟨hw_1, hs_2⟩
    refine CW.weaken _ hw_1 ?_
    refine CW.condF rfl (decide_eq_false (by omega)) ?_
    refine CW.skip ?_
    refine CW.seq ?_
    refine CW.region ?_
    refine RT.ev rfl rfl (Ev.move rfl) <| RT.ev rfl rfl (Ev.move rfl) <| RT.ev rfl rfl (Ev.move rfl) ?_
    have hA_1 : Sat w0 ([cObj g 214 [v, (Value.int .i64 (((bits).length : Nat) : Int))], cL v 5 (encN .u8) (packB (bits))] ++ ([] ++ cs)) _ := (Sat.order [0, 1] (by decide) hs_2).cut 2
    refine RT.eff rfl rfl (OpE.call ent175 rfl ((wlow_ok _ _ _ _ _ (bits) (x) (m) hA_1 (hx64) (hm) (hn)).mono fun r_2 w_3 h_2 => ?_))
    obtain ⟨rfl, wv_1, hp_2⟩ := h_2
    have hs_3 : Sat w0 ([cObj g 214 [wv_1, (Value.int .i64 (((bits ++ lowB (x) (m)).length : Nat) : Int))], cL wv_1 5 (encN .u8) (packB (bits ++ lowB (x) (m)))] ++ cs) _ := hp_2
    refine RT.nil ?_
    refine CW.seq ?_
    refine CW.region ?_
    refine RT.ev rfl rfl (Ev.assign rfl) ?_
    refine RT.nil ?_
    refine CW.ret ?_
    show PostK _ _ _ _ _ _
    refine post1 rfl rfl ?_
    exact ⟨rfl, _, hs_3⟩

theorem wbytes_ok (g : Nat) (v : Value) (l : List Nat) (w : World) (hc : w.cell? ⟨g, 0, none⟩ = some v) (hv : RdL w v (encN .u8) l) (hn : l.length ≤ 1000000000000) :
    CallsV Try.prog 140 [(Value.pointer (some ⟨g, 0, none⟩))] w fun r w' => Sat w [cL r 5 (encN .u8) l] w' := by
  have hs0 := Sat.start w
  refine callsV_of Try.func140 rfl rfl ?_
  refine CW.seq ?_
  refine CW.region ?_
  refine RT.ev rfl rfl (Ev.assign rfl) ?_
  refine RT.nil ?_
  refine CW.seq ?_
  refine CW.region ?_
  refine RT.eff rfl rfl (OpE.lit0 (encN .u8) sl40 hs0 fun v_1 w_1 hs_1 hch_1 => ?_)
  have hs_1d : Sat w [cL v_1 5 (encN .u8) ([])] _ := hs_1
  refine RT.ev rfl rfl (Ev.move rfl) <| RT.ev rfl rfl (Ev.nilCheck rfl) <| RT.ev rfl rfl (Ev.fieldAddr fld214_0 rfl rfl) <| RT.ev rfl rfl (Ev.fieldAddr fld200_0 rfl rfl) <| RT.ev rfl rfl (Ev.load scal40 rfl (hs_1d.ext _ _ hc)) ?_
  refine RT.eff rfl rfl (OpE.appendL 0 sl40 hs_1d rfl rfl rfl Try.underlying40 (hv.ext hs_1d.ext) (by simp; omega) (by simp; omega) fun v_2 w_2 hs_2 hch_2 => ?_)
  have hs_2d : Sat w [cL v_2 5 (encN .u8) (l)] _ := hs_2
  refine RT.ev rfl rfl (Ev.assign rfl) ?_
  refine RT.nil ?_
  refine CW.ret ?_
  show PostK _ _ _ _ _ _
  refine post1 rfl rfl ?_
  exact hs_2d

theorem wsize_ok (g m : Nat) (w : World) (hc : w.cell? ⟨g, 1, none⟩ = some (.int .i64 (m : Int))) :
    CallsV Try.prog 176 [(Value.pointer (some ⟨g, 0, none⟩))] w fun r w' => r = .int .i64 (m : Int) ∧ Sat w [] w' := by
  have hs0 := Sat.start w
  refine callsV_of Try.func176 rfl rfl ?_
  refine CW.seq ?_
  refine CW.region ?_
  refine RT.ev rfl rfl (Ev.assign rfl) ?_
  refine RT.nil ?_
  refine CW.seq ?_
  refine CW.region ?_
  refine RT.ev rfl rfl (Ev.move rfl) <| RT.ev rfl rfl (Ev.nilCheck rfl) <| RT.ev rfl rfl (Ev.fieldAddr fld200_1 rfl rfl) <| RT.ev rfl rfl (Ev.load scal3 rfl (hs0.ext _ _ hc)) <| RT.ev rfl rfl (Ev.assign rfl) ?_
  refine RT.nil ?_
  refine CW.ret ?_
  show PostK _ _ _ _ _ _
  refine post1 rfl rfl ?_
  exact ⟨rfl, hs0⟩

theorem wlen_ok (g m : Nat) (w : World) (hc : w.cell? ⟨g, 1, none⟩ = some (.int .i64 (m : Int))) :
    CallsV Try.prog 141 [(Value.pointer (some ⟨g, 0, none⟩))] w fun r w' => r = .int .i64 (m : Int) ∧ Sat w [] w' := by
  have hs0 := Sat.start w
  refine callsV_of Try.func141 rfl rfl ?_
  refine CW.seq ?_
  refine CW.region ?_
  refine RT.ev rfl rfl (Ev.assign rfl) ?_
  refine RT.nil ?_
  refine CW.seq ?_
  refine CW.region ?_
  refine RT.ev rfl rfl (Ev.move rfl) <| RT.ev rfl rfl (Ev.nilCheck rfl) <| RT.ev rfl rfl (Ev.fieldAddr fld214_0 rfl rfl) ?_
  refine RT.eff rfl rfl (OpE.call ent176 rfl ((wsize_ok _ (m) _ (hs0.ext _ _ hc)).mono fun r_1 w_1 h_1 => ?_))
  obtain ⟨rfl, hp_1⟩ := h_1
  have hs_1 : Sat w [] _ := hs0.adds hp_1
  refine RT.ev rfl rfl (Ev.assign rfl) ?_
  refine RT.nil ?_
  refine CW.ret ?_
  show PostK _ _ _ _ _ _
  refine post1 rfl rfl ?_
  exact ⟨rfl, hs_1⟩

end Go.Proofs.Ytfhbflhnelbkfaa
