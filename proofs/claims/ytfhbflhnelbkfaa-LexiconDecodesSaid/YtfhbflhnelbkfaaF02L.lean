/- The walks of the functions of F02L, printed by our own program (kwgen.py) out of our descriptions (base.py). -/
import Derived.Test.YtfhbflhnelbkfaaM02
import Derived.Test.YtfhbflhnelbkfaaKs
import Derived.Test.YtfhbflhnelbkfaaShelfL
import Derived.Test.YtfhbflhnelbkfaaTab
namespace Go.Proofs.Ytfhbflhnelbkfaa
open Go.RowKit Go.Kw
set_option maxRecDepth 100000
set_option linter.unusedVariables false
set_option linter.unusedSimpArgs false
theorem put_ok (bv : Value) (l : List Nat) (v : Nat) (w : World) (hb : RdL w bv (encN .u8) l) (hn : l.length ≤ 1000000000000) (hv : v < 2 ^ 64) :
    CallsV Try.prog 83 [bv, (Value.int .u64 ((v : Nat) : Int))] w fun r w' => Sat w [cL r 5 (encN .u8) (l ++ uv v)] w' := by
  have hs0 := Sat.start w
  refine callsV_of Try.func83 rfl rfl ?_
  refine CW.seq ?_
  refine CW.region ?_
  refine RT.ev rfl rfl (Ev.assign rfl) ?_
  refine RT.nil ?_
  refine CW.seq ?_
  refine CW.region ?_
  refine RT.ev rfl rfl (Ev.move rfl) ?_
  refine RT.ev rfl rfl (Ev.lenL Try.underlying40 rfl (hb.ext hs0.ext)) ?_
  refine RT.ev rfl rfl (Ev.move rfl) ?_
  refine RT.ev rfl rfl (Ev.lenL Try.underlying40 rfl (hb.ext hs0.ext)) ?_
  refine RT.ev rfl rfl (Ev.addI (b := 10) rfl rfl (by omega)) ?_
  refine RT.eff rfl rfl (OpE.makeL (encN .u8) (0) sl40 rfl hs0 rfl rfl (by omega) (by omega) (by omega) fun v_1 w_1 hs_1 hch_1 => ?_)
  have hs_1d : Sat w [cL v_1 5 (encN .u8) (List.replicate (l.length) 0)] _ := hs_1
  refine RT.ev rfl rfl (Ev.assign rfl) ?_
  refine RT.nil ?_
  refine CW.seq ?_
  refine CW.region ?_
  refine RT.ev rfl rfl (Ev.move rfl) ?_
  refine RT.ev rfl rfl (Ev.move rfl) ?_
  refine RT.eff rfl rfl (OpE.copyL 0 sl40 rfl hs_1d rfl rfl rfl (hb.ext hs_1d.ext) fun w_2 hs_2 hch_2 => ?_)
  have hs_2d : Sat w [cL v_1 5 (encN .u8) (l)] w_2 := by
    have hq : (l).take (List.replicate (l.length) 0).length ++ (List.replicate (l.length) 0).drop (l).length = l := by simp
    rw [← hq]; exact hs_2
  refine RT.nil ?_
  refine CW.seq ?_
  refine CW.block ?_
  refine CW.loop (α := Nat × Value × List Nat) (fun (v2, out, acc) => [(1, (Value.int .u64 ((v2 : Nat) : Int))), (5, out)]) (fun (v2, out, acc) w' => Sat w [cL out 5 (encN .u8) (acc)] w' ∧ (v2 < 2 ^ 64) ∧ (acc ++ uv v2 = l ++ uv v)) (fun (v2, out, acc) => v2) (v, v_1, l) ⟨rfl, rfl, trivial⟩ ⟨hs_2d, hv, rfl⟩ ?_
  rintro ⟨v2, out, acc⟩ w_3 ⟨hs_3, hv2, hacc⟩
  show CW _ _ _ _ [(1, (Value.int .u64 ((v2 : Nat) : Int))), (5, out)] _
  have hl2 := congrArg List.length hacc
  simp only [List.length_append] at hl2
  have hu1 := uv_le v
  have hu2 := uv_pos v2
  refine CW.seq ?_
  refine CW.seq ?_
  refine CW.region ?_
  refine RT.ev rfl rfl (Ev.move rfl) ?_
  refine RT.ev rfl rfl (Ev.geqN (b := 128) rfl rfl) ?_
  refine RT.nil ?_
  refine CW.condD rfl (fun hc_1 => ?_) (fun hc_1 => ?_)
  · refine CW.skip ?_
    refine CW.block ?_
    refine CW.seq ?_
    refine CW.region ?_
    refine RT.ev rfl rfl (Ev.move rfl) ?_
    refine RT.ev rfl rfl (Ev.move rfl) ?_
    refine RT.ev rfl rfl (Ev.convN (by rw [Try.underlying108]; rfl) Try.underlying5 rfl rfl) ?_
    refine RT.ev rfl rfl (Ev.orN (b := 128) rfl rfl rfl (by (try simp only [IntKind.bits]); omega) (by (try simp only [IntKind.bits]); omega)) ?_
    refine RT.eff rfl rfl (OpE.lit1 (encN .u8) ((v2 % 2 ^ 8) ||| 128) sl40 rfl hs_3 rfl fun v_2 w_4 hs_4 hch_3 => ?_)
    have hs_4d : Sat w [cL out 5 (encN .u8) (acc), cL v_2 5 (encN .u8) ([((v2 % 2 ^ 8) ||| 128)])] _ := hs_4
    refine RT.eff rfl rfl (OpE.appendL 0 sl40 hs_4d rfl rfl rfl Try.underlying40 (hs_4d.rdL 1 rfl) (by simp; omega) (by simp; omega) fun v_3 w_5 hs_5 hch_4 => ?_)
    have hs_5d : Sat w [cL v_3 5 (encN .u8) (acc ++ [((v2 % 2 ^ 8) ||| 128)])] _ := hs_5.drop 1
    refine RT.ev rfl rfl (Ev.assign rfl) ?_
    refine RT.nil ?_
    refine CW.region ?_
    refine RT.ev rfl rfl (Ev.move rfl) ?_
    refine RT.ev rfl rfl (Ev.shrN (b := 7) rfl rfl (by (try simp only [IntKind.bits]); omega)) ?_
    refine RT.ev rfl rfl (Ev.assign rfl) ?_
    refine RT.nil ?_
    exact ⟨((v2 / 2 ^ 7), v_3, acc ++ [((v2 % 2 ^ 8) ||| 128)]), ⟨rfl, rfl, trivial⟩, ⟨hs_5d, by omega, by rw [← hacc, uv_step v2 hv2 hc_1]; simp⟩, (show (((v2 / 2 ^ 7))) < (v2) from by omega)⟩
  · refine CW.exit0 ?_
    refine CW.seq ?_
    refine CW.region ?_
    refine RT.ev rfl rfl (Ev.move rfl) ?_
    refine RT.ev rfl rfl (Ev.move rfl) ?_
    refine RT.ev rfl rfl (Ev.convN (by rw [Try.underlying108]; rfl) Try.underlying5 rfl rfl) ?_
    refine RT.eff rfl rfl (OpE.lit1 (encN .u8) (v2 % 2 ^ 8) sl40 rfl hs_3 rfl fun v_4 w_6 hs_6 hch_5 => ?_)
    have hs_6d : Sat w [cL out 5 (encN .u8) (acc), cL v_4 5 (encN .u8) ([(v2 % 2 ^ 8)])] _ := hs_6
    refine RT.eff rfl rfl (OpE.appendL 0 sl40 hs_6d rfl rfl rfl Try.underlying40 (hs_6d.rdL 1 rfl) (by simp; omega) (by simp; omega) fun v_5 w_7 hs_7 hch_6 => ?_)
    have hs_7d : Sat w [cL v_5 5 (encN .u8) (acc ++ [(v2 % 2 ^ 8)])] _ := hs_7.drop 1
    refine RT.ev rfl rfl (Ev.assign rfl) ?_
    refine RT.nil ?_
    refine CW.ret ?_
    show PostK _ _ _ _ _ _
    refine post1 rfl rfl ?_
    have hq : acc ++ [v2 % 2 ^ 8] = l ++ uv v := by rw [← hacc, uv_small v2 (by omega)]
    rw [← hq]; exact hs_7d

theorem len64_ok (x : Nat) (w : World) (hx : x < 2 ^ 64) : CallsV Try.prog 162 [.int .u64 (x : Int)] w fun r w' => r = .int .i64 ((Lib.bitLen x : Nat) : Int) ∧ Sat w [] w' := by
  refine Calls.mono (Try.bits_Len64 (x : Int) w (by omega) (by omega)) ?_
  rintro e w' ⟨rfl, rfl⟩
  exact ⟨_, rfl, by simp, Sat.start _⟩


end Go.Proofs.Ytfhbflhnelbkfaa
