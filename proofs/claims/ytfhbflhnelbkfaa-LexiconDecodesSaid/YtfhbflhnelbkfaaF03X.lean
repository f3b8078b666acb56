/- The walks of the functions of F03X, printed by our own program (kwgen.py) out of our descriptions (base.py). -/
import Derived.Test.YtfhbflhnelbkfaaF03L
import Derived.Test.YtfhbflhnelbkfaaM02x
import Derived.Test.YtfhbflhnelbkfaaKu
import Derived.Test.YtfhbflhnelbkfaaKj
import Derived.Test.YtfhbflhnelbkfaaKv
import Derived.Test.YtfhbflhnelbkfaaTab
namespace Go.Proofs.Ytfhbflhnelbkfaa
open Go.RowKit Go.Kw
set_option maxRecDepth 100000
set_option linter.unusedVariables false
set_option linter.unusedSimpArgs false
theorem uvarint_ok (v : Value) (l : List Nat) (w : World) (hv : RdL w v (encN .u8) l) (hb : ∀ x ∈ l, x < 256) :
    CallsV Try.prog 120 [v] w fun r w' => r = .tuple #[.int .u64 ((uvR l).1 : Nat), .int .i64 ((uvR l).2.1 : Nat), .int .i64 ((uvR l).2.2 : Nat)] ∧ Sat w [] w' := by
  have hs0 := Sat.start w
  refine callsV_of Try.func120 rfl rfl ?_
  refine CW.seq ?_
  refine CW.region ?_
  refine RT.ev rfl rfl (Ev.assign rfl) ?_
  refine RT.ev rfl rfl (Ev.assign rfl) ?_
  refine RT.ev rfl rfl (Ev.assign rfl) ?_
  refine RT.nil ?_
  refine CW.seq ?_
  refine CW.seq ?_
  refine CW.region ?_
  refine RT.ev rfl rfl (Ev.move rfl) ?_
  refine RT.ev rfl rfl (Ev.lenL Try.underlying40 rfl (hv.ext hs0.ext)) ?_
  refine RT.ev rfl rfl (Ev.move rfl) ?_
  refine RT.nil ?_
  refine CW.block ?_
  refine CW.loop (α := Nat × Nat) (fun (k, u) => [(2, (Value.int .u64 ((u : Nat) : Int))), (7, v), (8, (Value.int .i64 ((l.length : Nat) : Int))), (9, (Value.int .i64 ((k : Nat) : Int)))]) (fun (k, u) w' => Sat w [] w' ∧ (k ≤ l.length) ∧ (uvr k u (l.drop k) = uvr 0 0 l) ∧ (u < 2 ^ (7 * k)) ∧ (k ≤ 9)) (fun (k, u) => l.length - k) (0, 0) ⟨rfl, rfl, rfl, rfl, trivial⟩ ⟨hs0, Nat.zero_le _, rfl, by decide, by omega⟩ ?_
  rintro ⟨k, u⟩ w_1 ⟨hs_1, hk, hinv, hvk, hk9⟩
  show CW _ _ _ _ [(2, (Value.int .u64 ((u : Nat) : Int))), (7, v), (8, (Value.int .i64 ((l.length : Nat) : Int))), (9, (Value.int .i64 ((k : Nat) : Int)))] _
  refine CW.seq ?_
  refine CW.region ?_
  refine RT.ev rfl rfl (Ev.lssN rfl rfl) ?_
  refine RT.nil ?_
  refine CW.seq ?_
  refine CW.condD rfl (fun hc_1 => ?_) (fun hc_1 => ?_)
  · refine CW.skip ?_
    refine CW.seq ?_
    refine CW.block ?_
    refine CW.seq ?_
    obtain ⟨x, hx⟩ : ∃ x, (l)[k]? = some x := ⟨_, List.getElem?_eq_getElem hc_1⟩
    refine CW.region ?_
    refine RT.ev rfl rfl (Ev.move rfl) ?_
    refine RT.ev rfl rfl (Ev.idxL (E := encN .u8) sl40 rfl rfl (hv.ext hs_1.ext) (by omega)) ?_
    refine RT.ev rfl rfl (Ev.ldL (E := encN .u8) scal5 rfl (hv.ext hs_1.ext) hx (by decide) rfl) ?_
    refine RT.ev rfl rfl (Ev.assign rfl) ?_
    refine RT.ev rfl rfl (Ev.assign rfl) ?_
    refine RT.nil ?_
    refine CW.seq ?_
    refine CW.seq ?_
    have hdk := drop_of_get hx
    have hx256 := hb x (mem_of_get hx)
    have hstep := hinv
    rw [hdk, uvr] at hstep
    refine CW.mid (fun L' w' => Weak [(2, (Value.int .u64 ((u : Nat) : Int))), (5, (Value.int .i64 ((k : Nat) : Int))), (6, (Value.int .u8 ((x : Nat) : Int))), (7, v), (8, (Value.int .i64 ((l.length : Nat) : Int))), (9, (Value.int .i64 ((k : Nat) : Int))), (10, (Value.bool (decide (k < l.length)))), (19, (Value.bool (decide ((k = 9) ∧ (x ≠ 1)))))] L' ∧ Sat w [] w') ?_ ?_
    · refine CW.region ?_
      refine RT.ev rfl rfl (Ev.move rfl) ?_
      refine RT.ev rfl rfl (Ev.eqlN (b := 9) rfl rfl) ?_
      refine RT.ev rfl rfl (Ev.move rfl) ?_
      by_cases hg_1 : k = 9
      · refine RT.yes rfl rfl rfl (decide_eq_true hg_1) ?_
        refine RT.ev rfl rfl (Ev.move rfl) ?_
        refine RT.yes rfl rfl rfl (decide_eq_true hg_1) ?_
        refine RT.ev rfl rfl (Ev.neqN (b := 1) rfl rfl) ?_
        refine RT.ev rfl rfl (Ev.pickY rfl (decide_eq_true hg_1) rfl) ?_
        refine RT.nil ?_
        exact ⟨⟨rfl, rfl, rfl, rfl, rfl, rfl, rfl, congrArg some (congrArg Value.bool (by simp [hg_1])), trivial⟩, hs_1⟩
      · refine RT.no rfl rfl rfl (decide_eq_false hg_1) rfl ?_
        refine RT.no rfl rfl rfl (decide_eq_false hg_1) rfl ?_
        refine RT.ev rfl rfl (Ev.pickN rfl (decide_eq_false hg_1) rfl) ?_
        refine RT.nil ?_
        exact ⟨⟨rfl, rfl, rfl, rfl, rfl, rfl, rfl, congrArg some (congrArg Value.bool (by simp [hg_1])), trivial⟩, hs_1⟩
    · rintro L' w_2 ⟨hw_1, hs_2⟩
      refine CW.weaken _ hw_1 ?_
      refine CW.condD rfl (fun hc_2 => ?_) (fun hc_2 => ?_)
      · refine CW.seq ?_
        refine CW.region ?_
        refine RT.ev rfl rfl (Ev.assign rfl) ?_
        refine RT.ev rfl rfl (Ev.assign rfl) ?_
        refine RT.ev rfl rfl (Ev.assign rfl) ?_
        refine RT.nil ?_
        refine CW.ret ?_
        show PostK _ _ _ _ _ _
        refine post3 rfl rfl rfl rfl ?_
        rw [if_pos (by simpa using hc_2)] at hstep
        exact ⟨by rw [uvR, ← hstep]; rfl, hs_2⟩
      · refine CW.skip ?_
        refine CW.seq ?_
        have h9' : ¬ (k = 9 ∧ x ≠ 1) := by simpa using hc_2
        rw [if_neg h9'] at hstep
        have hor := uvr_or (c := x) hvk hk9 h9'
        have hbd := uvr_bound (c := x) hvk
        have hsm := uvr_small (c := x) hk9 h9'
        have hpk : 2 ^ (7 * k) ≤ 2 ^ 63 := Nat.pow_le_pow_right (by decide) (by omega)
        refine CW.region ?_
        refine RT.ev rfl rfl (Ev.move rfl) ?_
        refine RT.ev rfl rfl (Ev.move rfl) ?_
        refine RT.ev rfl rfl (Ev.maskN (b := 127) 7 rfl rfl rfl (by decide) (by (try simp only [IntKind.bits]); omega) (by decide)) ?_
        refine RT.ev rfl rfl (Ev.convK (by rw [Try.underlying5]; rfl) Try.underlying108 rfl (wrap_u rfl (by (try simp only [IntKind.bits]); omega))) ?_
        refine RT.ev rfl rfl (Ev.move rfl) ?_
        refine RT.ev rfl rfl (Ev.mulI (a := 7) rfl rfl (by omega)) ?_
        refine RT.ev rfl rfl (Ev.shlN rfl rfl rfl (by (try simp only [IntKind.bits]); omega)) ?_
        refine RT.ev rfl rfl (Ev.orN rfl rfl rfl (by (try simp only [IntKind.bits]); omega) (by (try simp only [IntKind.bits]); omega)) ?_
        refine RT.ev rfl rfl (Ev.assign rfl) ?_
        refine RT.nil ?_
        refine CW.seq ?_
        refine CW.region ?_
        refine RT.ev rfl rfl (Ev.move rfl) ?_
        refine RT.ev rfl rfl (Ev.lssN (b := 128) rfl rfl) ?_
        refine RT.nil ?_
        refine CW.condD rfl (fun hc_3 => ?_) (fun hc_3 => ?_)
        · refine CW.seq ?_
          refine CW.seq ?_
          refine CW.mid (fun L' w' => Weak [(2, (Value.int .u64 (((u ||| ((x % 2 ^ 7) * 2 ^ (7 * k) % 2 ^ 64)) : Nat) : Int))), (5, (Value.int .i64 ((k : Nat) : Int))), (6, (Value.int .u8 ((x : Nat) : Int))), (7, v), (8, (Value.int .i64 ((l.length : Nat) : Int))), (9, (Value.int .i64 ((k : Nat) : Int))), (10, (Value.bool (decide (k < l.length)))), (19, (Value.bool (decide ((k = 9) ∧ (x ≠ 1))))), (29, (Value.bool (decide (x < 128)))), (35, (Value.bool (decide ((x = 0) ∧ (0 < k)))))] L' ∧ Sat w [] w') ?_ ?_
          · refine CW.region ?_
            refine RT.ev rfl rfl (Ev.move rfl) ?_
            refine RT.ev rfl rfl (Ev.eqlN (b := 0) rfl rfl) ?_
            refine RT.ev rfl rfl (Ev.move rfl) ?_
            by_cases hg_2 : x = 0
            · refine RT.yes rfl rfl rfl (decide_eq_true hg_2) ?_
              refine RT.ev rfl rfl (Ev.move rfl) ?_
              refine RT.yes rfl rfl rfl (decide_eq_true hg_2) ?_
              refine RT.ev rfl rfl (Ev.gtrN (b := 0) rfl rfl) ?_
              refine RT.ev rfl rfl (Ev.pickY rfl (decide_eq_true hg_2) rfl) ?_
              refine RT.nil ?_
              exact ⟨⟨rfl, rfl, rfl, rfl, rfl, rfl, rfl, rfl, rfl, congrArg some (congrArg Value.bool (by simp [hg_2])), trivial⟩, hs_2⟩
            · refine RT.no rfl rfl rfl (decide_eq_false hg_2) rfl ?_
              refine RT.no rfl rfl rfl (decide_eq_false hg_2) rfl ?_
              refine RT.ev rfl rfl (Ev.pickN rfl (decide_eq_false hg_2) rfl) ?_
              refine RT.nil ?_
              exact ⟨⟨rfl, rfl, rfl, rfl, rfl, rfl, rfl, rfl, rfl, congrArg some (congrArg Value.bool (by simp [hg_2])), trivial⟩, hs_2⟩
          · rintro L' w_3 ⟨hw_2, hs_3⟩
            refine CW.weaken _ hw_2 ?_
            refine CW.condD rfl (fun hc_4 => ?_) (fun hc_4 => ?_)
            · refine CW.seq ?_
              refine CW.region ?_
              refine RT.ev rfl rfl (Ev.assign rfl) ?_
              refine RT.ev rfl rfl (Ev.assign rfl) ?_
              refine RT.ev rfl rfl (Ev.assign rfl) ?_
              refine RT.nil ?_
              refine CW.ret ?_
              show PostK _ _ _ _ _ _
              refine post3 rfl rfl rfl rfl ?_
              rw [if_pos hc_3, if_pos (by simpa using hc_4)] at hstep
              exact ⟨by rw [uvR, ← hstep]; rfl, hs_3⟩
            · refine CW.skip ?_
              refine CW.seq ?_
              refine CW.region ?_
              refine RT.ev rfl rfl (Ev.move rfl) ?_
              refine RT.ev rfl rfl (Ev.move rfl) ?_
              refine RT.ev rfl rfl (Ev.addI (b := 1) rfl rfl (by omega)) ?_
              refine RT.ev rfl rfl (Ev.assign rfl) ?_
              refine RT.ev rfl rfl (Ev.assign rfl) ?_
              refine RT.ev rfl rfl (Ev.assign rfl) ?_
              refine RT.nil ?_
              refine CW.ret ?_
              show PostK _ _ _ _ _ _
              refine post3 rfl rfl rfl rfl ?_
              rw [if_pos hc_3, if_neg (by simpa using hc_4)] at hstep
              exact ⟨by rw [uvR, ← hstep, hor]; rfl, hs_3⟩
        · refine CW.skip ?_
          refine CW.region ?_
          refine RT.ev rfl rfl (Ev.addI (b := 1) rfl rfl (by omega)) ?_
          refine RT.ev rfl rfl (Ev.move rfl) ?_
          refine RT.nil ?_
          exact ⟨(k + 1, (u ||| ((x % 2 ^ 7) * 2 ^ (7 * k) % 2 ^ 64))), ⟨rfl, rfl, rfl, rfl, trivial⟩, ⟨hs_2, by omega, by rw [hor, ← hstep, if_neg hc_3], by rw [hor]; exact hbd, by rcases Nat.lt_or_ge k 9 with h | h; (omega); exact absurd ⟨(by omega : k = 9), (by omega : x ≠ 1)⟩ h9'⟩, (show (l.length - (k + 1)) < (l.length - k) from by omega)⟩
  · refine CW.exit0 ?_
    refine CW.seq ?_
    refine CW.region ?_
    refine RT.ev rfl rfl (Ev.assign rfl) ?_
    refine RT.ev rfl rfl (Ev.assign rfl) ?_
    refine RT.ev rfl rfl (Ev.assign rfl) ?_
    refine RT.nil ?_
    refine CW.ret ?_
    show PostK _ _ _ _ _ _
    refine post3 rfl rfl rfl rfl ?_
    rw [show k = l.length by omega, List.drop_length, uvr] at hinv
    exact ⟨by rw [uvR, ← hinv]; rfl, hs_1⟩

theorem beq_ok (v u : Value) (a b : List Nat) (w : World) (hv : RdL w v (encN .u8) a) (hu : RdL w u (encN .u8) b) (ha : ∀ x ∈ a, x < 256) (hb : ∀ x ∈ b, x < 256) :
    CallsV Try.prog 65 [v, u] w fun r w' => r = .bool (decide (a = b)) ∧ Sat w [] w' := by
  have hs0 := Sat.start w
  refine callsV_of Try.func65 rfl rfl ?_
  refine CW.seq ?_
  refine CW.region ?_
  refine RT.ev rfl rfl (Ev.assign rfl) ?_
  refine RT.nil ?_
  refine CW.seq ?_
  refine CW.region ?_
  refine RT.ev rfl rfl (Ev.move rfl) ?_
  refine RT.ev rfl rfl (Ev.bytesStr Try.underlying40 Try.underlying9 Try.underlying5 rfl (hv.ext hs0.ext)) ?_
  refine RT.ev rfl rfl (Ev.move rfl) ?_
  refine RT.ev rfl rfl (Ev.bytesStr Try.underlying40 Try.underlying9 Try.underlying5 rfl (hu.ext hs0.ext)) ?_
  refine RT.ev rfl rfl (Ev.strEql rfl rfl) ?_
  refine RT.ev rfl rfl (Ev.assign rfl) ?_
  refine RT.nil ?_
  refine CW.ret ?_
  show PostK _ _ _ _ _ _
  refine post1 rfl rfl ?_
  refine ⟨congrArg Value.bool ?_, hs0⟩
  by_cases hab : a = b
  · subst hab; simp
  · rw [decide_eq_false hab, decide_eq_false fun h => hab ((strOf_inj ha hb).1 h)]

theorem ruv_ok (v : Nat) (w : World) (hv : v < 2 ^ 64) :
    CallsV Try.prog 87 [(Value.int .u64 ((v : Nat) : Int))] w fun r w' => Sat w [cL r 5 (encN .u8) (uv v)] w' := by
  have hs0 := Sat.start w
  refine callsV_of Try.func87 rfl rfl ?_
  refine CW.seq ?_
  refine CW.region ?_
  refine RT.ev rfl rfl (Ev.assign rfl) ?_
  refine RT.nil ?_
  refine CW.seq ?_
  refine CW.region ?_
  refine RT.ev rfl rfl (Ev.assign rfl) ?_
  refine RT.nil ?_
  refine CW.seq ?_
  refine CW.block ?_
  have hs_1 : Sat w [cL (Value.slice none 0 0) 5 (encN .u8) ([])] _ := hs0.newNilL 5 (encN .u8)
  refine CW.loop (α := Nat × Value × List Nat) (fun (v2, out, acc) => [(0, (Value.int .u64 ((v2 : Nat) : Int))), (3, out)]) (fun (v2, out, acc) w' => Sat w [cL out 5 (encN .u8) (acc)] w' ∧ (v2 < 2 ^ 64) ∧ (acc ++ uv v2 = uv v)) (fun (v2, out, acc) => v2) (v, (Value.slice none 0 0), []) ⟨rfl, rfl, trivial⟩ ⟨hs_1, hv, rfl⟩ ?_
  rintro ⟨v2, out, acc⟩ w_1 ⟨hs_2, hv2, hacc⟩
  show CW _ _ _ _ [(0, (Value.int .u64 ((v2 : Nat) : Int))), (3, out)] _
  have hl2 := congrArg List.length hacc
  simp only [List.length_append] at hl2
  have hu1 := uv_le v
  have hu2 := uv_pos v2
  refine CW.seq ?_
  refine CW.seq ?_
  refine CW.region ?_
  refine RT.ev rfl rfl (Ev.move rfl) ?_
  refine RT.ev rfl rfl (Ev.geqN (b := 128) rfl rfl) ?_
  refine RT.nil ?_
  refine CW.condD rfl (fun hc_1 => ?_) (fun hc_1 => ?_)
  · refine CW.skip ?_
    refine CW.block ?_
    refine CW.seq ?_
    refine CW.region ?_
    refine RT.ev rfl rfl (Ev.move rfl) ?_
    refine RT.ev rfl rfl (Ev.move rfl) ?_
    refine RT.ev rfl rfl (Ev.rem (b := 128) rfl rfl (by omega)) ?_
    refine RT.ev rfl rfl (Ev.convN (by rw [Try.underlying108]; rfl) Try.underlying5 rfl rfl) ?_
    refine RT.ev rfl rfl (Ev.addN (b := 128) rfl rfl rfl) ?_
    refine RT.eff rfl rfl (OpE.lit1 (encN .u8) ((((v2 % 128) % 2 ^ 8) + 128) % 2 ^ 8) sl40 rfl hs_2 rfl fun v_1 w_2 hs_3 hch_1 => ?_)
    have hs_3d : Sat w [cL out 5 (encN .u8) (acc), cL v_1 5 (encN .u8) ([((((v2 % 128) % 2 ^ 8) + 128) % 2 ^ 8)])] _ := hs_3
    refine RT.eff rfl rfl (OpE.appendL 0 sl40 hs_3d rfl rfl rfl Try.underlying40 (hs_3d.rdL 1 rfl) (by simp; omega) (by simp; omega) fun v_2 w_3 hs_4 hch_2 => ?_)
    have hs_4d : Sat w [cL v_2 5 (encN .u8) (acc ++ [((((v2 % 128) % 2 ^ 8) + 128) % 2 ^ 8)])] _ := hs_4.drop 1
    refine RT.ev rfl rfl (Ev.assign rfl) ?_
    refine RT.nil ?_
    refine CW.region ?_
    refine RT.ev rfl rfl (Ev.move rfl) ?_
    refine RT.ev rfl rfl (Ev.quoN (b := 128) rfl rfl rfl (by omega) (by (try simp only [IntKind.bits]); omega)) ?_
    refine RT.ev rfl rfl (Ev.assign rfl) ?_
    refine RT.nil ?_
    exact ⟨((v2 / 128), v_2, acc ++ [((((v2 % 128) % 2 ^ 8) + 128) % 2 ^ 8)]), ⟨rfl, rfl, trivial⟩, ⟨hs_4d, by omega, by rw [← hacc, uv_stepR hv2 hc_1, show ((((v2 % 128) % 2 ^ 8) + 128) % 2 ^ 8) = v2 % 128 + 128 by omega]; simp⟩, (show (((v2 / 128))) < (v2) from by omega)⟩
  · refine CW.exit0 ?_
    refine CW.seq ?_
    refine CW.region ?_
    refine RT.ev rfl rfl (Ev.move rfl) ?_
    refine RT.ev rfl rfl (Ev.move rfl) ?_
    refine RT.ev rfl rfl (Ev.convN (by rw [Try.underlying108]; rfl) Try.underlying5 rfl rfl) ?_
    refine RT.eff rfl rfl (OpE.lit1 (encN .u8) (v2 % 2 ^ 8) sl40 rfl hs_2 rfl fun v_3 w_4 hs_5 hch_3 => ?_)
    have hs_5d : Sat w [cL out 5 (encN .u8) (acc), cL v_3 5 (encN .u8) ([(v2 % 2 ^ 8)])] _ := hs_5
    refine RT.eff rfl rfl (OpE.appendL 0 sl40 hs_5d rfl rfl rfl Try.underlying40 (hs_5d.rdL 1 rfl) (by simp; omega) (by simp; omega) fun v_4 w_5 hs_6 hch_4 => ?_)
    have hs_6d : Sat w [cL v_4 5 (encN .u8) (acc ++ [(v2 % 2 ^ 8)])] _ := hs_6.drop 1
    refine RT.ev rfl rfl (Ev.assign rfl) ?_
    refine RT.nil ?_
    refine CW.ret ?_
    show PostK _ _ _ _ _ _
    refine post1 rfl rfl ?_
    have hq : acc ++ [(v2 % 2 ^ 8)] = uv v := by rw [← hacc, uv_smallR (by omega)] <;> (first | rfl | (congr 1; simp; omega))
    rw [← hq]; exact hs_6d

theorem rstep_ok (v : Nat) (w : World) (hv : v < 4294967296) :
    CallsV Try.prog 150 [(Value.int .u32 ((v : Nat) : Int))] w fun r w' => r = .int .u32 (stepN v 8 : Nat) ∧ Sat w [] w' := by
  have hs0 := Sat.start w
  refine callsV_of Try.func150 rfl rfl ?_
  refine CW.seq ?_
  refine CW.region ?_
  refine RT.ev rfl rfl (Ev.assign rfl) ?_
  refine RT.nil ?_
  refine CW.seq ?_
  refine CW.seq ?_
  refine CW.region ?_
  refine RT.ev rfl rfl (Ev.assign rfl) ?_
  refine RT.nil ?_
  refine CW.block ?_
  refine CW.loop (α := Nat × Nat) (fun (k, u) => [(0, (Value.int .u32 ((u : Nat) : Int))), (3, (Value.int .i64 ((k : Nat) : Int)))]) (fun (k, u) w' => Sat w [] w' ∧ (k ≤ 8) ∧ (u = stepN v k) ∧ (u < 4294967296)) (fun (k, u) => 8 - k) (0, v) ⟨rfl, rfl, trivial⟩ ⟨hs0, Nat.zero_le _, rfl, hv⟩ ?_
  rintro ⟨k, u⟩ w_1 ⟨hs_1, hk, hu, hub⟩
  show CW _ _ _ _ [(0, (Value.int .u32 ((u : Nat) : Int))), (3, (Value.int .i64 ((k : Nat) : Int)))] _
  refine CW.seq ?_
  refine CW.seq ?_
  refine CW.region ?_
  refine RT.ev rfl rfl (Ev.move rfl) ?_
  refine RT.ev rfl rfl (Ev.lssN (b := 8) rfl rfl) ?_
  refine RT.nil ?_
  refine CW.condD rfl (fun hc_1 => ?_) (fun hc_1 => ?_)
  · refine CW.skip ?_
    refine CW.seq ?_
    refine CW.block ?_
    refine CW.seq ?_
    refine CW.region ?_
    refine RT.ev rfl rfl (Ev.move rfl) ?_
    refine RT.ev rfl rfl (Ev.maskN (b := 1) 1 rfl rfl rfl (by decide) (by (try simp only [IntKind.bits]); omega) (by decide)) ?_
    refine RT.ev rfl rfl (Ev.eqlN (b := 1) rfl rfl) ?_
    refine RT.nil ?_
    refine CW.condD rfl (fun hc_2 => ?_) (fun hc_2 => ?_)
    · refine CW.region ?_
      refine RT.ev rfl rfl (Ev.move rfl) ?_
      refine RT.ev rfl rfl (Ev.shrN (b := 1) rfl rfl (by (try simp only [IntKind.bits]); omega)) ?_
      refine RT.ev rfl rfl (Ev.xorN (b := 2197175160) rfl rfl rfl (by (try simp only [IntKind.bits]); omega) (by (try simp only [IntKind.bits]); omega)) ?_
      refine RT.ev rfl rfl (Ev.assign rfl) ?_
      refine RT.nil ?_
      refine CW.region ?_
      refine RT.ev rfl rfl (Ev.move rfl) ?_
      refine RT.ev rfl rfl (Ev.addI (b := 1) rfl rfl (by omega)) ?_
      refine RT.ev rfl rfl (Ev.assign rfl) ?_
      refine RT.nil ?_
      exact ⟨(k + 1, ((u / 2 ^ 1) ^^^ 2197175160)), ⟨rfl, rfl, trivial⟩, ⟨hs_1, by omega, by rw [stepN, ← hu]; simp [st1, hc_2], by have := st1_lt hub; simpa [st1, hc_2] using this⟩, (show (8 - (k + 1)) < (8 - k) from by omega)⟩
    · refine CW.region ?_
      refine RT.ev rfl rfl (Ev.move rfl) ?_
      refine RT.ev rfl rfl (Ev.shrN (b := 1) rfl rfl (by (try simp only [IntKind.bits]); omega)) ?_
      refine RT.ev rfl rfl (Ev.assign rfl) ?_
      refine RT.nil ?_
      refine CW.region ?_
      refine RT.ev rfl rfl (Ev.move rfl) ?_
      refine RT.ev rfl rfl (Ev.addI (b := 1) rfl rfl (by omega)) ?_
      refine RT.ev rfl rfl (Ev.assign rfl) ?_
      refine RT.nil ?_
      exact ⟨(k + 1, (u / 2 ^ 1)), ⟨rfl, rfl, trivial⟩, ⟨hs_1, by omega, by rw [stepN, ← hu]; simp [st1, hc_2], by have := st1_lt hub; simpa [st1, hc_2] using this⟩, (show (8 - (k + 1)) < (8 - k) from by omega)⟩
  · refine CW.exit0 ?_
    refine CW.seq ?_
    refine CW.region ?_
    refine RT.ev rfl rfl (Ev.move rfl) ?_
    refine RT.ev rfl rfl (Ev.assign rfl) ?_
    refine RT.nil ?_
    refine CW.ret ?_
    show PostK _ _ _ _ _ _
    refine post1 rfl rfl ?_
    rw [show k = 8 by omega] at hu
    exact ⟨by rw [hu], hs_1⟩

theorem rsum_ok (v : Value) (l : List Nat) (w : World) (hv : RdL w v (encN .u8) l) (hb : ∀ x ∈ l, x < 256) (hn : l.length ≤ 1000000000) :
    CallsV Try.prog 110 [v] w fun r w' => r = .int .u32 (sumN l : Nat) ∧ Sat w [] w' := by
  have hs0 := Sat.start w
  refine callsV_of Try.func110 rfl rfl ?_
  refine CW.seq ?_
  refine CW.region ?_
  refine RT.ev rfl rfl (Ev.assign rfl) ?_
  refine RT.nil ?_
  refine CW.seq ?_
  refine CW.region ?_
  refine RT.ev rfl rfl (Ev.assign rfl) ?_
  refine RT.nil ?_
  refine CW.seq ?_
  refine CW.seq ?_
  refine CW.region ?_
  refine RT.ev rfl rfl (Ev.move rfl) ?_
  refine RT.ev rfl rfl (Ev.lenL Try.underlying40 rfl (hv.ext hs0.ext)) ?_
  refine RT.ev rfl rfl (Ev.move rfl) ?_
  refine RT.nil ?_
  refine CW.block ?_
  refine CW.loop (α := Nat × Nat) (fun (k, u) => [(3, (Value.int .u32 ((u : Nat) : Int))), (6, v), (7, (Value.int .i64 ((l.length : Nat) : Int))), (8, (Value.int .i64 ((k : Nat) : Int)))]) (fun (k, u) w' => Sat w [] w' ∧ (k ≤ l.length) ∧ (u = crcF (l.take k)) ∧ (u < 4294967296)) (fun (k, u) => l.length - k) (0, 4294967295) ⟨rfl, rfl, rfl, rfl, trivial⟩ ⟨hs0, Nat.zero_le _, rfl, by omega⟩ ?_
  rintro ⟨k, u⟩ w_1 ⟨hs_1, hk, hu, hub⟩
  show CW _ _ _ _ [(3, (Value.int .u32 ((u : Nat) : Int))), (6, v), (7, (Value.int .i64 ((l.length : Nat) : Int))), (8, (Value.int .i64 ((k : Nat) : Int)))] _
  refine CW.seq ?_
  refine CW.region ?_
  refine RT.ev rfl rfl (Ev.lssN rfl rfl) ?_
  refine RT.nil ?_
  refine CW.seq ?_
  refine CW.condD rfl (fun hc_1 => ?_) (fun hc_1 => ?_)
  · refine CW.skip ?_
    refine CW.seq ?_
    refine CW.block ?_
    refine CW.seq ?_
    obtain ⟨x, hx⟩ : ∃ x, (l)[k]? = some x := ⟨_, List.getElem?_eq_getElem hc_1⟩
    refine CW.region ?_
    refine RT.ev rfl rfl (Ev.idxL (E := encN .u8) sl40 rfl rfl (hv.ext hs_1.ext) (by omega)) ?_
    refine RT.ev rfl rfl (Ev.ldL (E := encN .u8) scal5 rfl (hv.ext hs_1.ext) hx (by decide) rfl) ?_
    refine RT.ev rfl rfl (Ev.assign rfl) ?_
    refine RT.nil ?_
    have hxb := hb x (mem_of_get hx)
    have haa : u ^^^ x < 4294967296 := xor_lt32 hub (by omega)
    refine CW.region ?_
    refine RT.ev rfl rfl (Ev.move rfl) ?_
    refine RT.ev rfl rfl (Ev.move rfl) ?_
    refine RT.ev rfl rfl (Ev.convK (by rw [Try.underlying5]; rfl) Try.underlying132 rfl (wrap_u rfl (by (try simp only [IntKind.bits]); omega))) ?_
    refine RT.ev rfl rfl (Ev.xorN rfl rfl rfl (by (try simp only [IntKind.bits]); omega) (by (try simp only [IntKind.bits]); omega)) ?_
    refine RT.eff rfl rfl (OpE.call ent150 rfl ((rstep_ok ((u ^^^ x)) _ (haa)).mono fun r_1 w_2 h_1 => ?_))
    obtain ⟨rfl, hp_1⟩ := h_1
    have hs_2 : Sat w [] _ := hs_1.adds hp_1
    refine RT.ev rfl rfl (Ev.assign rfl) ?_
    refine RT.nil ?_
    refine CW.region ?_
    refine RT.ev rfl rfl (Ev.addI (b := 1) rfl rfl (by omega)) ?_
    refine RT.ev rfl rfl (Ev.move rfl) ?_
    refine RT.nil ?_
    exact ⟨(k + 1, (stepN ((u ^^^ x)) 8)), ⟨rfl, rfl, rfl, rfl, trivial⟩, ⟨hs_2, by omega, by rw [take_succ_of hx, crcF_snoc, ← hu, stepN_eight], stepN_lt haa 8⟩, (show (l.length - (k + 1)) < (l.length - k) from by omega)⟩
  · refine CW.exit0 ?_
    refine CW.seq ?_
    refine CW.region ?_
    refine RT.ev rfl rfl (Ev.move rfl) ?_
    refine RT.ev rfl rfl (Ev.not32 rfl (by omega)) ?_
    refine RT.ev rfl rfl (Ev.assign rfl) ?_
    refine RT.nil ?_
    refine CW.ret ?_
    show PostK _ _ _ _ _ _
    refine post1 rfl rfl ?_
    have hs_3 : Sat w [] w_1 := hs_1.sub (.slnil)
    rw [show k = l.length by omega, List.take_length] at hu
    exact ⟨by rw [hu]; rfl, hs_3⟩

theorem rseal_ok (v : Value) (l : List Nat) (w : World) (hv : RdL w v (encN .u8) l) (hb : ∀ x ∈ l, x < 256) (hn : l.length ≤ 1000000000) :
    CallsV Try.prog 68 [v] w fun r w' => Sat w [cL r 5 (encN .u8) (sealN l)] w' := by
  have hs0 := Sat.start w
  refine callsV_of Try.func68 rfl rfl ?_
  refine CW.seq ?_
  refine CW.region ?_
  refine RT.ev rfl rfl (Ev.assign rfl) ?_
  refine RT.nil ?_
  refine CW.seq ?_
  refine CW.region ?_
  refine RT.ev rfl rfl (Ev.move rfl) ?_
  refine RT.eff rfl rfl (OpE.call ent110 rfl ((rsum_ok _ (l) _ (hv.ext hs0.ext) (hb) (hn)).mono fun r_1 w_1 h_1 => ?_))
  obtain ⟨rfl, hp_1⟩ := h_1
  have hs_1 : Sat w [] _ := hs0.adds hp_1
  refine RT.ev rfl rfl (Ev.assign rfl) ?_
  refine RT.nil ?_
  refine CW.seq ?_
  have hsl := sumN_lt hb
  refine CW.region ?_
  refine RT.ev rfl rfl (Ev.move rfl) ?_
  have hs_2 : Sat w [cL (Value.slice none 0 0) 5 (encN .u8) ([])] _ := hs_1.newNilL 5 (encN .u8)
  refine RT.eff rfl rfl (OpE.appendL 0 sl40 hs_2 rfl rfl rfl Try.underlying40 (hv.ext hs_2.ext) (by simp; omega) (by simp; omega) fun v_1 w_2 hs_3 hch_1 => ?_)
  have hs_3d : Sat w [cL v_1 5 (encN .u8) (l)] _ := hs_3
  refine RT.ev rfl rfl (Ev.move rfl) ?_
  refine RT.ev rfl rfl (Ev.convN (by rw [Try.underlying132]; rfl) Try.underlying5 rfl rfl) ?_
  refine RT.ev rfl rfl (Ev.move rfl) ?_
  refine RT.ev rfl rfl (Ev.shrN (b := 8) rfl rfl (by (try simp only [IntKind.bits]); omega)) ?_
  refine RT.ev rfl rfl (Ev.convN (by rw [Try.underlying132]; rfl) Try.underlying5 rfl rfl) ?_
  refine RT.ev rfl rfl (Ev.move rfl) ?_
  refine RT.ev rfl rfl (Ev.shrN (b := 16) rfl rfl (by (try simp only [IntKind.bits]); omega)) ?_
  refine RT.ev rfl rfl (Ev.convN (by rw [Try.underlying132]; rfl) Try.underlying5 rfl rfl) ?_
  refine RT.ev rfl rfl (Ev.move rfl) ?_
  refine RT.ev rfl rfl (Ev.shrN (b := 24) rfl rfl (by (try simp only [IntKind.bits]); omega)) ?_
  refine RT.ev rfl rfl (Ev.convN (by rw [Try.underlying132]; rfl) Try.underlying5 rfl rfl) ?_
  refine RT.eff rfl rfl (OpE.litN (encN .u8) [((sumN (l)) % 2 ^ 8), (((sumN (l)) / 2 ^ 8) % 2 ^ 8), (((sumN (l)) / 2 ^ 16) % 2 ^ 8), (((sumN (l)) / 2 ^ 24) % 2 ^ 8)] sl40 rfl ⟨rfl, rfl, rfl, rfl, trivial⟩ rfl rfl rfl rfl (by decide) (by decide) hs_3d fun v_2 w_3 hs_4 hch_2 => ?_)
  have hs_4d : Sat w [cL v_1 5 (encN .u8) (l), cL v_2 5 (encN .u8) ([((sumN (l)) % 2 ^ 8), (((sumN (l)) / 2 ^ 8) % 2 ^ 8), (((sumN (l)) / 2 ^ 16) % 2 ^ 8), (((sumN (l)) / 2 ^ 24) % 2 ^ 8)])] _ := hs_4
  refine RT.eff rfl rfl (OpE.appendL 0 sl40 hs_4d rfl rfl rfl Try.underlying40 (hs_4d.rdL 1 rfl) (by simp; omega) (by simp; omega) fun v_3 w_4 hs_5 hch_3 => ?_)
  have hs_5d : Sat w [cL v_3 5 (encN .u8) (l ++ [((sumN (l)) % 2 ^ 8), (((sumN (l)) / 2 ^ 8) % 2 ^ 8), (((sumN (l)) / 2 ^ 16) % 2 ^ 8), (((sumN (l)) / 2 ^ 24) % 2 ^ 8)])] _ := hs_5.drop 1
  refine RT.ev rfl rfl (Ev.assign rfl) ?_
  refine RT.nil ?_
  refine CW.ret ?_
  show PostK _ _ _ _ _ _
  refine post1 rfl rfl ?_
  have hs_6 : Sat w [cL v_3 5 (encN .u8) (l ++ [((sumN (l)) % 2 ^ 8), (((sumN (l)) / 2 ^ 8) % 2 ^ 8), (((sumN (l)) / 2 ^ 16) % 2 ^ 8), (((sumN (l)) / 2 ^ 24) % 2 ^ 8)])] w_4 := hs_5d.sub ((.cons_cons _ .slnil))
  have hs_7 : Sat w [cL v_3 5 (encN .u8) (sealN l)] w_4 := by
    have hq : l ++ [((sumN (l)) % 2 ^ 8), (((sumN (l)) / 2 ^ 8) % 2 ^ 8), (((sumN (l)) / 2 ^ 16) % 2 ^ 8), (((sumN (l)) / 2 ^ 24) % 2 ^ 8)] = sealN l := by simp [sealN, byts]
    rw [← hq]; exact hs_6
  exact hs_7

theorem arr4_130 : arr4B Try.prog 130 = true := by kernel_rfl
theorem unseal_ok (v : Value) (b : List Nat) (w : World) (hv : RdL w v (encN .u8) b) (hb : ∀ x ∈ b, x < 256) (hn : b.length ≤ 1000000000) (h4 : 4 ≤ b.length) (hsum : byts (sumN (b.take (b.length - 4))) = b.drop (b.length - 4)) :
    CallsV Try.prog 63 [v] w fun r w' => ∃ v', r = .tuple #[v', .int .i64 ((0 : Nat) : Int)] ∧ Sat w [cL v' 5 (encN .u8) (b.take (b.length - 4))] w' := by
  have hs0 := Sat.start w
  refine callsV_of Try.func63 rfl rfl ?_
  refine CW.seq ?_
  refine CW.region ?_
  refine RT.ev rfl rfl (Ev.assign rfl) ?_
  refine RT.ev rfl rfl (Ev.assign rfl) ?_
  refine RT.nil ?_
  refine CW.seq ?_
  refine CW.seq ?_
  refine CW.region ?_
  refine RT.ev rfl rfl (Ev.move rfl) ?_
  refine RT.ev rfl rfl (Ev.lenL Try.underlying40 rfl (hv.ext hs0.ext)) ?_
  refine RT.ev rfl rfl (Ev.lssN (b := 4) rfl rfl) ?_
  refine RT.nil ?_
  refine CW.condF rfl (decide_eq_false (by omega)) ?_
  refine CW.skip ?_
  refine CW.seq ?_
  refine CW.region ?_
  refine RT.ev rfl rfl (Ev.move rfl) ?_
  refine RT.ev rfl rfl (Ev.lenL Try.underlying40 rfl (hv.ext hs0.ext)) ?_
  refine RT.ev rfl rfl (Ev.subI (b := 4) rfl rfl (by omega) (by omega)) ?_
  refine RT.ev rfl rfl (Ev.assign rfl) ?_
  refine RT.nil ?_
  refine CW.seq ?_
  refine CW.seq ?_
  refine CW.draw (fun w' => Sat w [] w') (.free 0 (.free 1 (.free 2 (.free 5 (.free 6 (.free 7 (.two 3 8 (.two 4 8 (.one 8 (.free 9 (.free 10 .fin))) (.free 9 (.one 4 (.free 10 .fin)))) (.free 9 (.one 3 (.one 4 (.free 10 .fin))))))))))) mixed (by kernel_rfl) ?_
  have hs_1 := hs0.drew
  refine RP.ev rfl rfl rfl (fun w' hS' => Ev.move rfl) hs_1 ?_
  refine RP.ev rfl rfl rfl (fun w' hS' => Ev.move rfl) hs_1 ?_
  refine RP.ev rfl rfl rfl (fun w' hS' => Ev.sliceL (E := encN .u8) (a := 0) (c := (b.length - 4)) sl40 rfl (hv.ext hS'.ext) rfl ⟨_, rfl⟩ (Nat.zero_le _) (by omega)) hs_1 ?_
  refine RP.ev rfl rfl rfl (fun w' hS' => Ev.move rfl) hs_1 ?_
  refine RP.ev rfl rfl rfl (fun w' hS' => Ev.move rfl) hs_1 ?_
  refine RP.ev rfl rfl rfl (fun w' hS' => Ev.sliceL (E := encN .u8) (a := (b.length - 4)) (c := (b).length) sl40 rfl (hv.ext hS'.ext) ⟨_, rfl⟩ rfl (by omega) (Nat.le_refl _)) hs_1 ?_
  refine RP.two rfl rfl rfl rfl rfl rfl (OpE.call ent103 rfl ((sum_ok _ (((b).take (b.length - 4)).drop 0) _ (((hv.ext hs_1.ext)).sub (a := 0) (b := (b.length - 4)) (Nat.zero_le _) (by omega)) (fun x hx => hb x (List.mem_of_mem_take (List.mem_of_mem_drop hx))) (by simp; omega)).mono fun r_1 w_1 h_1 => ?_)) (OpE.ev (Ev.toArr (E := encN .u8) Try.underlying130 rfl (((hv.ext hs_1.ext)).sub (a := (b.length - 4)) (b := (b).length) (by omega) (Nat.le_refl _)) (by simp; omega)) ⟨hs_1, ?_⟩)
  · obtain ⟨rfl, hp_1⟩ := h_1
    have hs_2 : Sat w [] _ := hs_1.adds hp_1
    have hS_1 : Sat w [] _ := hs_2.sub (.slnil)
    refine ⟨hS_1, ?_⟩
    refine RP.two rfl rfl rfl rfl rfl rfl (OpE.call ent102 rfl ((bytesOf_ok ((sumN (((b).take (b.length - 4)).drop 0))) _ (sumN_lt (fun x hx => hb x (List.mem_of_mem_take (List.mem_of_mem_drop hx))))).mono fun r_2 w_2 h_2 => ?_)) (OpE.ev (Ev.toArr (E := encN .u8) Try.underlying130 rfl (((hv.ext hs_2.ext)).sub (a := (b.length - 4)) (b := (b).length) (by omega) (Nat.le_refl _)) (by simp; omega)) ⟨hS_1, ?_⟩)
    · obtain ⟨rfl, hp_2⟩ := h_2
      have hs_3 : Sat w [] _ := hs_2.adds hp_2
      have hS_2 : Sat w [] _ := hs_3.sub (.slnil)
      refine ⟨hS_2, ?_⟩
      refine RP.eff rfl rfl rfl (OpE.ev (Ev.toArr (E := encN .u8) Try.underlying130 rfl (((hv.ext hs_3.ext)).sub (a := (b.length - 4)) (b := (b).length) (by omega) (Nat.le_refl _)) (by simp; omega)) ⟨hS_2, ?_⟩)
      refine RP.ev rfl rfl rfl (fun w' hS' => Ev.ldArr (E := encN .u8) agg130 rfl (((hv.ext hS'.ext)).sub (a := (b.length - 4)) (b := (b).length) (by omega) (Nat.le_refl _)) (by show _ * 1 = _; simp; omega) (by decide)) hS_2 ?_
      refine RP.ev rfl rfl rfl (fun w' hS' => Ev.neqArr4 arr4_130 (rfl) (by simp; omega) rfl rfl) hS_2 ?_
      refine RP.fin ?_
      refine CW.condF rfl (decide_eq_false (fun h => h (by rw [List.drop_zero, List.take_length]; exact hsum))) ?_
      refine CW.skip ?_
      refine CW.seq ?_
      refine CW.region ?_
      refine RT.eff rfl rfl (OpE.lit0 (encN .u8) sl40 hs_3 fun v_1 w_3 hs_4 hch_1 => ?_)
      have hs_4d : Sat w [cL v_1 5 (encN .u8) ([])] _ := hs_4
      refine RT.ev rfl rfl (Ev.move rfl) ?_
      refine RT.ev rfl rfl (Ev.move rfl) ?_
      refine RT.ev rfl rfl (Ev.sliceL (E := encN .u8) (a := 0) (c := (b.length - 4)) sl40 rfl (hv.ext hs_4d.ext) rfl ⟨_, rfl⟩ (Nat.zero_le _) (by omega)) ?_
      refine RT.eff rfl rfl (OpE.appendL 0 sl40 hs_4d rfl rfl rfl Try.underlying40 (((hv.ext hs_4d.ext)).sub (a := 0) (b := (b.length - 4)) (Nat.zero_le _) (by omega)) (by simp; omega) (by simp; omega) fun v_2 w_4 hs_5 hch_2 => ?_)
      have hs_5d : Sat w [cL v_2 5 (encN .u8) (((b).take (b.length - 4)).drop 0)] _ := hs_5
      refine RT.ev rfl rfl (Ev.assign rfl) ?_
      refine RT.ev rfl rfl (Ev.assign rfl) ?_
      refine RT.nil ?_
      refine CW.ret ?_
      show PostK _ _ _ _ _ _
      refine post2 rfl rfl rfl ?_
      have hs_6 : Sat w [cL v_2 5 (encN .u8) (((b).take (b.length - 4)).drop 0)] w_4 := hs_5d.sub ((.cons_cons _ .slnil))
      have hs_7 : Sat w [cL v_2 5 (encN .u8) (b.take (b.length - 4))] w_4 := by
        have hq : ((b).take (b.length - 4)).drop 0 = b.take (b.length - 4) := by simp
        rw [← hq]; exact hs_6
      exact ⟨_, rfl, hs_7⟩
    · refine RP.ev rfl rfl rfl (fun w' hS' => Ev.ldArr (E := encN .u8) agg130 rfl (((hv.ext hS'.ext)).sub (a := (b.length - 4)) (b := (b).length) (by omega) (Nat.le_refl _)) (by show _ * 1 = _; simp; omega) (by decide)) hS_1 ?_
      refine RP.eff rfl rfl rfl (OpE.call ent102 rfl ((bytesOf_ok ((sumN (((b).take (b.length - 4)).drop 0))) _ (sumN_lt (fun x hx => hb x (List.mem_of_mem_take (List.mem_of_mem_drop hx))))).mono fun r_3 w_5 h_3 => ?_))
      obtain ⟨rfl, hp_3⟩ := h_3
      have hs_8 : Sat w [] _ := hs_2.adds hp_3
      have hS_3 : Sat w [] _ := hs_8.sub (.slnil)
      refine ⟨hS_3, ?_⟩
      refine RP.ev rfl rfl rfl (fun w' hS' => Ev.neqArr4 arr4_130 (rfl) (by simp; omega) rfl rfl) hS_3 ?_
      refine RP.fin ?_
      refine CW.condF rfl (decide_eq_false (fun h => h (by rw [List.drop_zero, List.take_length]; exact hsum))) ?_
      refine CW.skip ?_
      refine CW.seq ?_
      refine CW.region ?_
      refine RT.eff rfl rfl (OpE.lit0 (encN .u8) sl40 hs_8 fun v_3 w_6 hs_9 hch_3 => ?_)
      have hs_9d : Sat w [cL v_3 5 (encN .u8) ([])] _ := hs_9
      refine RT.ev rfl rfl (Ev.move rfl) ?_
      refine RT.ev rfl rfl (Ev.move rfl) ?_
      refine RT.ev rfl rfl (Ev.sliceL (E := encN .u8) (a := 0) (c := (b.length - 4)) sl40 rfl (hv.ext hs_9d.ext) rfl ⟨_, rfl⟩ (Nat.zero_le _) (by omega)) ?_
      refine RT.eff rfl rfl (OpE.appendL 0 sl40 hs_9d rfl rfl rfl Try.underlying40 (((hv.ext hs_9d.ext)).sub (a := 0) (b := (b.length - 4)) (Nat.zero_le _) (by omega)) (by simp; omega) (by simp; omega) fun v_4 w_7 hs_10 hch_4 => ?_)
      have hs_10d : Sat w [cL v_4 5 (encN .u8) (((b).take (b.length - 4)).drop 0)] _ := hs_10
      refine RT.ev rfl rfl (Ev.assign rfl) ?_
      refine RT.ev rfl rfl (Ev.assign rfl) ?_
      refine RT.nil ?_
      refine CW.ret ?_
      show PostK _ _ _ _ _ _
      refine post2 rfl rfl rfl ?_
      have hs_11 : Sat w [cL v_4 5 (encN .u8) (((b).take (b.length - 4)).drop 0)] w_7 := hs_10d.sub ((.cons_cons _ .slnil))
      have hs_12 : Sat w [cL v_4 5 (encN .u8) (b.take (b.length - 4))] w_7 := by
        have hq : ((b).take (b.length - 4)).drop 0 = b.take (b.length - 4) := by simp
        rw [← hq]; exact hs_11
      exact ⟨_, rfl, hs_12⟩
  · refine RP.ev rfl rfl rfl (fun w' hS' => Ev.ldArr (E := encN .u8) agg130 rfl (((hv.ext hS'.ext)).sub (a := (b.length - 4)) (b := (b).length) (by omega) (Nat.le_refl _)) (by show _ * 1 = _; simp; omega) (by decide)) hs_1 ?_
    refine RP.eff rfl rfl rfl (OpE.call ent103 rfl ((sum_ok _ (((b).take (b.length - 4)).drop 0) _ (((hv.ext hs_1.ext)).sub (a := 0) (b := (b.length - 4)) (Nat.zero_le _) (by omega)) (fun x hx => hb x (List.mem_of_mem_take (List.mem_of_mem_drop hx))) (by simp; omega)).mono fun r_4 w_8 h_4 => ?_))
    obtain ⟨rfl, hp_4⟩ := h_4
    have hs_13 : Sat w [] _ := hs_1.adds hp_4
    have hS_4 : Sat w [] _ := hs_13.sub (.slnil)
    refine ⟨hS_4, ?_⟩
    refine RP.eff rfl rfl rfl (OpE.call ent102 rfl ((bytesOf_ok ((sumN (((b).take (b.length - 4)).drop 0))) _ (sumN_lt (fun x hx => hb x (List.mem_of_mem_take (List.mem_of_mem_drop hx))))).mono fun r_5 w_9 h_5 => ?_))
    obtain ⟨rfl, hp_5⟩ := h_5
    have hs_14 : Sat w [] _ := hs_13.adds hp_5
    have hS_5 : Sat w [] _ := hs_14.sub (.slnil)
    refine ⟨hS_5, ?_⟩
    refine RP.ev rfl rfl rfl (fun w' hS' => Ev.neqArr4 arr4_130 (rfl) (by simp; omega) rfl rfl) hS_5 ?_
    refine RP.fin ?_
    refine CW.condF rfl (decide_eq_false (fun h => h (by rw [List.drop_zero, List.take_length]; exact hsum))) ?_
    refine CW.skip ?_
    refine CW.seq ?_
    refine CW.region ?_
    refine RT.eff rfl rfl (OpE.lit0 (encN .u8) sl40 hs_14 fun v_5 w_10 hs_15 hch_5 => ?_)
    have hs_15d : Sat w [cL v_5 5 (encN .u8) ([])] _ := hs_15
    refine RT.ev rfl rfl (Ev.move rfl) ?_
    refine RT.ev rfl rfl (Ev.move rfl) ?_
    refine RT.ev rfl rfl (Ev.sliceL (E := encN .u8) (a := 0) (c := (b.length - 4)) sl40 rfl (hv.ext hs_15d.ext) rfl ⟨_, rfl⟩ (Nat.zero_le _) (by omega)) ?_
    refine RT.eff rfl rfl (OpE.appendL 0 sl40 hs_15d rfl rfl rfl Try.underlying40 (((hv.ext hs_15d.ext)).sub (a := 0) (b := (b.length - 4)) (Nat.zero_le _) (by omega)) (by simp; omega) (by simp; omega) fun v_6 w_11 hs_16 hch_6 => ?_)
    have hs_16d : Sat w [cL v_6 5 (encN .u8) (((b).take (b.length - 4)).drop 0)] _ := hs_16
    refine RT.ev rfl rfl (Ev.assign rfl) ?_
    refine RT.ev rfl rfl (Ev.assign rfl) ?_
    refine RT.nil ?_
    refine CW.ret ?_
    show PostK _ _ _ _ _ _
    refine post2 rfl rfl rfl ?_
    have hs_17 : Sat w [cL v_6 5 (encN .u8) (((b).take (b.length - 4)).drop 0)] w_11 := hs_16d.sub ((.cons_cons _ .slnil))
    have hs_18 : Sat w [cL v_6 5 (encN .u8) (b.take (b.length - 4))] w_11 := by
      have hq : ((b).take (b.length - 4)).drop 0 = b.take (b.length - 4) := by simp
      rw [← hq]; exact hs_17
    exact ⟨_, rfl, hs_18⟩

theorem unseal_p (v : Value) (b p : List Nat) (w : World) (hv : RdL w v (encN .u8) b) (he : b = sealN p) (hb : ∀ x ∈ p, x < 256) (hn : p.length ≤ 10000000) :
    CallsV Try.prog 63 [v] w fun r w' => ∃ v', r = .tuple #[v', .int .i64 ((0 : Nat) : Int)] ∧ Sat w [cL v' 5 (encN .u8) p] w' := by
  subst he
  have hl := sealN_length p
  have ht : (sealN p).take ((sealN p).length - 4) = p := by rw [hl, Nat.add_sub_cancel, sealN, List.take_left']; rfl
  have hd : (sealN p).drop ((sealN p).length - 4) = byts (sumN p) := by rw [hl, Nat.add_sub_cancel, sealN, List.drop_left']; rfl
  have h := unseal_ok v (sealN p) w hv (fun x hx => by
    rcases List.mem_append.1 hx with hx | hx
    · exact hb x hx
    · exact byts_lt _ x hx) (by omega) (by omega) (by rw [ht, hd])
  rw [ht] at h; exact h

end Go.Proofs.Ytfhbflhnelbkfaa
