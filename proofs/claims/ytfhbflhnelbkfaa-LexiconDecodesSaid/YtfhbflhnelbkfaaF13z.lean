/- The walks of the functions of F13z, printed by our own program (kwgen.py) out of our descriptions (base.py). -/
import Derived.Test.YtfhbflhnelbkfaaF13y
import Derived.Test.YtfhbflhnelbkfaaKi2
import Derived.Test.YtfhbflhnelbkfaaTab
namespace Go.Proofs.Ytfhbflhnelbkfaa
open Go.RowKit Go.Kw
set_option maxRecDepth 100000
set_option linter.unusedVariables false
set_option linter.unusedSimpArgs false
theorem rtk_ok (v : Value) (l : List Nat) (w : World) (hv : RdL w v (encN .u8) l) (hb : ∀ x ∈ l, x < 256) :
    CallsV Try.prog 90 [v] w fun r w' => r = .tuple #[.int .u64 ((uvR l).1 : Nat), .int .i64 ((uvR l).2.1 : Nat), .int .i64 ((uvR l).2.2 : Nat)] ∧ Sat w [] w' := by
  have hs0 := Sat.start w
  refine callsV_of Try.func90 rfl rfl ?_
  refine CW.seq ?_
  refine CW.region ?_
  refine RT.ev rfl rfl (Ev.assign rfl) ?_
  refine RT.ev rfl rfl (Ev.assign rfl) ?_
  refine RT.ev rfl rfl (Ev.assign rfl) ?_
  refine RT.nil ?_
  refine CW.seq ?_
  refine CW.region ?_
  refine RT.ev rfl rfl (Ev.assign rfl) ?_
  refine RT.nil ?_
  refine CW.seq ?_
  refine CW.seq ?_
  refine CW.region ?_
  refine RT.ev rfl rfl (Ev.move rfl) ?_
  refine RT.ev rfl rfl (Ev.lenL Try.underlying40 rfl (hv.ext hs0.ext)) ?_
  refine RT.ev rfl rfl (Ev.move rfl) ?_
  refine RT.nil ?_
  refine CW.block ?_
  refine CW.loop (α := Nat × Nat) (fun (k, u) => [(5, (Value.int .u64 ((u : Nat) : Int))), (8, v), (9, (Value.int .i64 ((l.length : Nat) : Int))), (10, (Value.int .i64 ((k : Nat) : Int)))]) (fun (k, u) w' => Sat w [] w' ∧ (k ≤ l.length) ∧ (uvr k u (l.drop k) = uvr 0 0 l) ∧ (u < 2 ^ (7 * k)) ∧ (k ≤ 9)) (fun (k, u) => l.length - k) (0, 0) ⟨rfl, rfl, rfl, rfl, trivial⟩ ⟨hs0, Nat.zero_le _, rfl, by decide, by omega⟩ ?_
  rintro ⟨k, u⟩ w_1 ⟨hs_1, hk, hinv, hvk, hk9⟩
  show CW _ _ _ _ [(5, (Value.int .u64 ((u : Nat) : Int))), (8, v), (9, (Value.int .i64 ((l.length : Nat) : Int))), (10, (Value.int .i64 ((k : Nat) : Int)))] _
  refine CW.seq ?_
  refine CW.region ?_
  refine RT.ev rfl rfl (Ev.lssN rfl rfl) ?_
  refine RT.nil ?_
  refine CW.seq ?_
  refine CW.condD rfl (fun hc_1 => ?_) (fun hc_1 => ?_)
  · refine CW.skip ?_
    refine CW.seq ?_
    refine CW.block ?_
    refine CW.seq ?_
    obtain ⟨x, hx⟩ : ∃ x, (l)[k]? = some x := ⟨_, List.getElem?_eq_getElem hc_1⟩
    refine CW.region ?_
    refine RT.ev rfl rfl (Ev.move rfl) ?_
    refine RT.ev rfl rfl (Ev.idxL (E := encN .u8) sl40 rfl rfl (hv.ext hs_1.ext) (by omega)) ?_
    refine RT.ev rfl rfl (Ev.ldL (E := encN .u8) scal5 rfl (hv.ext hs_1.ext) hx (by decide) rfl) ?_
    refine RT.ev rfl rfl (Ev.assign rfl) ?_
    refine RT.ev rfl rfl (Ev.assign rfl) ?_
    refine RT.nil ?_
    refine CW.seq ?_
    refine CW.seq ?_
    have hdk := drop_of_get hx
    have hx256 := hb x (mem_of_get hx)
    have hstep := hinv
    rw [hdk, uvr] at hstep
    refine CW.mid (fun L' w' => Weak [(5, (Value.int .u64 ((u : Nat) : Int))), (6, (Value.int .i64 ((k : Nat) : Int))), (7, (Value.int .u8 ((x : Nat) : Int))), (8, v), (9, (Value.int .i64 ((l.length : Nat) : Int))), (10, (Value.int .i64 ((k : Nat) : Int))), (11, (Value.bool (decide (k < l.length)))), (20, (Value.bool (decide ((k = 9) ∧ (1 < x)))))] L' ∧ Sat w [] w') ?_ ?_
    · refine CW.region ?_
      refine RT.ev rfl rfl (Ev.move rfl) ?_
      refine RT.ev rfl rfl (Ev.eqlN (b := 9) rfl rfl) ?_
      refine RT.ev rfl rfl (Ev.move rfl) ?_
      by_cases hg_1 : k = 9
      · refine RT.yes rfl rfl rfl (decide_eq_true hg_1) ?_
        refine RT.ev rfl rfl (Ev.move rfl) ?_
        refine RT.yes rfl rfl rfl (decide_eq_true hg_1) ?_
        refine RT.ev rfl rfl (Ev.gtrN (b := 1) rfl rfl) ?_
        refine RT.ev rfl rfl (Ev.pickY rfl (decide_eq_true hg_1) rfl) ?_
        refine RT.nil ?_
        exact ⟨⟨rfl, rfl, rfl, rfl, rfl, rfl, rfl, congrArg some (congrArg Value.bool (by simp [hg_1])), trivial⟩, hs_1⟩
      · refine RT.no rfl rfl rfl (decide_eq_false hg_1) rfl ?_
        refine RT.no rfl rfl rfl (decide_eq_false hg_1) rfl ?_
        refine RT.ev rfl rfl (Ev.pickN rfl (decide_eq_false hg_1) rfl) ?_
        refine RT.nil ?_
        exact ⟨⟨rfl, rfl, rfl, rfl, rfl, rfl, rfl, congrArg some (congrArg Value.bool (by simp [hg_1])), trivial⟩, hs_1⟩
    · rintro L' w_2 ⟨hw_1, hs_2⟩
      refine CW.weaken _ hw_1 ?_
      refine CW.condD rfl (fun hc_2 => ?_) (fun hc_2 => ?_)
      · refine CW.seq ?_
        refine CW.region ?_
        refine RT.ev rfl rfl (Ev.assign rfl) ?_
        refine RT.ev rfl rfl (Ev.assign rfl) ?_
        refine RT.ev rfl rfl (Ev.assign rfl) ?_
        refine RT.nil ?_
        refine CW.ret ?_
        show PostK _ _ _ _ _ _
        refine post3 rfl rfl rfl rfl ?_
        rw [if_pos (by have := hc_2; omega)] at hstep
        exact ⟨by rw [uvR, ← hstep]; rfl, hs_2⟩
      · refine CW.skip ?_
        refine CW.seq ?_
        rcases Decidable.em (k = 9 ∧ x = 0) with h90 | h90
        · obtain ⟨rfl, rfl⟩ := h90
          rw [if_pos (by decide)] at hstep
          refine CW.region ?_
          refine RT.ev rfl rfl (Ev.move rfl) ?_
          refine RT.ev rfl rfl (Ev.move rfl) ?_
          refine RT.ev rfl rfl (Ev.rem (b := 128) rfl rfl (by omega)) ?_
          refine RT.ev rfl rfl (Ev.convK (by rw [Try.underlying5]; rfl) Try.underlying108 rfl (wrap_u rfl (by (try simp only [IntKind.bits]); omega))) ?_
          refine RT.ev rfl rfl (Ev.move rfl) ?_
          refine RT.ev rfl rfl (Ev.mulI (a := 7) rfl rfl (by omega)) ?_
          refine RT.ev rfl rfl (Ev.convK (by rw [Try.underlying3]; rfl) Try.underlying138 rfl (wrap_u rfl (by (try simp only [IntKind.bits]); omega))) ?_
          refine RT.ev rfl rfl (Ev.shlN rfl rfl rfl (by (try simp only [IntKind.bits]); omega)) ?_
          refine RT.ev rfl rfl (Ev.orN rfl rfl rfl (by (try simp only [IntKind.bits]); omega) (by (try simp only [IntKind.bits]); omega)) ?_
          refine RT.ev rfl rfl (Ev.assign rfl) ?_
          refine RT.nil ?_
          refine CW.seq ?_
          refine CW.region ?_
          refine RT.ev rfl rfl (Ev.move rfl) ?_
          refine RT.ev rfl rfl (Ev.lssN (b := 128) rfl rfl) ?_
          refine RT.nil ?_
          refine CW.condT rfl (decide_eq_true (by decide)) ?_
          refine CW.seq ?_
          refine CW.seq ?_
          refine CW.region ?_
          refine RT.ev rfl rfl (Ev.move rfl) ?_
          refine RT.ev rfl rfl (Ev.eqlN (b := 0) rfl rfl) ?_
          refine RT.ev rfl rfl (Ev.move rfl) ?_
          refine RT.yes rfl rfl rfl (decide_eq_true rfl) ?_
          refine RT.ev rfl rfl (Ev.move rfl) ?_
          refine RT.yes rfl rfl rfl (decide_eq_true rfl) ?_
          refine RT.ev rfl rfl (Ev.gtrN (b := 0) rfl rfl) ?_
          refine RT.ev rfl rfl (Ev.pickY rfl (decide_eq_true rfl) rfl) ?_
          refine RT.nil ?_
          refine CW.condT rfl (decide_eq_true (by decide)) ?_
          refine CW.seq ?_
          refine CW.region ?_
          refine RT.ev rfl rfl (Ev.assign rfl) ?_
          refine RT.ev rfl rfl (Ev.assign rfl) ?_
          refine RT.ev rfl rfl (Ev.assign rfl) ?_
          refine RT.nil ?_
          refine CW.ret ?_
          show PostK _ _ _ _ _ _
          refine post3 rfl rfl rfl rfl ?_
          exact ⟨by rw [uvR, ← hstep]; rfl, hs_2⟩
        · have h9' : ¬ (k = 9 ∧ x ≠ 1) := fun h => by have := hc_2; omega
          rw [if_neg h9'] at hstep
          have hor := uvr_or (c := x) hvk hk9 h9'
          have hbd := uvr_bound (c := x) hvk
          have hsm := uvr_small (c := x) hk9 h9'
          have hpk : 2 ^ (7 * k) ≤ 2 ^ 63 := Nat.pow_le_pow_right (by decide) (by omega)
          refine CW.region ?_
          refine RT.ev rfl rfl (Ev.move rfl) ?_
          refine RT.ev rfl rfl (Ev.move rfl) ?_
          refine RT.ev rfl rfl (Ev.rem (b := 128) rfl rfl (by omega)) ?_
          refine RT.ev rfl rfl (Ev.convK (by rw [Try.underlying5]; rfl) Try.underlying108 rfl (wrap_u rfl (by (try simp only [IntKind.bits]); omega))) ?_
          refine RT.ev rfl rfl (Ev.move rfl) ?_
          refine RT.ev rfl rfl (Ev.mulI (a := 7) rfl rfl (by omega)) ?_
          refine RT.ev rfl rfl (Ev.convK (by rw [Try.underlying3]; rfl) Try.underlying138 rfl (wrap_u rfl (by (try simp only [IntKind.bits]); omega))) ?_
          refine RT.ev rfl rfl (Ev.shlN rfl rfl rfl (by (try simp only [IntKind.bits]); omega)) ?_
          refine RT.ev rfl rfl (Ev.orN rfl rfl rfl (by (try simp only [IntKind.bits]); omega) (by (try simp only [IntKind.bits]); omega)) ?_
          refine RT.ev rfl rfl (Ev.assign rfl) ?_
          refine RT.nil ?_
          refine CW.seq ?_
          refine CW.region ?_
          refine RT.ev rfl rfl (Ev.move rfl) ?_
          refine RT.ev rfl rfl (Ev.lssN (b := 128) rfl rfl) ?_
          refine RT.nil ?_
          refine CW.condD rfl (fun hc_3 => ?_) (fun hc_3 => ?_)
          · refine CW.seq ?_
            refine CW.seq ?_
            refine CW.region ?_
            refine RT.ev rfl rfl (Ev.move rfl) ?_
            refine RT.ev rfl rfl (Ev.eqlN (b := 0) rfl rfl) ?_
            refine RT.ev rfl rfl (Ev.move rfl) ?_
            by_cases hg_2 : x = 0
            · refine RT.yes rfl rfl rfl (decide_eq_true hg_2) ?_
              refine RT.ev rfl rfl (Ev.move rfl) ?_
              refine RT.yes rfl rfl rfl (decide_eq_true hg_2) ?_
              refine RT.ev rfl rfl (Ev.gtrN (b := 0) rfl rfl) ?_
              refine RT.ev rfl rfl (Ev.pickY rfl (decide_eq_true hg_2) rfl) ?_
              refine RT.nil ?_
              refine CW.condD rfl (fun hc_4 => ?_) (fun hc_4 => ?_)
              · refine CW.seq ?_
                refine CW.region ?_
                refine RT.ev rfl rfl (Ev.assign rfl) ?_
                refine RT.ev rfl rfl (Ev.assign rfl) ?_
                refine RT.ev rfl rfl (Ev.assign rfl) ?_
                refine RT.nil ?_
                refine CW.ret ?_
                show PostK _ _ _ _ _ _
                refine post3 rfl rfl rfl rfl ?_
                rw [if_pos hc_3, if_pos (by omega)] at hstep
                exact ⟨by rw [uvR, ← hstep]; rfl, hs_2⟩
              · refine CW.skip ?_
                refine CW.seq ?_
                refine CW.region ?_
                refine RT.ev rfl rfl (Ev.move rfl) ?_
                refine RT.ev rfl rfl (Ev.move rfl) ?_
                refine RT.ev rfl rfl (Ev.addI (b := 1) rfl rfl (by omega)) ?_
                refine RT.ev rfl rfl (Ev.assign rfl) ?_
                refine RT.ev rfl rfl (Ev.assign rfl) ?_
                refine RT.ev rfl rfl (Ev.assign rfl) ?_
                refine RT.nil ?_
                refine CW.ret ?_
                show PostK _ _ _ _ _ _
                refine post3 rfl rfl rfl rfl ?_
                rw [if_pos hc_3, if_neg (by omega)] at hstep
                exact ⟨by rw [uvR, ← hstep, ← hor]; rfl, hs_2⟩
            · refine RT.no rfl rfl rfl (decide_eq_false hg_2) rfl ?_
              refine RT.no rfl rfl rfl (decide_eq_false hg_2) rfl ?_
              refine RT.ev rfl rfl (Ev.pickN rfl (decide_eq_false hg_2) rfl) ?_
              refine RT.nil ?_
              refine CW.condF rfl (rfl) ?_
              refine CW.skip ?_
              refine CW.seq ?_
              refine CW.region ?_
              refine RT.ev rfl rfl (Ev.move rfl) ?_
              refine RT.ev rfl rfl (Ev.move rfl) ?_
              refine RT.ev rfl rfl (Ev.addI (b := 1) rfl rfl (by omega)) ?_
              refine RT.ev rfl rfl (Ev.assign rfl) ?_
              refine RT.ev rfl rfl (Ev.assign rfl) ?_
              refine RT.ev rfl rfl (Ev.assign rfl) ?_
              refine RT.nil ?_
              refine CW.ret ?_
              show PostK _ _ _ _ _ _
              refine post3 rfl rfl rfl rfl ?_
              rw [if_pos hc_3, if_neg (by omega)] at hstep
              exact ⟨by rw [uvR, ← hstep, ← hor]; rfl, hs_2⟩
          · refine CW.skip ?_
            refine CW.region ?_
            refine RT.ev rfl rfl (Ev.addI (b := 1) rfl rfl (by omega)) ?_
            refine RT.ev rfl rfl (Ev.move rfl) ?_
            refine RT.nil ?_
            exact ⟨(k + 1, (u ||| ((x % 128) * 2 ^ (7 * k) % 2 ^ 64))), ⟨rfl, rfl, rfl, rfl, trivial⟩, ⟨hs_2, by omega, by rw [show u ||| (x % 128 * 2 ^ (7 * k) % 2 ^ 64) = u + x % 2 ^ 7 * 2 ^ (7 * k) from hor, ← hstep, if_neg hc_3], by rw [show u ||| (x % 128 * 2 ^ (7 * k) % 2 ^ 64) = u + x % 2 ^ 7 * 2 ^ (7 * k) from hor]; exact hbd, by rcases Nat.lt_or_ge k 9 with h | h; (omega); exact absurd ⟨(by omega : k = 9), (by omega : x ≠ 1)⟩ h9'⟩, (show (l.length - (k + 1)) < (l.length - k) from by omega)⟩
  · refine CW.exit0 ?_
    refine CW.seq ?_
    refine CW.region ?_
    refine RT.ev rfl rfl (Ev.assign rfl) ?_
    refine RT.ev rfl rfl (Ev.assign rfl) ?_
    refine RT.ev rfl rfl (Ev.assign rfl) ?_
    refine RT.nil ?_
    refine CW.ret ?_
    show PostK _ _ _ _ _ _
    refine post3 rfl rfl rfl rfl ?_
    rw [show k = l.length by omega, List.drop_length, uvr] at hinv
    exact ⟨by rw [uvR, ← hinv]; rfl, hs_1⟩

theorem take_seal (p : List Nat) : (sealN p).take ((sealN p).length - 4) = p := by
  rw [sealN_length, Nat.add_sub_cancel, sealN, List.take_left']; rfl
theorem seal_inj {p q : List Nat} (h : sealN p = sealN q) : p = q := by rw [← take_seal p, h, take_seal]

theorem runseal_any (v : Value) (b : List Nat) (w : World) (hv : RdL w v (encN .u8) b) (hb : ∀ x ∈ b, x < 256) (hn : b.length ≤ 1000000) :
    CallsV Try.prog 89 [v] w fun r w' => (∃ u, r = .tuple #[u, .bool false] ∧ Sat w [] w' ∧ ¬ ∃ p, b = sealN p) ∨ ∃ v' p, b = sealN p ∧ r = .tuple #[v', .bool true] ∧ Sat w [cL v' 5 (encN .u8) p] w' := by
  have hs0 := Sat.start w
  refine callsV_of Try.func89 rfl rfl ?_
  refine CW.seq ?_
  refine CW.region ?_
  refine RT.ev rfl rfl (Ev.assign rfl) ?_
  refine RT.ev rfl rfl (Ev.assign rfl) ?_
  refine RT.nil ?_
  refine CW.seq ?_
  refine CW.seq ?_
  refine CW.region ?_
  refine RT.ev rfl rfl (Ev.move rfl) ?_
  refine RT.ev rfl rfl (Ev.lenL Try.underlying40 rfl (hv.ext hs0.ext)) ?_
  refine RT.ev rfl rfl (Ev.lssN (b := 4) rfl rfl) ?_
  refine RT.nil ?_
  refine CW.condD rfl (fun hc_1 => ?_) (fun hc_1 => ?_)
  · refine CW.seq ?_
    refine CW.region ?_
    refine RT.ev rfl rfl (Ev.assign rfl) ?_
    refine RT.ev rfl rfl (Ev.assign rfl) ?_
    refine RT.nil ?_
    refine CW.ret ?_
    show PostK _ _ _ _ _ _
    refine post2 rfl rfl rfl ?_
    have hs_1 : Sat w [] w := hs0.sub (.slnil)
    exact .inl ⟨_, rfl, hs_1, fun ⟨p, hp⟩ => by have := congrArg List.length hp; rw [sealN_length] at this; omega⟩
  · refine CW.skip ?_
    refine CW.seq ?_
    refine CW.region ?_
    refine RT.ev rfl rfl (Ev.move rfl) ?_
    refine RT.ev rfl rfl (Ev.move rfl) ?_
    refine RT.ev rfl rfl (Ev.lenL Try.underlying40 rfl (hv.ext hs0.ext)) ?_
    refine RT.ev rfl rfl (Ev.subI (b := 4) rfl rfl (by omega) (by omega)) ?_
    refine RT.ev rfl rfl (Ev.sliceL (E := encN .u8) (a := 0) (c := (b.length - 4)) sl40 rfl (hv.ext hs0.ext) rfl ⟨_, rfl⟩ (Nat.zero_le _) (by omega)) ?_
    refine RT.ev rfl rfl (Ev.assign rfl) ?_
    refine RT.nil ?_
    refine CW.seq ?_
    refine CW.draw (fun w' => Sat w [] w') (.free 0 (.free 2 (.free 5 (.free 6 (.one 1 (.one 3 (.free 8 (.one 4 (.free 7 (.free 9 .fin)))))))))) mixed (by kernel_rfl) ?_
    have hs_2 := hs0.drew
    refine RP.ev rfl rfl rfl (fun w' hS' => Ev.move rfl) hs_2 ?_
    refine RP.ev rfl rfl rfl (fun w' hS' => Ev.move rfl) hs_2 ?_
    refine RP.ev rfl rfl rfl (fun w' hS' => Ev.move rfl) hs_2 ?_
    refine RP.ev rfl rfl rfl (fun w' hS' => Ev.bytesStr Try.underlying40 Try.underlying9 Try.underlying5 rfl (hv.ext hS'.ext)) hs_2 ?_
    have hs_3 : Sat w [cL (Value.slice none 0 0) 5 (encN .u8) ([])] _ := hs_2.newNilL 5 (encN .u8)
    refine RP.eff rfl rfl rfl (OpE.appendL 0 sl40 hs_3 rfl rfl rfl Try.underlying40 (((hv.ext hs_3.ext)).sub (a := 0) (b := (b.length - 4)) (Nat.zero_le _) (by omega)) (by simp only [List.length_nil, List.length_drop, List.length_take]; omega) (by simp only [List.length_nil, List.length_drop, List.length_take]; omega) fun v_1 w_1 hs_4 hch_1 => ?_)
    have hs_4d : Sat w [cL v_1 5 (encN .u8) (((b).take (b.length - 4)).drop 0)] _ := hs_4
    have hS_1 : Sat w [] _ := hs_4d.sub ((.cons _ .slnil))
    refine ⟨hS_1, ?_⟩
    refine RP.eff rfl rfl rfl (OpE.call ent68 rfl ((rseal_ok _ (((b).take (b.length - 4)).drop 0) _ (((hv.ext hs_4d.ext)).sub (a := 0) (b := (b.length - 4)) (Nat.zero_le _) (by omega)) (fun y hy => hb y (List.mem_of_mem_take (List.mem_of_mem_drop hy))) (by simp only [List.length_drop, List.length_take]; omega)).mono fun r_1 w_2 h_1 => ?_))
    have hp_1 := h_1
    have hs_5 : Sat w [cL v_1 5 (encN .u8) (((b).take (b.length - 4)).drop 0), cL r_1 5 (encN .u8) (sealN (((b).take (b.length - 4)).drop 0))] _ := hs_4d.adds hp_1
    have hS_2 : Sat w [] _ := hs_5.sub ((.cons _ (.cons _ .slnil)))
    refine ⟨hS_2, ?_⟩
    refine RP.ev rfl rfl rfl (fun w' hS' => Ev.assign rfl) hS_2 ?_
    refine RP.eff rfl rfl rfl (OpE.ev (Ev.bytesStr Try.underlying40 Try.underlying9 Try.underlying5 rfl (hs_5.rdL 1 rfl)) ⟨hS_2, ?_⟩)
    refine RP.ev rfl rfl rfl (fun w' hS' => Ev.strEql rfl rfl) hS_2 ?_
    refine RP.ev rfl rfl rfl (fun w' hS' => Ev.assign rfl) hS_2 ?_
    refine RP.fin ?_
    refine CW.ret ?_
    show PostK _ _ _ _ _ _
    refine post2 rfl rfl rfl ?_
    have hs_6 : Sat w [cL v_1 5 (encN .u8) (((b).take (b.length - 4)).drop 0)] w_2 := hs_5.sub ((.cons_cons _ (.cons _ .slnil)))
    have hs_7 : Sat w [cL v_1 5 (encN .u8) (b.take (b.length - 4))] w_2 := by
      have hq : ((b).take (b.length - 4)).drop 0 = b.take (b.length - 4) := by simp
      rw [← hq]; exact hs_6
    rcases Decidable.em ((strOf (sealN (((b).take (b.length - 4)).drop 0))) = (strOf (b))) with h9 | h9
    · have h8 := (strOf_inj (seal_lt fun y hy => hb y (List.mem_of_mem_take (List.mem_of_mem_drop hy))) hb).1 h9
      rw [List.drop_zero] at h8
      rw [decide_eq_true h9]
      exact .inr ⟨_, _, h8.symm, rfl, hs_7⟩
    · rw [decide_eq_false h9]
      exact .inl ⟨_, rfl, hs_7.sub (.cons _ .slnil), fun ⟨p, hp⟩ => h9 (by subst hp; rw [List.drop_zero, take_seal])⟩

theorem runseal_good {v : Value} {b p0 : List Nat} {w : World} (hv : RdL w v (encN .u8) b) (hb : ∀ x ∈ b, x < 256) (hn : b.length ≤ 1000000) (h : b = sealN p0) : CallsV Try.prog 89 [v] w fun r w' => ∃ v', r = .tuple #[v', .bool true] ∧ Sat w [cL v' 5 (encN .u8) p0] w' :=
  (runseal_any v b w hv hb hn).mono fun r w' hq => by
    rcases hq with ⟨_, _, _, hno⟩ | ⟨v', p, hp, h1, h2⟩
    · exact absurd ⟨p0, h⟩ hno
    · have := seal_inj (hp.symm.trans h); subst this; exact ⟨v', h1, h2⟩
theorem runseal_bad {v : Value} {b : List Nat} {w : World} (hv : RdL w v (encN .u8) b) (hb : ∀ x ∈ b, x < 256) (hn : b.length ≤ 1000000) (h : ¬ ∃ p, b = sealN p) : CallsV Try.prog 89 [v] w fun r w' => ∃ u, r = .tuple #[u, .bool false] ∧ Sat w [] w' :=
  (runseal_any v b w hv hb hn).mono fun r w' hq => by
    rcases hq with ⟨u, h1, h2, _⟩ | ⟨v', p, hp, _⟩
    · exact ⟨u, h1, h2⟩
    · exact absurd ⟨p, hp⟩ h

def arN (a b q : Nat) : List Nat := if q = 0 then [0, 0] else if q = 1 then [a, 0] else [a, b]
def rsN (a b : Nat) (T : List Nat) (q : Nat) : List Nat := if q = 0 then uv a ++ (uv b ++ T) else if q = 1 then uv b ++ T else T
theorem sub_uv {w : World} {v : Value} {x : Nat} {rest : List Nat} (h : RdL w v (encN .u8) (uv x ++ rest)) : RdL w (subSl (encN .u8).s v (uv x).length (uv x ++ rest).length) (encN .u8) rest := by
  have hsub := h.sub (a := (uv x).length) (b := (uv x ++ rest).length) (by rw [List.length_append]; omega) (Nat.le_refl _)
  rw [List.take_length, List.drop_left] at hsub
  exact hsub
theorem sub_app {w : World} {v : Value} {n : Nat} {s rest : List Nat} (h : RdL w v (encN .u8) (s ++ rest)) (hn : n = s.length) : RdL w (subSl (encN .u8).s v n (s ++ rest).length) (encN .u8) rest := by
  subst hn
  have hsub := h.sub (a := s.length) (b := (s ++ rest).length) (by rw [List.length_append]; omega) (Nat.le_refl _)
  rw [List.take_length, List.drop_left] at hsub
  exact hsub

theorem com_cat2 (p x : ByteArray) (R : List Nat) : p.extract 0 (comN p x) ++ strOf (((strB (x.extract (comN p x) x.size) ++ R).take (x.size - comN p x)).drop 0) = x := by
  have h : x.size - comN p x = (strB (x.extract (comN p x) x.size)).length := by
    have := comN_le p x
    rw [strB_length, ByteArray.size_extract]; omega
  rw [List.drop_zero, List.take_left' h.symm]
  exact com_cat p x

theorem rdec_ok (v : Value) (b p0 : List Nat) (W : List ByteArray) (C : List Nat) (w : World) (hv : RdL w v (encN .u8) b) (hb : ∀ x ∈ b, x < 256) (hbn : b.length ≤ 1000000) (hp0 : b = sealN p0) (he0 : p0 = uv W.length ++ encL (prevN W 0) W C) (hok : okW W) (hCl : C.length = W.length) (hsz : ∀ x ∈ W, x.size ≤ 120) (hC : ∀ c ∈ C, 1 ≤ c ∧ c ≤ 4096) (hsum : C.sum ≤ 4096) (hn : W.length ≤ 1024) :
    CallsV Try.prog 53 [v] w fun r w' => ∃ vw vc, r = .tuple #[.agg #[vw, vc], .bool true] ∧ Sat w [cL vw 9 encTx W, cL vc 3 (encN .i64) C] w' := by
  have hs0 := Sat.start w
  have hpb : ∀ y ∈ p0, y < 256 := fun y hy => hb y (by rw [hp0]; exact List.mem_append_left _ hy)
  refine callsV_of Try.func53 rfl rfl ?_
  refine CW.seq ?_
  refine CW.region ?_
  refine RT.eff rfl rfl (OpE.alloc hs0 zero51 fun b_1 w_1 hs_1 hch_1 hb_1 => ?_)
  have hs_1d : Sat w [cObj b_1 51 [(Value.slice none 0 0), (Value.slice none 0 0)]] _ := hs_1
  refine RT.ev rfl rfl (Ev.assign rfl) ?_
  refine RT.nil ?_
  refine CW.seq ?_
  refine CW.region ?_
  refine RT.ev rfl rfl (Ev.move rfl) ?_
  refine RT.eff rfl rfl (OpE.call ent89 rfl ((runseal_good (hv.ext hs_1d.ext) hb (by omega) hp0).mono fun r_1 w_2 h_1 => ?_))
  obtain ⟨vp, rfl, hp_1⟩ := h_1
  have hs_2 : Sat w [cObj b_1 51 [(Value.slice none 0 0), (Value.slice none 0 0)], cL vp 5 (encN .u8) (p0)] _ := hs_1d.adds hp_1
  refine RT.ev rfl rfl (Ev.move rfl) ?_
  refine RT.ev rfl rfl (Ev.extract rfl rfl) ?_
  refine RT.ev rfl rfl (Ev.extract rfl rfl) ?_
  refine RT.ev rfl rfl (Ev.assign rfl) ?_
  refine RT.ev rfl rfl (Ev.assign rfl) ?_
  refine RT.nil ?_
  refine CW.seq ?_
  refine CW.seq ?_
  refine CW.region ?_
  refine RT.ev rfl rfl (Ev.move rfl) ?_
  refine RT.ev rfl rfl (Ev.notB rfl) ?_
  refine RT.nil ?_
  refine CW.condF rfl (rfl) ?_
  refine CW.skip ?_
  refine CW.seq ?_
  refine CW.region ?_
  refine RT.ev rfl rfl (Ev.build bt51 rfl trivial rfl) ?_
  refine RT.eff rfl rfl (OpE.alloc hs_2 zero51 fun b_2 w_3 hs_3 hch_2 hb_2 => ?_)
  have hs_3d : Sat w [cObj b_1 51 [(Value.slice none 0 0), (Value.slice none 0 0)], cL vp 5 (encN .u8) (p0), cObj b_2 51 [(Value.slice none 0 0), (Value.slice none 0 0)]] _ := hs_3
  refine RT.eff rfl rfl (OpE.storeObjA (vs := [(Value.slice none 0 0), (Value.slice none 0 0)]) agg51 hs_3d (i := 2) rfl rfl rfl rfl (fun v h => by simp only [List.mem_cons, List.not_mem_nil, or_false] at h; rcases h with rfl | rfl; exact rfl; exact rfl) fun w_4 hs_4 hch_3 => ?_)
  have hs_4d : Sat w [cObj b_1 51 [(Value.slice none 0 0), (Value.slice none 0 0)], cL vp 5 (encN .u8) (p0), cObj b_2 51 [(Value.slice none 0 0), (Value.slice none 0 0)]] _ := hs_4
  refine RT.nil ?_
  refine CW.seq ?_
  have hbv0 : ∀ w9, RdL w9 vp (encN .u8) p0 → RdL w9 vp (encN .u8) (uv W.length ++ encL (prevN W 0) W C) := fun w9 h9 => by rw [he0] at h9; exact h9
  refine CW.region ?_
  refine RT.ev rfl rfl (Ev.move rfl) ?_
  refine RT.eff rfl rfl (OpE.call ent90 rfl ((rtk_ok _ (uv W.length ++ encL (prevN W 0) W C) _ (hbv0 _ (hs_4d.rdL 1 rfl)) (by rw [← he0]; exact hpb)).mono fun r_2 w_5 h_2 => ?_))
  obtain ⟨rfl, hp_2⟩ := h_2
  have hs_5 : Sat w [cObj b_1 51 [(Value.slice none 0 0), (Value.slice none 0 0)], cL vp 5 (encN .u8) (p0), cObj b_2 51 [(Value.slice none 0 0), (Value.slice none 0 0)]] _ := hs_4d.adds hp_2
  refine RT.ev rfl rfl (Ev.move rfl) ?_
  refine RT.ev rfl rfl (Ev.extract rfl rfl) ?_
  refine RT.ev rfl rfl (Ev.extract rfl rfl) ?_
  refine RT.ev rfl rfl (Ev.extract rfl rfl) ?_
  refine RT.ev rfl rfl (Ev.assign rfl) ?_
  refine RT.ev rfl rfl (Ev.assign rfl) ?_
  refine RT.ev rfl rfl (Ev.assign rfl) ?_
  refine RT.nil ?_
  refine CW.seq ?_
  refine CW.seq ?_
  have hu0 := uvR_uv (show W.length < 2 ^ 64 by omega) (encL (prevN W 0) W C)
  refine CW.weaken [(0, _), (2, _), (3, _), (4, _), (5, _), (6, _), (7, (Value.int .u64 ((W.length : Nat) : Int))), (8, _), (9, _), (19, _), (20, _), (21, _), (22, _), (23, _), (24, _), (25, _), (27, _), (28, _), (29, _), (30, _), (31, _), (32, _), (33, _)] ⟨rfl, rfl, rfl, rfl, rfl, rfl, congrArg some (congrArg (fun q : Nat × Nat × Nat => Value.int .u64 ((q.1 : Nat) : Int)) hu0), rfl, rfl, rfl, rfl, rfl, rfl, rfl, rfl, rfl, rfl, rfl, rfl, rfl, rfl, rfl, rfl, trivial⟩ ?_
  refine CW.weaken [(0, _), (2, _), (3, _), (4, _), (5, _), (6, _), (7, _), (8, (Value.int .i64 (((uv W.length).length : Nat) : Int))), (9, _), (19, _), (20, _), (21, _), (22, _), (23, _), (24, _), (25, _), (27, _), (28, _), (29, _), (30, _), (31, _), (32, _), (33, _)] ⟨rfl, rfl, rfl, rfl, rfl, rfl, rfl, congrArg some (congrArg (fun q : Nat × Nat × Nat => Value.int .i64 ((q.2.1 : Nat) : Int)) hu0), rfl, rfl, rfl, rfl, rfl, rfl, rfl, rfl, rfl, rfl, rfl, rfl, rfl, rfl, rfl, trivial⟩ ?_
  refine CW.weaken [(0, _), (2, _), (3, _), (4, _), (5, _), (6, _), (7, _), (8, _), (9, (Value.int .i64 ((0 : Nat) : Int))), (19, _), (20, _), (21, _), (22, _), (23, _), (24, _), (25, _), (27, _), (28, _), (29, _), (30, _), (31, _), (32, _), (33, _)] ⟨rfl, rfl, rfl, rfl, rfl, rfl, rfl, rfl, congrArg some (congrArg (fun q : Nat × Nat × Nat => Value.int .i64 ((q.2.2 : Nat) : Int)) hu0), rfl, rfl, rfl, rfl, rfl, rfl, rfl, rfl, rfl, rfl, rfl, rfl, rfl, rfl, trivial⟩ ?_
  refine CW.region ?_
  refine RT.ev rfl rfl (Ev.move rfl) ?_
  refine RT.ev rfl rfl (Ev.neqN (a := 0) (b := 0) rfl rfl) ?_
  refine RT.ev rfl rfl (Ev.move rfl) ?_
  refine RT.yes rfl rfl rfl (rfl) ?_
  refine RT.ev rfl rfl (Ev.move rfl) ?_
  refine RT.yes rfl rfl rfl (rfl) ?_
  refine RT.ev rfl rfl (Ev.gtrN (b := 1024) rfl rfl) ?_
  refine RT.ev rfl rfl (Ev.pickN rfl (rfl) rfl) ?_
  refine RT.nil ?_
  refine CW.condF rfl (decide_eq_false (by omega)) ?_
  refine CW.skip ?_
  refine CW.seq ?_
  refine CW.region ?_
  refine RT.ev rfl rfl (Ev.move rfl) ?_
  refine RT.ev rfl rfl (Ev.move rfl) ?_
  refine RT.ev rfl rfl (Ev.sliceL (E := encN .u8) (a := (uv W.length).length) (c := (uv W.length ++ encL (prevN W 0) W C).length) sl40 rfl (hbv0 _ (hs_5.rdL 1 rfl)) ⟨_, rfl⟩ rfl (by rw [List.length_append]; omega) (Nat.le_refl _)) ?_
  refine RT.ev rfl rfl (Ev.assign rfl) ?_
  refine RT.nil ?_
  refine CW.seq ?_
  refine CW.region ?_
  refine RT.ev rfl rfl (Ev.assign rfl) ?_
  refine RT.nil ?_
  refine CW.seq ?_
  refine CW.region ?_
  refine RT.ev rfl rfl (Ev.assign rfl) ?_
  refine RT.nil ?_
  refine CW.seq ?_
  refine CW.seq ?_
  refine CW.region ?_
  refine RT.ev rfl rfl (Ev.assign rfl) ?_
  refine RT.nil ?_
  refine CW.block ?_
  have hbv1 : ∀ w9, RdL w9 vp (encN .u8) p0 → RdL w9 (subSl (encN .u8).s vp ((uv W.length).length) ((uv W.length ++ encL (prevN W 0) W C).length)) (encN .u8) (encL (prevN W 0) W C) := fun w9 h9 => sub_uv (hbv0 w9 h9)
  have hs_6 : Sat w [cObj b_1 51 [(Value.slice none 0 0), (Value.slice none 0 0)], cL vp 5 (encN .u8) (p0), cObj b_2 51 [(Value.slice none 0 0), (Value.slice none 0 0)], cL (Value.slice none 0 0) 9 (encTx) ([])] _ := hs_5.newNilL 9 (encTx)
  have hs_7 : Sat w [cObj b_1 51 [(Value.slice none 0 0), (Value.slice none 0 0)], cL vp 5 (encN .u8) (p0), cObj b_2 51 [(Value.slice none 0 0), (Value.slice none 0 0)], cL (Value.slice none 0 0) 9 (encTx) ([]), cL (Value.slice none 0 0) 3 (encN .i64) ([])] _ := hs_6.newNilL 3 (encN .i64)
  have hs_8 : Sat w [cObj b_1 51 [(Value.slice none 0 0), (Value.slice none 0 0)], cL vp 5 (encN .u8) (p0), cObj b_2 51 [(Value.slice none 0 0), (Value.slice none 0 0)], cL (Value.slice none 0 0) 9 (encTx) (W.take 0), cL (Value.slice none 0 0) 3 (encN .i64) ([])] w_5 := hs_7.reL 3 rfl (show [] = W.take 0 from rfl)
  have hs_9 : Sat w [cObj b_1 51 [(Value.slice none 0 0), (Value.slice none 0 0)], cL vp 5 (encN .u8) (p0), cObj b_2 51 [(Value.slice none 0 0), (Value.slice none 0 0)], cL (Value.slice none 0 0) 9 (encTx) (W.take 0), cL (Value.slice none 0 0) 3 (encN .i64) (C.take 0)] w_5 := hs_8.reL 4 rfl (show [] = C.take 0 from rfl)
  refine CW.loop (α := Nat × Value × ByteArray × Nat × Value × Value) (fun (k, bv, p, z, vw, vc) => [(2, (Value.pointer (some ⟨b_1, 0, none⟩))), (4, bv), (6, (Value.pointer (some ⟨b_2, 0, none⟩))), (7, (Value.int .u64 ((W.length : Nat) : Int))), (10, (Value.int .i64 ((z : Nat) : Int))), (11, (Value.string p)), (12, (Value.int .u64 ((k : Nat) : Int)))]) (fun (k, bv, p, z, vw, vc) w' => Sat w [cObj b_1 51 [(Value.slice none 0 0), (Value.slice none 0 0)], cL vp 5 (encN .u8) (p0), cObj b_2 51 [vw, vc], cL vw 9 (encTx) (W.take k), cL vc 3 (encN .i64) (C.take k)] w' ∧ (k ≤ W.length) ∧ (∀ w9, RdL w9 vp (encN .u8) p0 → RdL w9 bv (encN .u8) (encL p (W.drop k) (C.drop k))) ∧ (p = prevN W k) ∧ (p.size ≤ 120) ∧ (z = (C.take k).sum)) (fun (k, bv, p, z, vw, vc) => W.length - k) (0, (subSl (encN .u8).s vp ((uv W.length).length) ((uv W.length ++ encL (prevN W 0) W C).length)), (ByteArray.mk #[]), 0, (Value.slice none 0 0), (Value.slice none 0 0)) ⟨rfl, rfl, rfl, rfl, rfl, rfl, rfl, trivial⟩ ⟨hs_9, Nat.zero_le _, fun w9 h9 => by rw [List.drop_zero, List.drop_zero]; exact hbv1 w9 h9, rfl, by decide, rfl⟩ ?_
  rintro ⟨k, bv, p, z, vw, vc⟩ w_6 ⟨hs_10, hk, hbv, hp, hpl, hz⟩
  show CW _ _ _ _ [(2, (Value.pointer (some ⟨b_1, 0, none⟩))), (4, bv), (6, (Value.pointer (some ⟨b_2, 0, none⟩))), (7, (Value.int .u64 ((W.length : Nat) : Int))), (10, (Value.int .i64 ((z : Nat) : Int))), (11, (Value.string p)), (12, (Value.int .u64 ((k : Nat) : Int)))] _
  refine CW.seq ?_
  refine CW.seq ?_
  refine CW.region ?_
  refine RT.ev rfl rfl (Ev.move rfl) ?_
  refine RT.ev rfl rfl (Ev.move rfl) ?_
  refine RT.ev rfl rfl (Ev.lssN rfl rfl) ?_
  refine RT.nil ?_
  refine CW.condD rfl (fun hc_1 => ?_) (fun hc_1 => ?_)
  · refine CW.skip ?_
    refine CW.seq ?_
    refine CW.block ?_
    refine CW.seq ?_
    obtain ⟨x, hx⟩ : ∃ x, W[k]? = some x := ⟨_, List.getElem?_eq_getElem (by omega)⟩
    obtain ⟨c, hcc⟩ : ∃ c, C[k]? = some c := ⟨_, List.getElem?_eq_getElem (by omega)⟩
    have hxs := hsz x (List.mem_of_getElem? hx)
    have hcb := hC c (List.mem_of_getElem? hcc)
    have hcm := comN_le p x
    have hcm1 := comN_le1 p x
    have hel := encL_drop C x (k + 1) hsz hn
    have hu1 := uv_le (comN p x)
    have hu2 := uv_le (x.size - comN p x)
    have hu3 := uv_le (c - 1)
    have hsl := sum_take_le C (k + 1)
    rw [sum_take_snoc hcc] at hsl
    have hbv2 := hbv
    rw [encL_at2 hx hcc hp] at hbv2
    refine CW.region ?_
    refine RT.eff rfl rfl (OpE.alloc hs_10 zero118 fun b_3 w_7 hs_11 hch_4 hb_3 => ?_)
    have hs_11d : Sat w [cObj b_1 51 [(Value.slice none 0 0), (Value.slice none 0 0)], cL vp 5 (encN .u8) (p0), cObj b_2 51 [vw, vc], cL vw 9 (encTx) (W.take k), cL vc 3 (encN .i64) (C.take k), cObj b_3 118 [(Value.int .u64 ((0 : Nat) : Int)), (Value.int .u64 ((0 : Nat) : Int))]] _ := hs_11
    refine RT.nil ?_
    refine CW.seq ?_
    refine CW.seq ?_
    refine CW.region ?_
    refine RT.ev rfl rfl (Ev.move rfl) ?_
    refine RT.nil ?_
    refine CW.block ?_
    have hs_12 : Sat w [cObj b_1 51 [(Value.slice none 0 0), (Value.slice none 0 0)], cL vp 5 (encN .u8) (p0), cObj b_2 51 [vw, vc], cL vw 9 (encTx) (W.take k), cL vc 3 (encN .i64) (C.take k), cObj b_3 118 ((encN .u64).all ([0, 0]))] w_7 := hs_11d
    have hs_13 : Sat w [cObj b_1 51 [(Value.slice none 0 0), (Value.slice none 0 0)], cL vp 5 (encN .u8) (p0), cObj b_2 51 [vw, vc], cL vw 9 (encTx) (W.take k), cL vc 3 (encN .i64) (C.take k), cObj b_3 118 ((encN .u64).all (arN (comN p x) (x.size - comN p x) 0))] w_7 := by
      have hq : [0, 0] = arN (comN p x) (x.size - comN p x) 0 := rfl
      rw [← hq]; exact hs_12
    refine CW.loop (α := Nat × Value) (fun (q, bv2) => [(2, (Value.pointer (some ⟨b_1, 0, none⟩))), (4, bv2), (6, (Value.pointer (some ⟨b_2, 0, none⟩))), (7, (Value.int .u64 ((W.length : Nat) : Int))), (10, (Value.int .i64 ((z : Nat) : Int))), (11, (Value.string p)), (12, (Value.int .u64 ((k : Nat) : Int))), (13, (Value.pointer (some ⟨b_3, 0, none⟩))), (49, (Value.int .i64 ((q : Nat) : Int)))]) (fun (q, bv2) w' => Sat w [cObj b_1 51 [(Value.slice none 0 0), (Value.slice none 0 0)], cL vp 5 (encN .u8) (p0), cObj b_2 51 [vw, vc], cL vw 9 (encTx) (W.take k), cL vc 3 (encN .i64) (C.take k), cObj b_3 118 ((encN .u64).all (arN (comN p x) (x.size - comN p x) q))] w' ∧ (q ≤ 2) ∧ (∀ w9, RdL w9 vp (encN .u8) p0 → RdL w9 bv2 (encN .u8) (rsN (comN p x) (x.size - comN p x) (strB (x.extract (comN p x) x.size) ++ (uv (c - 1) ++ encL x (W.drop (k + 1)) (C.drop (k + 1)))) q))) (fun (q, bv2) => 2 - q) (0, bv) ⟨rfl, rfl, rfl, rfl, rfl, rfl, rfl, rfl, rfl, trivial⟩ ⟨hs_13, Nat.zero_le _, hbv2⟩ ?_
    rintro ⟨q, bv2⟩ w_8 ⟨hs_14, hq, hbq⟩
    show CW _ _ _ _ [(2, (Value.pointer (some ⟨b_1, 0, none⟩))), (4, bv2), (6, (Value.pointer (some ⟨b_2, 0, none⟩))), (7, (Value.int .u64 ((W.length : Nat) : Int))), (10, (Value.int .i64 ((z : Nat) : Int))), (11, (Value.string p)), (12, (Value.int .u64 ((k : Nat) : Int))), (13, (Value.pointer (some ⟨b_3, 0, none⟩))), (49, (Value.int .i64 ((q : Nat) : Int)))] _
    refine CW.seq ?_
    refine CW.region ?_
    refine RT.ev rfl rfl (Ev.lssN (b := 2) rfl rfl) ?_
    refine RT.nil ?_
    refine CW.seq ?_
    refine CW.condD rfl (fun hc_2 => ?_) (fun hc_2 => ?_)
    · refine CW.skip ?_
      refine CW.seq ?_
      refine CW.block ?_
      refine CW.seq ?_
      rcases (show q = 0 ∨ q = 1 by omega) with rfl | rfl
      · have hb4 : ∀ w9, RdL w9 vp (encN .u8) p0 → RdL w9 bv2 (encN .u8) (uv (comN p x) ++ (uv (x.size - comN p x) ++ (strB (x.extract (comN p x) x.size) ++ (uv (c - 1) ++ encL x (W.drop (k + 1)) (C.drop (k + 1)))))) := hbq
        have hs_15 : Sat w [cObj b_1 51 [(Value.slice none 0 0), (Value.slice none 0 0)], cL vp 5 (encN .u8) (p0), cObj b_2 51 [vw, vc], cL vw 9 (encTx) (W.take k), cL vc 3 (encN .i64) (C.take k), cObj b_3 118 ((encN .u64).all ([0, 0]))] w_8 := by
          have hq : arN (comN p x) (x.size - comN p x) 0 = [0, 0] := rfl
          rw [← hq]; exact hs_14
        have huq := uvR_uv (show comN p x < 2 ^ 64 by omega) (uv (x.size - comN p x) ++ (strB (x.extract (comN p x) x.size) ++ (uv (c - 1) ++ encL x (W.drop (k + 1)) (C.drop (k + 1)))))
        refine CW.region ?_
        refine RT.ev rfl rfl (Ev.move rfl) ?_
        refine RT.ev rfl rfl (Ev.assign rfl) ?_
        refine RT.nil ?_
        refine CW.seq ?_
        refine CW.region ?_
        refine RT.ev rfl rfl (Ev.move rfl) ?_
        refine RT.ev rfl rfl (Ev.move rfl) ?_
        refine RT.eff rfl rfl (OpE.call ent90 rfl ((rtk_ok _ (uv (comN p x) ++ (uv (x.size - comN p x) ++ (strB (x.extract (comN p x) x.size) ++ (uv (c - 1) ++ encL x (W.drop (k + 1)) (C.drop (k + 1)))))) _ (hb4 _ (hs_15.rdL 1 rfl)) ((lt_app (uv_lt _) (lt_app (uv_lt _) (lt_app (strB_lt _) (lt_app (uv_lt _) (encL_lt _ _ _))))))).mono fun r_3 w_9 h_3 => ?_))
        obtain ⟨rfl, hp_3⟩ := h_3
        have hs_16 : Sat w [cObj b_1 51 [(Value.slice none 0 0), (Value.slice none 0 0)], cL vp 5 (encN .u8) (p0), cObj b_2 51 [vw, vc], cL vw 9 (encTx) (W.take k), cL vc 3 (encN .i64) (C.take k), cObj b_3 118 ((encN .u64).all ([0, 0]))] _ := hs_15.adds hp_3
        refine RT.ev rfl rfl (Ev.move rfl) ?_
        refine RT.ev rfl rfl (Ev.extract rfl rfl) ?_
        refine RT.ev rfl rfl (Ev.extract rfl rfl) ?_
        refine RT.ev rfl rfl (Ev.extract rfl rfl) ?_
        refine RT.ev rfl rfl (Ev.idxArr arr118 rfl rfl (by decide)) ?_
        refine RT.eff rfl rfl (OpE.setArr (E := encN .u64) (a := (uvR (uv (comN p x) ++ (uv (x.size - comN p x) ++ (strB (x.extract (comN p x) x.size) ++ (uv (c - 1) ++ encL x (W.drop (k + 1)) (C.drop (k + 1))))))).1) 5 one108 hs_16 rfl rfl rfl rfl (by omega) fun w_10 hs_17 hch_5 => ?_)
        have hs_17d : Sat w [cObj b_1 51 [(Value.slice none 0 0), (Value.slice none 0 0)], cL vp 5 (encN .u8) (p0), cObj b_2 51 [vw, vc], cL vw 9 (encTx) (W.take k), cL vc 3 (encN .i64) (C.take k), cObj b_3 118 ((encN .u64).all (([0, 0]).set 0 ((uvR (uv (comN p x) ++ (uv (x.size - comN p x) ++ (strB (x.extract (comN p x) x.size) ++ (uv (c - 1) ++ encL x (W.drop (k + 1)) (C.drop (k + 1))))))).1)))] _ := hs_17
        refine RT.ev rfl rfl (Ev.assign rfl) ?_
        refine RT.ev rfl rfl (Ev.assign rfl) ?_
        refine RT.nil ?_
        have hs_18 : Sat w [cObj b_1 51 [(Value.slice none 0 0), (Value.slice none 0 0)], cL vp 5 (encN .u8) (p0), cObj b_2 51 [vw, vc], cL vw 9 (encTx) (W.take k), cL vc 3 (encN .i64) (C.take k), cObj b_3 118 ((encN .u64).all (arN (comN p x) (x.size - comN p x) (0 + 1)))] w_10 := by
          have hq : ([0, 0]).set 0 ((uvR (uv (comN p x) ++ (uv (x.size - comN p x) ++ (strB (x.extract (comN p x) x.size) ++ (uv (c - 1) ++ encL x (W.drop (k + 1)) (C.drop (k + 1))))))).1) = arN (comN p x) (x.size - comN p x) (0 + 1) := by rw [huq]; rfl
          rw [← hq]; exact hs_17d
        refine CW.weaken [(2, _), (4, _), (6, _), (7, _), (8, (Value.int .i64 (((uv (comN p x)).length : Nat) : Int))), (9, _), (10, _), (11, _), (12, _), (13, _), (14, _), (49, _), (50, _), (51, _), (52, _), (53, _), (54, _), (55, _), (56, _), (57, _), (58, _), (59, _)] ⟨rfl, rfl, rfl, rfl, congrArg some (congrArg (fun q : Nat × Nat × Nat => Value.int .i64 ((q.2.1 : Nat) : Int)) huq), rfl, rfl, rfl, rfl, rfl, rfl, rfl, rfl, rfl, rfl, rfl, rfl, rfl, rfl, rfl, rfl, rfl, trivial⟩ ?_
        refine CW.weaken [(2, _), (4, _), (6, _), (7, _), (8, _), (9, (Value.int .i64 ((0 : Nat) : Int))), (10, _), (11, _), (12, _), (13, _), (14, _), (49, _), (50, _), (51, _), (52, _), (53, _), (54, _), (55, _), (56, _), (57, _), (58, _), (59, _)] ⟨rfl, rfl, rfl, rfl, rfl, congrArg some (congrArg (fun q : Nat × Nat × Nat => Value.int .i64 ((q.2.2 : Nat) : Int)) huq), rfl, rfl, rfl, rfl, rfl, rfl, rfl, rfl, rfl, rfl, rfl, rfl, rfl, rfl, rfl, rfl, trivial⟩ ?_
        refine CW.seq ?_
        refine CW.seq ?_
        refine CW.region ?_
        refine RT.ev rfl rfl (Ev.move rfl) ?_
        refine RT.ev rfl rfl (Ev.neqN (a := 0) (b := 0) rfl rfl) ?_
        refine RT.ev rfl rfl (Ev.move rfl) ?_
        refine RT.yes rfl rfl rfl (rfl) ?_
        refine RT.ev rfl rfl (Ev.move rfl) ?_
        refine RT.yes rfl rfl rfl (rfl) ?_
        refine RT.ev rfl rfl (Ev.idxArr arr118 rfl rfl (by decide)) ?_
        refine RT.yes rfl rfl rfl (rfl) ?_
        refine RT.ev rfl rfl (Ev.load scal108 rfl (hs_18.cellArr (E := encN .u64) 5 rfl rfl (by decide) rfl)) ?_
        refine RT.yes rfl rfl rfl (rfl) ?_
        refine RT.ev rfl rfl (Ev.gtrN (b := 120) rfl rfl) ?_
        refine RT.ev rfl rfl (Ev.pickN rfl (rfl) rfl) ?_
        refine RT.nil ?_
        refine CW.condF rfl (decide_eq_false (by omega)) ?_
        refine CW.skip ?_
        refine CW.region ?_
        refine RT.ev rfl rfl (Ev.move rfl) ?_
        refine RT.ev rfl rfl (Ev.move rfl) ?_
        refine RT.ev rfl rfl (Ev.sliceL (E := encN .u8) (a := (uv (comN p x)).length) (c := (uv (comN p x) ++ (uv (x.size - comN p x) ++ (strB (x.extract (comN p x) x.size) ++ (uv (c - 1) ++ encL x (W.drop (k + 1)) (C.drop (k + 1)))))).length) sl40 rfl (hb4 _ (hs_18.rdL 1 rfl)) ⟨_, rfl⟩ rfl (by rw [List.length_append]; omega) (Nat.le_refl _)) ?_
        refine RT.ev rfl rfl (Ev.assign rfl) ?_
        refine RT.nil ?_
        refine CW.region ?_
        refine RT.ev rfl rfl (Ev.addI (b := 1) rfl rfl (by omega)) ?_
        refine RT.ev rfl rfl (Ev.move rfl) ?_
        refine RT.nil ?_
        exact ⟨(0 + 1, (subSl (encN .u8).s bv2 ((uv (comN p x)).length) ((uv (comN p x) ++ (uv (x.size - comN p x) ++ (strB (x.extract (comN p x) x.size) ++ (uv (c - 1) ++ encL x (W.drop (k + 1)) (C.drop (k + 1)))))).length))), ⟨rfl, rfl, rfl, rfl, rfl, rfl, rfl, rfl, rfl, trivial⟩, ⟨hs_18, by omega, fun w9 h9 => sub_uv (hb4 w9 h9)⟩, (show (2 - (0 + 1)) < (2 - 0) from by omega)⟩
      · have hb4 : ∀ w9, RdL w9 vp (encN .u8) p0 → RdL w9 bv2 (encN .u8) (uv (x.size - comN p x) ++ (strB (x.extract (comN p x) x.size) ++ (uv (c - 1) ++ encL x (W.drop (k + 1)) (C.drop (k + 1))))) := hbq
        have hs_19 : Sat w [cObj b_1 51 [(Value.slice none 0 0), (Value.slice none 0 0)], cL vp 5 (encN .u8) (p0), cObj b_2 51 [vw, vc], cL vw 9 (encTx) (W.take k), cL vc 3 (encN .i64) (C.take k), cObj b_3 118 ((encN .u64).all ([comN p x, 0]))] w_8 := by
          have hq : arN (comN p x) (x.size - comN p x) 1 = [comN p x, 0] := rfl
          rw [← hq]; exact hs_14
        have huq := uvR_uv (show x.size - comN p x < 2 ^ 64 by omega) (strB (x.extract (comN p x) x.size) ++ (uv (c - 1) ++ encL x (W.drop (k + 1)) (C.drop (k + 1))))
        refine CW.region ?_
        refine RT.ev rfl rfl (Ev.move rfl) ?_
        refine RT.ev rfl rfl (Ev.assign rfl) ?_
        refine RT.nil ?_
        refine CW.seq ?_
        refine CW.region ?_
        refine RT.ev rfl rfl (Ev.move rfl) ?_
        refine RT.ev rfl rfl (Ev.move rfl) ?_
        refine RT.eff rfl rfl (OpE.call ent90 rfl ((rtk_ok _ (uv (x.size - comN p x) ++ (strB (x.extract (comN p x) x.size) ++ (uv (c - 1) ++ encL x (W.drop (k + 1)) (C.drop (k + 1))))) _ (hb4 _ (hs_19.rdL 1 rfl)) ((lt_app (uv_lt _) (lt_app (strB_lt _) (lt_app (uv_lt _) (encL_lt _ _ _)))))).mono fun r_4 w_11 h_4 => ?_))
        obtain ⟨rfl, hp_4⟩ := h_4
        have hs_20 : Sat w [cObj b_1 51 [(Value.slice none 0 0), (Value.slice none 0 0)], cL vp 5 (encN .u8) (p0), cObj b_2 51 [vw, vc], cL vw 9 (encTx) (W.take k), cL vc 3 (encN .i64) (C.take k), cObj b_3 118 ((encN .u64).all ([comN p x, 0]))] _ := hs_19.adds hp_4
        refine RT.ev rfl rfl (Ev.move rfl) ?_
        refine RT.ev rfl rfl (Ev.extract rfl rfl) ?_
        refine RT.ev rfl rfl (Ev.extract rfl rfl) ?_
        refine RT.ev rfl rfl (Ev.extract rfl rfl) ?_
        refine RT.ev rfl rfl (Ev.idxArr arr118 rfl rfl (by decide)) ?_
        refine RT.eff rfl rfl (OpE.setArr (E := encN .u64) (a := (uvR (uv (x.size - comN p x) ++ (strB (x.extract (comN p x) x.size) ++ (uv (c - 1) ++ encL x (W.drop (k + 1)) (C.drop (k + 1)))))).1) 5 one108 hs_20 rfl rfl rfl rfl (by omega) fun w_12 hs_21 hch_6 => ?_)
        have hs_21d : Sat w [cObj b_1 51 [(Value.slice none 0 0), (Value.slice none 0 0)], cL vp 5 (encN .u8) (p0), cObj b_2 51 [vw, vc], cL vw 9 (encTx) (W.take k), cL vc 3 (encN .i64) (C.take k), cObj b_3 118 ((encN .u64).all (([comN p x, 0]).set 1 ((uvR (uv (x.size - comN p x) ++ (strB (x.extract (comN p x) x.size) ++ (uv (c - 1) ++ encL x (W.drop (k + 1)) (C.drop (k + 1)))))).1)))] _ := hs_21
        refine RT.ev rfl rfl (Ev.assign rfl) ?_
        refine RT.ev rfl rfl (Ev.assign rfl) ?_
        refine RT.nil ?_
        have hs_22 : Sat w [cObj b_1 51 [(Value.slice none 0 0), (Value.slice none 0 0)], cL vp 5 (encN .u8) (p0), cObj b_2 51 [vw, vc], cL vw 9 (encTx) (W.take k), cL vc 3 (encN .i64) (C.take k), cObj b_3 118 ((encN .u64).all (arN (comN p x) (x.size - comN p x) (1 + 1)))] w_12 := by
          have hq : ([comN p x, 0]).set 1 ((uvR (uv (x.size - comN p x) ++ (strB (x.extract (comN p x) x.size) ++ (uv (c - 1) ++ encL x (W.drop (k + 1)) (C.drop (k + 1)))))).1) = arN (comN p x) (x.size - comN p x) (1 + 1) := by rw [huq]; rfl
          rw [← hq]; exact hs_21d
        refine CW.weaken [(2, _), (4, _), (6, _), (7, _), (8, (Value.int .i64 (((uv (x.size - comN p x)).length : Nat) : Int))), (9, _), (10, _), (11, _), (12, _), (13, _), (14, _), (49, _), (50, _), (51, _), (52, _), (53, _), (54, _), (55, _), (56, _), (57, _), (58, _), (59, _)] ⟨rfl, rfl, rfl, rfl, congrArg some (congrArg (fun q : Nat × Nat × Nat => Value.int .i64 ((q.2.1 : Nat) : Int)) huq), rfl, rfl, rfl, rfl, rfl, rfl, rfl, rfl, rfl, rfl, rfl, rfl, rfl, rfl, rfl, rfl, rfl, trivial⟩ ?_
        refine CW.weaken [(2, _), (4, _), (6, _), (7, _), (8, _), (9, (Value.int .i64 ((0 : Nat) : Int))), (10, _), (11, _), (12, _), (13, _), (14, _), (49, _), (50, _), (51, _), (52, _), (53, _), (54, _), (55, _), (56, _), (57, _), (58, _), (59, _)] ⟨rfl, rfl, rfl, rfl, rfl, congrArg some (congrArg (fun q : Nat × Nat × Nat => Value.int .i64 ((q.2.2 : Nat) : Int)) huq), rfl, rfl, rfl, rfl, rfl, rfl, rfl, rfl, rfl, rfl, rfl, rfl, rfl, rfl, rfl, rfl, trivial⟩ ?_
        refine CW.seq ?_
        refine CW.seq ?_
        refine CW.region ?_
        refine RT.ev rfl rfl (Ev.move rfl) ?_
        refine RT.ev rfl rfl (Ev.neqN (a := 0) (b := 0) rfl rfl) ?_
        refine RT.ev rfl rfl (Ev.move rfl) ?_
        refine RT.yes rfl rfl rfl (rfl) ?_
        refine RT.ev rfl rfl (Ev.move rfl) ?_
        refine RT.yes rfl rfl rfl (rfl) ?_
        refine RT.ev rfl rfl (Ev.idxArr arr118 rfl rfl (by decide)) ?_
        refine RT.yes rfl rfl rfl (rfl) ?_
        refine RT.ev rfl rfl (Ev.load scal108 rfl (hs_22.cellArr (E := encN .u64) 5 rfl rfl (by decide) rfl)) ?_
        refine RT.yes rfl rfl rfl (rfl) ?_
        refine RT.ev rfl rfl (Ev.gtrN (b := 120) rfl rfl) ?_
        refine RT.ev rfl rfl (Ev.pickN rfl (rfl) rfl) ?_
        refine RT.nil ?_
        refine CW.condF rfl (decide_eq_false (by omega)) ?_
        refine CW.skip ?_
        refine CW.region ?_
        refine RT.ev rfl rfl (Ev.move rfl) ?_
        refine RT.ev rfl rfl (Ev.move rfl) ?_
        refine RT.ev rfl rfl (Ev.sliceL (E := encN .u8) (a := (uv (x.size - comN p x)).length) (c := (uv (x.size - comN p x) ++ (strB (x.extract (comN p x) x.size) ++ (uv (c - 1) ++ encL x (W.drop (k + 1)) (C.drop (k + 1))))).length) sl40 rfl (hb4 _ (hs_22.rdL 1 rfl)) ⟨_, rfl⟩ rfl (by rw [List.length_append]; omega) (Nat.le_refl _)) ?_
        refine RT.ev rfl rfl (Ev.assign rfl) ?_
        refine RT.nil ?_
        refine CW.region ?_
        refine RT.ev rfl rfl (Ev.addI (b := 1) rfl rfl (by omega)) ?_
        refine RT.ev rfl rfl (Ev.move rfl) ?_
        refine RT.nil ?_
        exact ⟨(1 + 1, (subSl (encN .u8).s bv2 ((uv (x.size - comN p x)).length) ((uv (x.size - comN p x) ++ (strB (x.extract (comN p x) x.size) ++ (uv (c - 1) ++ encL x (W.drop (k + 1)) (C.drop (k + 1))))).length))), ⟨rfl, rfl, rfl, rfl, rfl, rfl, rfl, rfl, rfl, trivial⟩, ⟨hs_22, by omega, fun w9 h9 => sub_uv (hb4 w9 h9)⟩, (show (2 - (1 + 1)) < (2 - 1) from by omega)⟩
    · refine CW.exit0 ?_
      refine CW.seq ?_
      refine CW.seq ?_
      obtain rfl : q = 2 := by have h9 : ¬ q < 2 := hc_2; omega
      have hs_23 : Sat w [cObj b_1 51 [(Value.slice none 0 0), (Value.slice none 0 0)], cL vp 5 (encN .u8) (p0), cObj b_2 51 [vw, vc], cL vw 9 (encTx) (W.take k), cL vc 3 (encN .i64) (C.take k), cObj b_3 118 ((encN .u64).all ([comN p x, x.size - comN p x]))] w_8 := by
        have hq : arN (comN p x) (x.size - comN p x) 2 = [comN p x, x.size - comN p x] := rfl
        rw [← hq]; exact hs_14
      have hb5 : ∀ w9, RdL w9 vp (encN .u8) p0 → RdL w9 bv2 (encN .u8) (strB (x.extract (comN p x) x.size) ++ (uv (c - 1) ++ encL x (W.drop (k + 1)) (C.drop (k + 1)))) := hbq
      refine CW.region ?_
      refine RT.ev rfl rfl (Ev.idxArr (j := 0) arr118 rfl rfl (by decide)) ?_
      refine RT.ev rfl rfl (Ev.load scal108 rfl (hs_23.cellArr (E := encN .u64) 5 rfl rfl (by decide) rfl)) ?_
      refine RT.ev rfl rfl (Ev.move rfl) ?_
      refine RT.ev rfl rfl (Ev.lenStr Try.underlying9 rfl) ?_
      refine RT.ev rfl rfl (Ev.convK (by rw [Try.underlying3]; rfl) Try.underlying108 rfl (wrap_u rfl (by (try simp only [IntKind.bits]); omega))) ?_
      refine RT.ev rfl rfl (Ev.gtrN rfl rfl) ?_
      refine RT.ev rfl rfl (Ev.move rfl) ?_
      refine RT.yes rfl rfl rfl (decide_eq_false (by omega)) ?_
      refine RT.ev rfl rfl (Ev.idxArr (j := 1) arr118 rfl rfl (by decide)) ?_
      refine RT.yes rfl rfl rfl (decide_eq_false (by omega)) ?_
      refine RT.ev rfl rfl (Ev.load scal108 rfl (hs_23.cellArr (E := encN .u64) 5 rfl rfl (by decide) rfl)) ?_
      refine RT.yes rfl rfl rfl (decide_eq_false (by omega)) ?_
      refine RT.ev rfl rfl (Ev.move rfl) ?_
      refine RT.yes rfl rfl rfl (decide_eq_false (by omega)) ?_
      refine RT.ev rfl rfl (Ev.lenL Try.underlying40 rfl (hb5 _ (hs_23.rdL 1 rfl))) ?_
      refine RT.yes rfl rfl rfl (decide_eq_false (by omega)) ?_
      refine RT.ev rfl rfl (Ev.convK (by rw [Try.underlying3]; rfl) Try.underlying108 rfl (wrap_u rfl (by (try simp only [IntKind.bits]); simp only [List.length_append, strB_length, ByteArray.size_extract]; omega))) ?_
      refine RT.yes rfl rfl rfl (decide_eq_false (by omega)) ?_
      refine RT.ev rfl rfl (Ev.gtrN rfl rfl) ?_
      refine RT.ev rfl rfl (Ev.pickN rfl (decide_eq_false (by omega)) rfl) ?_
      refine RT.nil ?_
      refine CW.condF rfl (decide_eq_false (by simp only [List.length_append, strB_length, ByteArray.size_extract]; omega)) ?_
      refine CW.skip ?_
      refine CW.seq ?_
      refine CW.draw (fun w' => Sat w [cObj b_1 51 [(Value.slice none 0 0), (Value.slice none 0 0)], cL vp 5 (encN .u8) (p0), cObj b_2 51 [vw, vc], cL vw 9 (encTx) (W.take k), cL vc 3 (encN .i64) (C.take k), cObj b_3 118 ((encN .u64).all ([comN p x, x.size - comN p x]))] w') (.free 0 (.free 1 (.free 2 (.free 3 (.free 4 (.free 5 (.free 6 (.free 7 (.free 8 (.free 9 (.free 10 .fin))))))))))) mixed (by kernel_rfl) ?_
      have hs_24 := hs_23.drew
      refine RP.ev rfl rfl rfl (fun w' hS' => Ev.move rfl) hs_24 ?_
      refine RP.ev rfl rfl rfl (fun w' hS' => Ev.idxArr (j := 0) arr118 rfl rfl (by decide)) hs_24 ?_
      refine RP.ev rfl rfl rfl (fun w' hS' => Ev.load scal108 rfl (hS'.cellArr (E := encN .u64) 5 rfl rfl (by decide) rfl)) hs_24 ?_
      refine RP.ev rfl rfl rfl (fun w' hS' => Ev.sliceStr (l := 0) (h := (comN p x)) Try.underlying9 rfl rfl ⟨_, rfl⟩ (Nat.zero_le _) (by omega)) hs_24 ?_
      refine RP.ev rfl rfl rfl (fun w' hS' => Ev.move rfl) hs_24 ?_
      refine RP.ev rfl rfl rfl (fun w' hS' => Ev.idxArr (j := 1) arr118 rfl rfl (by decide)) hs_24 ?_
      refine RP.ev rfl rfl rfl (fun w' hS' => Ev.load scal108 rfl (hS'.cellArr (E := encN .u64) 5 rfl rfl (by decide) rfl)) hs_24 ?_
      refine RP.ev rfl rfl rfl (fun w' hS' => Ev.sliceL (E := encN .u8) (a := 0) (c := (x.size - comN p x)) sl40 rfl (hb5 _ (hS'.rdL 1 rfl)) rfl ⟨_, rfl⟩ (Nat.zero_le _) (by simp only [List.length_append, strB_length, ByteArray.size_extract]; omega)) hs_24 ?_
      refine RP.ev rfl rfl rfl (fun w' hS' => Ev.bytesStr Try.underlying40 Try.underlying9 Try.underlying5 rfl (((hb5 _ (hS'.rdL 1 rfl))).sub (a := 0) (b := (x.size - comN p x)) (Nat.zero_le _) (by simp only [List.length_append, strB_length, ByteArray.size_extract]; omega))) hs_24 ?_
      refine RP.ev rfl rfl rfl (fun w' hS' => Ev.strAdd rfl rfl (by rw [strOf_size, List.length_drop, List.length_take, ByteArray.size_extract]; omega)) hs_24 ?_
      refine RP.ev rfl rfl rfl (fun w' hS' => Ev.assign rfl) hs_24 ?_
      refine RP.fin ?_
      refine CW.seq ?_
      refine CW.weaken [(2, _), (4, _), (6, _), (7, _), (10, _), (11, _), (12, _), (13, _), (15, (Value.string x)), (49, _), (50, _), (73, _), (74, _), (75, _), (76, _), (77, _), (78, _), (79, _), (80, _), (81, _), (82, _), (83, _), (84, _), (85, _), (86, _), (88, _), (89, _), (90, _), (91, _), (92, _), (93, _), (94, _), (95, _), (96, _), (97, _)] ⟨rfl, rfl, rfl, rfl, rfl, rfl, rfl, rfl, congrArg some (congrArg Value.string (com_cat2 p x _)), rfl, rfl, rfl, rfl, rfl, rfl, rfl, rfl, rfl, rfl, rfl, rfl, rfl, rfl, rfl, rfl, rfl, rfl, rfl, rfl, rfl, rfl, rfl, rfl, rfl, rfl, trivial⟩ ?_
      refine CW.region ?_
      refine RT.ev rfl rfl (Ev.move rfl) ?_
      refine RT.ev rfl rfl (Ev.idxArr (j := 1) arr118 rfl rfl (by decide)) ?_
      refine RT.ev rfl rfl (Ev.load scal108 rfl (hs_24.cellArr (E := encN .u64) 5 rfl rfl (by decide) rfl)) ?_
      refine RT.ev rfl rfl (Ev.sliceL (E := encN .u8) (a := (x.size - comN p x)) (c := (strB (x.extract (comN p x) x.size) ++ (uv (c - 1) ++ encL x (W.drop (k + 1)) (C.drop (k + 1)))).length) sl40 rfl (hb5 _ (hs_24.rdL 1 rfl)) ⟨_, rfl⟩ rfl (by simp only [List.length_append, strB_length, ByteArray.size_extract]; omega) (Nat.le_refl _)) ?_
      refine RT.ev rfl rfl (Ev.assign rfl) ?_
      refine RT.nil ?_
      refine CW.seq ?_
      have hb6 : ∀ w9, RdL w9 vp (encN .u8) p0 → RdL w9 (subSl (encN .u8).s bv2 (x.size - comN p x) ((strB (x.extract (comN p x) x.size) ++ (uv (c - 1) ++ encL x (W.drop (k + 1)) (C.drop (k + 1)))).length)) (encN .u8) (uv (c - 1) ++ encL x (W.drop (k + 1)) (C.drop (k + 1))) := fun w9 h9 => sub_app (hb5 w9 h9) (by rw [strB_length, ByteArray.size_extract]; omega)
      refine CW.region ?_
      refine RT.ev rfl rfl (Ev.move rfl) ?_
      refine RT.eff rfl rfl (OpE.call ent90 rfl ((rtk_ok _ (uv (c - 1) ++ encL x (W.drop (k + 1)) (C.drop (k + 1))) _ (hb6 _ (hs_24.rdL 1 rfl)) ((lt_app (uv_lt _) (encL_lt _ _ _)))).mono fun r_5 w_13 h_5 => ?_))
      obtain ⟨rfl, hp_5⟩ := h_5
      have hs_25 : Sat w [cObj b_1 51 [(Value.slice none 0 0), (Value.slice none 0 0)], cL vp 5 (encN .u8) (p0), cObj b_2 51 [vw, vc], cL vw 9 (encTx) (W.take k), cL vc 3 (encN .i64) (C.take k), cObj b_3 118 ((encN .u64).all ([comN p x, x.size - comN p x]))] _ := hs_24.adds hp_5
      refine RT.ev rfl rfl (Ev.move rfl) ?_
      refine RT.ev rfl rfl (Ev.extract rfl rfl) ?_
      refine RT.ev rfl rfl (Ev.extract rfl rfl) ?_
      refine RT.ev rfl rfl (Ev.extract rfl rfl) ?_
      refine RT.ev rfl rfl (Ev.assign rfl) ?_
      refine RT.ev rfl rfl (Ev.assign rfl) ?_
      refine RT.ev rfl rfl (Ev.assign rfl) ?_
      refine RT.nil ?_
      refine CW.seq ?_
      refine CW.seq ?_
      refine CW.weaken [(2, _), (4, _), (6, _), (7, _), (10, _), (11, _), (12, _), (13, _), (15, _), (16, _), (17, _), (18, _), (49, _), (50, _), (86, _)] ⟨rfl, rfl, rfl, rfl, rfl, rfl, rfl, rfl, rfl, rfl, rfl, rfl, rfl, rfl, rfl, trivial⟩ ?_
      have hu6 := uvR_uv (show c - 1 < 2 ^ 64 by omega) (encL x (W.drop (k + 1)) (C.drop (k + 1)))
      refine CW.weaken [(2, _), (4, _), (6, _), (7, _), (10, _), (11, _), (12, _), (13, _), (15, _), (16, (Value.int .u64 (((c - 1) : Nat) : Int))), (17, _), (18, _), (49, _), (50, _), (86, _)] ⟨rfl, rfl, rfl, rfl, rfl, rfl, rfl, rfl, rfl, congrArg some (congrArg (fun q : Nat × Nat × Nat => Value.int .u64 ((q.1 : Nat) : Int)) hu6), rfl, rfl, rfl, rfl, rfl, trivial⟩ ?_
      refine CW.weaken [(2, _), (4, _), (6, _), (7, _), (10, _), (11, _), (12, _), (13, _), (15, _), (16, _), (17, (Value.int .i64 (((uv (c - 1)).length : Nat) : Int))), (18, _), (49, _), (50, _), (86, _)] ⟨rfl, rfl, rfl, rfl, rfl, rfl, rfl, rfl, rfl, rfl, congrArg some (congrArg (fun q : Nat × Nat × Nat => Value.int .i64 ((q.2.1 : Nat) : Int)) hu6), rfl, rfl, rfl, rfl, trivial⟩ ?_
      refine CW.weaken [(2, _), (4, _), (6, _), (7, _), (10, _), (11, _), (12, _), (13, _), (15, _), (16, _), (17, _), (18, (Value.int .i64 ((0 : Nat) : Int))), (49, _), (50, _), (86, _)] ⟨rfl, rfl, rfl, rfl, rfl, rfl, rfl, rfl, rfl, rfl, rfl, congrArg some (congrArg (fun q : Nat × Nat × Nat => Value.int .i64 ((q.2.2 : Nat) : Int)) hu6), rfl, rfl, rfl, trivial⟩ ?_
      refine CW.region ?_
      refine RT.ev rfl rfl (Ev.move rfl) ?_
      refine RT.ev rfl rfl (Ev.neqN (a := 0) (b := 0) rfl rfl) ?_
      refine RT.ev rfl rfl (Ev.move rfl) ?_
      refine RT.yes rfl rfl rfl (rfl) ?_
      refine RT.ev rfl rfl (Ev.move rfl) ?_
      refine RT.yes rfl rfl rfl (rfl) ?_
      refine RT.ev rfl rfl (Ev.geqN (b := 4096) rfl rfl) ?_
      refine RT.ev rfl rfl (Ev.pickN rfl (rfl) rfl) ?_
      refine RT.ev rfl rfl (Ev.move rfl) ?_
      refine RT.yes rfl rfl rfl (decide_eq_false (by omega)) ?_
      refine RT.ev rfl rfl (Ev.move rfl) ?_
      refine RT.yes rfl rfl rfl (decide_eq_false (by omega)) ?_
      refine RT.ev rfl rfl (Ev.lenStr Try.underlying9 rfl) ?_
      refine RT.yes rfl rfl rfl (decide_eq_false (by omega)) ?_
      refine RT.ev rfl rfl (Ev.gtrN (b := 120) rfl rfl) ?_
      refine RT.ev rfl rfl (Ev.pickN rfl (decide_eq_false (by omega)) rfl) ?_
      refine RT.ev rfl rfl (Ev.move rfl) ?_
      refine RT.yes rfl rfl rfl (decide_eq_false (by omega)) ?_
      refine RT.ev rfl rfl (Ev.move rfl) ?_
      refine RT.yes rfl rfl rfl (decide_eq_false (by omega)) ?_
      refine RT.eff rfl rfl (OpE.call ent91 rfl ((rvalid_ok x _ (by omega)).mono fun r_6 w_14 h_6 => ?_))
      obtain ⟨rfl, hp_6⟩ := h_6
      have hs_26 : Sat w [cObj b_1 51 [(Value.slice none 0 0), (Value.slice none 0 0)], cL vp 5 (encN .u8) (p0), cObj b_2 51 [vw, vc], cL vw 9 (encTx) (W.take k), cL vc 3 (encN .i64) (C.take k), cObj b_3 118 ((encN .u64).all ([comN p x, x.size - comN p x]))] _ := hs_25.adds hp_6
      refine RT.yes rfl rfl rfl (decide_eq_false (by omega)) ?_
      refine RT.ev rfl rfl (Ev.notB rfl) ?_
      refine RT.ev rfl rfl (Ev.pickN rfl (decide_eq_false (by omega)) rfl) ?_
      refine RT.nil ?_
      refine CW.condF rfl (by rw [hok.2 x (List.mem_of_getElem? hx)]; rfl) ?_
      refine CW.skip ?_
      refine CW.seq ?_
      refine CW.region ?_
      refine RT.ev rfl rfl (Ev.move rfl) ?_
      refine RT.ev rfl rfl (Ev.move rfl) ?_
      refine RT.ev rfl rfl (Ev.sliceL (E := encN .u8) (a := (uv (c - 1)).length) (c := (uv (c - 1) ++ encL x (W.drop (k + 1)) (C.drop (k + 1))).length) sl40 rfl (hb6 _ (hs_26.rdL 1 rfl)) ⟨_, rfl⟩ rfl (by rw [List.length_append]; omega) (Nat.le_refl _)) ?_
      refine RT.ev rfl rfl (Ev.assign rfl) ?_
      refine RT.nil ?_
      refine CW.seq ?_
      refine CW.region ?_
      refine RT.ev rfl rfl (Ev.move rfl) ?_
      refine RT.ev rfl rfl (Ev.move rfl) ?_
      refine RT.ev rfl rfl (Ev.convK (by rw [Try.underlying108]; rfl) Try.underlying3 rfl (wrap_i (by omega))) ?_
      refine RT.ev rfl rfl (Ev.addI (b := 1) rfl rfl (by omega)) ?_
      refine RT.ev rfl rfl (Ev.addI rfl rfl (by omega)) ?_
      refine RT.ev rfl rfl (Ev.assign rfl) ?_
      refine RT.nil ?_
      refine CW.seq ?_
      refine CW.seq ?_
      rcases Nat.eq_zero_or_pos k with hk0 | hk0
      · refine CW.draw (fun w' => Sat w [cObj b_1 51 [(Value.slice none 0 0), (Value.slice none 0 0)], cL vp 5 (encN .u8) (p0), cObj b_2 51 [vw, vc], cL vw 9 (encTx) (W.take k), cL vc 3 (encN .i64) (C.take k), cObj b_3 118 ((encN .u64).all ([comN p x, x.size - comN p x]))] w') (.free 0 (.free 1 (.free 2 (.free 3 (.free 4 (.free 5 (.free 6 (.free 7 (.free 8 (.free 10 (.free 11 (.free 12 (.one 9 (.free 13 (.free 14 (.free 15 .fin)))))))))))))))) mixed (by kernel_rfl) ?_
        have hs_27 := hs_26.drew
        refine RP.ev rfl rfl rfl (fun w' hS' => Ev.move rfl) hs_27 ?_
        refine RP.ev rfl rfl rfl (fun w' hS' => Ev.gtrN (b := 0) rfl rfl) hs_27 ?_
        refine RP.ev rfl rfl rfl (fun w' hS' => Ev.move rfl) hs_27 ?_
        refine RP.no rfl rfl rfl rfl (decide_eq_false (by omega)) rfl hs_27 ?_
        refine RP.no rfl rfl rfl rfl (decide_eq_false (by omega)) rfl hs_27 ?_
        refine RP.no rfl rfl rfl rfl (decide_eq_false (by omega)) rfl hs_27 ?_
        refine RP.no rfl rfl rfl rfl (decide_eq_false (by omega)) rfl hs_27 ?_
        refine RP.noU rfl rfl rfl rfl rfl hs_27 ?_
        refine RP.noU rfl rfl rfl rfl rfl hs_27 ?_
        refine RP.noU rfl rfl rfl rfl rfl hs_27 ?_
        refine RP.noU rfl rfl rfl rfl rfl hs_27 ?_
        refine RP.noU rfl rfl rfl rfl rfl hs_27 ?_
        refine RP.effNoU rfl rfl rfl rfl rfl hs_27 ?_
        refine RP.noU rfl rfl rfl rfl rfl hs_27 ?_
        refine RP.no rfl rfl rfl rfl (decide_eq_false (by omega)) rfl hs_27 ?_
        refine RP.ev rfl rfl rfl (fun w' hS' => Ev.pickN rfl (decide_eq_false (by omega)) rfl) hs_27 ?_
        refine RP.fin ?_
        refine CW.condF rfl (rfl) ?_
        refine CW.skip ?_
        refine CW.seq ?_
        refine CW.weaken [(2, _), (4, _), (6, _), (7, _), (10, _), (11, _), (12, _), (13, _), (15, _), (16, _), (17, _), (18, _), (49, _), (50, _), (86, _), (123, _), (148, _)] ⟨rfl, rfl, rfl, rfl, rfl, rfl, rfl, rfl, rfl, rfl, rfl, rfl, rfl, rfl, rfl, rfl, rfl, trivial⟩ ?_
        have hshp_1 := (hs_27.rdL (E := encTx) 3 rfl).shp (by decide)
        have hshp_2 := (hs_27.rdL (E := encN .i64) 4 rfl).shp (by decide)
        refine CW.draw2 (fun w' => Sat w [cObj b_1 51 [(Value.slice none 0 0), (Value.slice none 0 0)], cL vp 5 (encN .u8) (p0), cObj b_2 51 [vw, vc], cObj b_3 118 ((encN .u64).all ([comN p x, x.size - comN p x]))] w') (fun w' => Sat w [cObj b_1 51 [(Value.slice none 0 0), (Value.slice none 0 0)], cL vp 5 (encN .u8) (p0), cObj b_3 118 ((encN .u64).all ([comN p x, x.size - comN p x]))] w') 13 (.free 0 (.free 1 (.free 2 (.free 5 (.free 6 (.loose 7 (.loose 8 (.loose 9 (.two 3 10 (.two 4 10 (.free 12 (.one 10 (.one 11 (.bar 13 (.free 14 (.one 15 .fin)))))) (.one 4 (.free 12 (.one 11 (.bar 13 (.free 14 (.one 15 .fin))))))) (.one 3 (.one 4 (.free 12 (.one 11 (.bar 13 (.free 14 (.one 15 .fin)))))))))))))))) (fun w' h => h.sub ((.cons_cons _ (.cons_cons _ (.cons _ (.cons_cons _ .slnil)))))) mixed (by kernel_rfl) ?_
        have hs_28 := hs_27.drew
        have hS_1 : Sat w [cObj b_1 51 [(Value.slice none 0 0), (Value.slice none 0 0)], cL vp 5 (encN .u8) (p0), cObj b_2 51 [vw, vc], cObj b_3 118 ((encN .u64).all ([comN p x, x.size - comN p x]))] _ := hs_28.sub ((.cons_cons _ (.cons_cons _ (.cons_cons _ (.cons _ (.cons _ (.cons_cons _ .slnil)))))))
        refine RP.ev rfl rfl rfl (fun w' hS' => Ev.fieldAddr fld51_0 rfl rfl) hS_1 ?_
        refine RP.ev rfl rfl rfl (fun w' hS' => Ev.load scal45 rfl (hS'.cell (i := 2) (j := 0) rfl rfl)) hS_1 ?_
        refine RP.ev rfl rfl rfl (fun w' hS' => Ev.move rfl) hS_1 ?_
        refine RP.ev rfl rfl rfl (fun w' hS' => Ev.fieldAddr fld51_1 rfl rfl) hS_1 ?_
        refine RP.ev rfl rfl rfl (fun w' hS' => Ev.load scal22 rfl (hS'.cell (i := 2) (j := 1) rfl rfl)) hS_1 ?_
        refine RP.loose rfl rfl rfl (fun w' hS' => Ev.move rfl) hS_1 ?_
        refine RP.loose rfl rfl rfl (fun w' hS' => Ev.convK (by rw [Try.underlying108]; rfl) Try.underlying3 rfl (wrap_i (by omega))) hS_1 ?_
        refine RP.loose rfl rfl rfl (fun w' hS' => Ev.addI (b := 1) rfl rfl (by omega)) hS_1 ?_
        refine RP.two rfl rfl rfl rfl rfl rfl (OpE.lit1 (encTx) x sl45 rfl hs_28 rfl fun v_1 w_15 hs_29 hch_7 => ?_) (OpE.lit1 (encN .i64) ((c - 1) + 1) sl22 rfl hs_28 rfl fun v_2 w_16 hs_30 hch_8 => ?_)
        · have hs_29d : Sat w [cObj b_1 51 [(Value.slice none 0 0), (Value.slice none 0 0)], cL vp 5 (encN .u8) (p0), cObj b_2 51 [vw, vc], cL vw 9 (encTx) (W.take k), cL vc 3 (encN .i64) (C.take k), cObj b_3 118 ((encN .u64).all ([comN p x, x.size - comN p x])), cL v_1 9 (encTx) ([x])] _ := hs_29
          have hS_2 : Sat w [cObj b_1 51 [(Value.slice none 0 0), (Value.slice none 0 0)], cL vp 5 (encN .u8) (p0), cObj b_2 51 [vw, vc], cObj b_3 118 ((encN .u64).all ([comN p x, x.size - comN p x]))] _ := hs_29d.sub ((.cons_cons _ (.cons_cons _ (.cons_cons _ (.cons _ (.cons _ (.cons_cons _ (.cons _ .slnil))))))))
          refine ⟨hS_2, ?_⟩
          refine RP.two rfl rfl rfl rfl rfl rfl (OpE.appendL 3 sl45 hs_29d rfl rfl rfl Try.underlying45 (hs_29d.rdL 6 rfl) (by simp only [List.length_append, List.length_take, List.length_cons, List.length_nil]; omega) (by simp only [List.length_append, List.length_take, List.length_cons, List.length_nil]; omega) fun v_3 w_17 hs_31 hch_9 => ?_) (OpE.lit1 (encN .i64) ((c - 1) + 1) sl22 rfl hs_29d rfl fun v_4 w_18 hs_32 hch_10 => ?_)
          · have hs_31d : Sat w [cObj b_1 51 [(Value.slice none 0 0), (Value.slice none 0 0)], cL vp 5 (encN .u8) (p0), cObj b_2 51 [vw, vc], cL v_3 9 (encTx) (W.take k ++ [x]), cL vc 3 (encN .i64) (C.take k), cObj b_3 118 ((encN .u64).all ([comN p x, x.size - comN p x]))] _ := hs_31.drop 6
            have hS_3 : Sat w [cObj b_1 51 [(Value.slice none 0 0), (Value.slice none 0 0)], cL vp 5 (encN .u8) (p0), cObj b_2 51 [vw, vc], cObj b_3 118 ((encN .u64).all ([comN p x, x.size - comN p x]))] _ := hs_31d.sub ((.cons_cons _ (.cons_cons _ (.cons_cons _ (.cons _ (.cons _ (.cons_cons _ .slnil)))))))
            refine ⟨hS_3, ?_⟩
            refine RP.ev rfl rfl rfl (fun w' hS' => Ev.fieldAddr fld51_0 rfl rfl) hS_3 ?_
            refine RP.eff rfl rfl rfl (OpE.lit1 (encN .i64) ((c - 1) + 1) sl22 rfl hs_31d rfl fun v_5 w_19 hs_33 hch_11 => ?_)
            have hs_33d : Sat w [cObj b_1 51 [(Value.slice none 0 0), (Value.slice none 0 0)], cL vp 5 (encN .u8) (p0), cObj b_2 51 [vw, vc], cL v_3 9 (encTx) (W.take k ++ [x]), cL vc 3 (encN .i64) (C.take k), cObj b_3 118 ((encN .u64).all ([comN p x, x.size - comN p x])), cL v_5 3 (encN .i64) ([((c - 1) + 1)])] _ := hs_33
            have hS_4 : Sat w [cObj b_1 51 [(Value.slice none 0 0), (Value.slice none 0 0)], cL vp 5 (encN .u8) (p0), cObj b_2 51 [vw, vc], cObj b_3 118 ((encN .u64).all ([comN p x, x.size - comN p x]))] _ := hs_33d.sub ((.cons_cons _ (.cons_cons _ (.cons_cons _ (.cons _ (.cons _ (.cons_cons _ (.cons _ .slnil))))))))
            refine ⟨hS_4, ?_⟩
            refine RP.eff rfl rfl rfl (OpE.appendL 4 sl22 hs_33d rfl rfl rfl Try.underlying22 (hs_33d.rdL 6 rfl) (by simp only [List.length_append, List.length_take, List.length_cons, List.length_nil]; omega) (by simp only [List.length_append, List.length_take, List.length_cons, List.length_nil]; omega) fun v_6 w_20 hs_34 hch_12 => ?_)
            have hs_34d : Sat w [cObj b_1 51 [(Value.slice none 0 0), (Value.slice none 0 0)], cL vp 5 (encN .u8) (p0), cObj b_2 51 [vw, vc], cL v_3 9 (encTx) (W.take k ++ [x]), cL v_6 3 (encN .i64) (C.take k ++ [((c - 1) + 1)]), cObj b_3 118 ((encN .u64).all ([comN p x, x.size - comN p x]))] _ := hs_34.drop 6
            have hS_5 : Sat w [cObj b_1 51 [(Value.slice none 0 0), (Value.slice none 0 0)], cL vp 5 (encN .u8) (p0), cObj b_2 51 [vw, vc], cObj b_3 118 ((encN .u64).all ([comN p x, x.size - comN p x]))] _ := hs_34d.sub ((.cons_cons _ (.cons_cons _ (.cons_cons _ (.cons _ (.cons _ (.cons_cons _ .slnil)))))))
            refine ⟨hS_5, ?_⟩
            refine RP.bar rfl rfl rfl (OpE.storeObj one45 hs_34d (i := 2) rfl rfl rfl ((hs_34d.rdL 3 rfl).oneCell) rfl fun w_21 hs_35 hch_13 => ?_)
            have hs_35d : Sat w [cObj b_1 51 [(Value.slice none 0 0), (Value.slice none 0 0)], cL vp 5 (encN .u8) (p0), cObj b_2 51 [v_3, vc], cL v_3 9 (encTx) (W.take k ++ [x]), cL v_6 3 (encN .i64) (C.take k ++ [((c - 1) + 1)]), cObj b_3 118 ((encN .u64).all ([comN p x, x.size - comN p x]))] _ := hs_35
            have hS_6 : Sat w [cObj b_1 51 [(Value.slice none 0 0), (Value.slice none 0 0)], cL vp 5 (encN .u8) (p0), cObj b_3 118 ((encN .u64).all ([comN p x, x.size - comN p x]))] _ := hs_35d.sub ((.cons_cons _ (.cons_cons _ (.cons _ (.cons _ (.cons _ (.cons_cons _ .slnil)))))))
            refine ⟨hS_6, ?_⟩
            refine RP.ev rfl rfl rfl (fun w' hS' => Ev.fieldAddr fld51_1 rfl rfl) hS_6 ?_
            refine RP.eff rfl rfl rfl (OpE.storeObj one22 hs_35d (i := 2) rfl rfl rfl ((hs_35d.rdL 4 rfl).oneCell) rfl fun w_22 hs_36 hch_14 => ?_)
            have hs_36d : Sat w [cObj b_1 51 [(Value.slice none 0 0), (Value.slice none 0 0)], cL vp 5 (encN .u8) (p0), cObj b_2 51 [v_3, v_6], cL v_3 9 (encTx) (W.take k ++ [x]), cL v_6 3 (encN .i64) (C.take k ++ [((c - 1) + 1)]), cObj b_3 118 ((encN .u64).all ([comN p x, x.size - comN p x]))] _ := hs_36
            have hS_7 : Sat w [cObj b_1 51 [(Value.slice none 0 0), (Value.slice none 0 0)], cL vp 5 (encN .u8) (p0), cObj b_3 118 ((encN .u64).all ([comN p x, x.size - comN p x]))] _ := hs_36d.sub ((.cons_cons _ (.cons_cons _ (.cons _ (.cons _ (.cons _ (.cons_cons _ .slnil)))))))
            refine ⟨hS_7, ?_⟩
            refine RP.fin ?_
            refine CW.region ?_
            refine RT.ev rfl rfl (Ev.move rfl) ?_
            refine RT.ev rfl rfl (Ev.assign rfl) ?_
            refine RT.nil ?_
            refine CW.region ?_
            refine RT.ev rfl rfl (Ev.move rfl) ?_
            refine RT.ev rfl rfl (Ev.addN (b := 1) rfl rfl rfl) ?_
            refine RT.ev rfl rfl (Ev.assign rfl) ?_
            refine RT.nil ?_
            have hs_37 : Sat w [cObj b_1 51 [(Value.slice none 0 0), (Value.slice none 0 0)], cL vp 5 (encN .u8) (p0), cObj b_2 51 [v_3, v_6], cL v_3 9 (encTx) (W.take (k + 1)), cL v_6 3 (encN .i64) (C.take k ++ [((c - 1) + 1)]), cObj b_3 118 ((encN .u64).all ([comN p x, x.size - comN p x]))] w_22 := hs_36d.reL 3 rfl (show W.take k ++ [x] = W.take (k + 1) from (take_snoc hx).symm)
            have hs_38 : Sat w [cObj b_1 51 [(Value.slice none 0 0), (Value.slice none 0 0)], cL vp 5 (encN .u8) (p0), cObj b_2 51 [v_3, v_6], cL v_3 9 (encTx) (W.take (k + 1)), cL v_6 3 (encN .i64) (C.take (k + 1)), cObj b_3 118 ((encN .u64).all ([comN p x, x.size - comN p x]))] w_22 := hs_37.reL 4 rfl (show C.take k ++ [((c - 1) + 1)] = C.take (k + 1) from by rw [show c - 1 + 1 = c by omega]; exact (take_snoc hcc).symm)
            have hs_39 : Sat w [cObj b_1 51 [(Value.slice none 0 0), (Value.slice none 0 0)], cL vp 5 (encN .u8) (p0), cObj b_2 51 [v_3, v_6], cL v_3 9 (encTx) (W.take (k + 1)), cL v_6 3 (encN .i64) (C.take (k + 1))] w_22 := hs_38.sub ((.cons_cons _ (.cons_cons _ (.cons_cons _ (.cons_cons _ (.cons_cons _ (.cons _ .slnil)))))))
            exact ⟨(k + 1, (subSl (encN .u8).s (subSl (encN .u8).s bv2 (x.size - comN p x) ((strB (x.extract (comN p x) x.size) ++ (uv (c - 1) ++ encL x (W.drop (k + 1)) (C.drop (k + 1)))).length)) ((uv (c - 1)).length) ((uv (c - 1) ++ encL x (W.drop (k + 1)) (C.drop (k + 1))).length)), x, (z + ((c - 1) + 1)), v_3, v_6), ⟨rfl, rfl, rfl, rfl, rfl, rfl, congrArg some (congrArg (fun q : Nat => Value.int .u64 (q : Int)) (Nat.mod_eq_of_lt (show k + 1 < 2 ^ 64 by omega))), trivial⟩, ⟨hs_39, by omega, fun w9 h9 => sub_uv (hb6 w9 h9), (prevN_succ hx).symm, by omega, by rw [sum_take_snoc hcc, hz]; omega⟩, (show (W.length - (k + 1)) < (W.length - k) from by omega)⟩
          · have hs_32d : Sat w [cObj b_1 51 [(Value.slice none 0 0), (Value.slice none 0 0)], cL vp 5 (encN .u8) (p0), cObj b_2 51 [vw, vc], cL vw 9 (encTx) (W.take k), cL vc 3 (encN .i64) (C.take k), cObj b_3 118 ((encN .u64).all ([comN p x, x.size - comN p x])), cL v_1 9 (encTx) ([x]), cL v_4 3 (encN .i64) ([((c - 1) + 1)])] _ := hs_32
            have hS_8 : Sat w [cObj b_1 51 [(Value.slice none 0 0), (Value.slice none 0 0)], cL vp 5 (encN .u8) (p0), cObj b_2 51 [vw, vc], cObj b_3 118 ((encN .u64).all ([comN p x, x.size - comN p x]))] _ := hs_32d.sub ((.cons_cons _ (.cons_cons _ (.cons_cons _ (.cons _ (.cons _ (.cons_cons _ (.cons _ (.cons _ .slnil)))))))))
            refine ⟨hS_8, ?_⟩
            refine RP.eff rfl rfl rfl (OpE.appendL 3 sl45 hs_32d rfl rfl rfl Try.underlying45 (hs_32d.rdL 6 rfl) (by simp only [List.length_append, List.length_take, List.length_cons, List.length_nil]; omega) (by simp only [List.length_append, List.length_take, List.length_cons, List.length_nil]; omega) fun v_7 w_23 hs_40 hch_15 => ?_)
            have hs_40d : Sat w [cObj b_1 51 [(Value.slice none 0 0), (Value.slice none 0 0)], cL vp 5 (encN .u8) (p0), cObj b_2 51 [vw, vc], cL v_7 9 (encTx) (W.take k ++ [x]), cL vc 3 (encN .i64) (C.take k), cObj b_3 118 ((encN .u64).all ([comN p x, x.size - comN p x])), cL v_4 3 (encN .i64) ([((c - 1) + 1)])] _ := hs_40.drop 6
            have hS_9 : Sat w [cObj b_1 51 [(Value.slice none 0 0), (Value.slice none 0 0)], cL vp 5 (encN .u8) (p0), cObj b_2 51 [vw, vc], cObj b_3 118 ((encN .u64).all ([comN p x, x.size - comN p x]))] _ := hs_40d.sub ((.cons_cons _ (.cons_cons _ (.cons_cons _ (.cons _ (.cons _ (.cons_cons _ (.cons _ .slnil))))))))
            refine ⟨hS_9, ?_⟩
            refine RP.ev rfl rfl rfl (fun w' hS' => Ev.fieldAddr fld51_0 rfl rfl) hS_9 ?_
            refine RP.eff rfl rfl rfl (OpE.appendL 4 sl22 hs_40d rfl rfl rfl Try.underlying22 (hs_40d.rdL 6 rfl) (by simp only [List.length_append, List.length_take, List.length_cons, List.length_nil]; omega) (by simp only [List.length_append, List.length_take, List.length_cons, List.length_nil]; omega) fun v_8 w_24 hs_41 hch_16 => ?_)
            have hs_41d : Sat w [cObj b_1 51 [(Value.slice none 0 0), (Value.slice none 0 0)], cL vp 5 (encN .u8) (p0), cObj b_2 51 [vw, vc], cL v_7 9 (encTx) (W.take k ++ [x]), cL v_8 3 (encN .i64) (C.take k ++ [((c - 1) + 1)]), cObj b_3 118 ((encN .u64).all ([comN p x, x.size - comN p x]))] _ := hs_41.drop 6
            have hS_10 : Sat w [cObj b_1 51 [(Value.slice none 0 0), (Value.slice none 0 0)], cL vp 5 (encN .u8) (p0), cObj b_2 51 [vw, vc], cObj b_3 118 ((encN .u64).all ([comN p x, x.size - comN p x]))] _ := hs_41d.sub ((.cons_cons _ (.cons_cons _ (.cons_cons _ (.cons _ (.cons _ (.cons_cons _ .slnil)))))))
            refine ⟨hS_10, ?_⟩
            refine RP.bar rfl rfl rfl (OpE.storeObj one45 hs_41d (i := 2) rfl rfl rfl ((hs_41d.rdL 3 rfl).oneCell) rfl fun w_25 hs_42 hch_17 => ?_)
            have hs_42d : Sat w [cObj b_1 51 [(Value.slice none 0 0), (Value.slice none 0 0)], cL vp 5 (encN .u8) (p0), cObj b_2 51 [v_7, vc], cL v_7 9 (encTx) (W.take k ++ [x]), cL v_8 3 (encN .i64) (C.take k ++ [((c - 1) + 1)]), cObj b_3 118 ((encN .u64).all ([comN p x, x.size - comN p x]))] _ := hs_42
            have hS_11 : Sat w [cObj b_1 51 [(Value.slice none 0 0), (Value.slice none 0 0)], cL vp 5 (encN .u8) (p0), cObj b_3 118 ((encN .u64).all ([comN p x, x.size - comN p x]))] _ := hs_42d.sub ((.cons_cons _ (.cons_cons _ (.cons _ (.cons _ (.cons _ (.cons_cons _ .slnil)))))))
            refine ⟨hS_11, ?_⟩
            refine RP.ev rfl rfl rfl (fun w' hS' => Ev.fieldAddr fld51_1 rfl rfl) hS_11 ?_
            refine RP.eff rfl rfl rfl (OpE.storeObj one22 hs_42d (i := 2) rfl rfl rfl ((hs_42d.rdL 4 rfl).oneCell) rfl fun w_26 hs_43 hch_18 => ?_)
            have hs_43d : Sat w [cObj b_1 51 [(Value.slice none 0 0), (Value.slice none 0 0)], cL vp 5 (encN .u8) (p0), cObj b_2 51 [v_7, v_8], cL v_7 9 (encTx) (W.take k ++ [x]), cL v_8 3 (encN .i64) (C.take k ++ [((c - 1) + 1)]), cObj b_3 118 ((encN .u64).all ([comN p x, x.size - comN p x]))] _ := hs_43
            have hS_12 : Sat w [cObj b_1 51 [(Value.slice none 0 0), (Value.slice none 0 0)], cL vp 5 (encN .u8) (p0), cObj b_3 118 ((encN .u64).all ([comN p x, x.size - comN p x]))] _ := hs_43d.sub ((.cons_cons _ (.cons_cons _ (.cons _ (.cons _ (.cons _ (.cons_cons _ .slnil)))))))
            refine ⟨hS_12, ?_⟩
            refine RP.fin ?_
            refine CW.region ?_
            refine RT.ev rfl rfl (Ev.move rfl) ?_
            refine RT.ev rfl rfl (Ev.assign rfl) ?_
            refine RT.nil ?_
            refine CW.region ?_
            refine RT.ev rfl rfl (Ev.move rfl) ?_
            refine RT.ev rfl rfl (Ev.addN (b := 1) rfl rfl rfl) ?_
            refine RT.ev rfl rfl (Ev.assign rfl) ?_
            refine RT.nil ?_
            have hs_44 : Sat w [cObj b_1 51 [(Value.slice none 0 0), (Value.slice none 0 0)], cL vp 5 (encN .u8) (p0), cObj b_2 51 [v_7, v_8], cL v_7 9 (encTx) (W.take (k + 1)), cL v_8 3 (encN .i64) (C.take k ++ [((c - 1) + 1)]), cObj b_3 118 ((encN .u64).all ([comN p x, x.size - comN p x]))] w_26 := hs_43d.reL 3 rfl (show W.take k ++ [x] = W.take (k + 1) from (take_snoc hx).symm)
            have hs_45 : Sat w [cObj b_1 51 [(Value.slice none 0 0), (Value.slice none 0 0)], cL vp 5 (encN .u8) (p0), cObj b_2 51 [v_7, v_8], cL v_7 9 (encTx) (W.take (k + 1)), cL v_8 3 (encN .i64) (C.take (k + 1)), cObj b_3 118 ((encN .u64).all ([comN p x, x.size - comN p x]))] w_26 := hs_44.reL 4 rfl (show C.take k ++ [((c - 1) + 1)] = C.take (k + 1) from by rw [show c - 1 + 1 = c by omega]; exact (take_snoc hcc).symm)
            have hs_46 : Sat w [cObj b_1 51 [(Value.slice none 0 0), (Value.slice none 0 0)], cL vp 5 (encN .u8) (p0), cObj b_2 51 [v_7, v_8], cL v_7 9 (encTx) (W.take (k + 1)), cL v_8 3 (encN .i64) (C.take (k + 1))] w_26 := hs_45.sub ((.cons_cons _ (.cons_cons _ (.cons_cons _ (.cons_cons _ (.cons_cons _ (.cons _ .slnil)))))))
            exact ⟨(k + 1, (subSl (encN .u8).s (subSl (encN .u8).s bv2 (x.size - comN p x) ((strB (x.extract (comN p x) x.size) ++ (uv (c - 1) ++ encL x (W.drop (k + 1)) (C.drop (k + 1)))).length)) ((uv (c - 1)).length) ((uv (c - 1) ++ encL x (W.drop (k + 1)) (C.drop (k + 1))).length)), x, (z + ((c - 1) + 1)), v_7, v_8), ⟨rfl, rfl, rfl, rfl, rfl, rfl, congrArg some (congrArg (fun q : Nat => Value.int .u64 (q : Int)) (Nat.mod_eq_of_lt (show k + 1 < 2 ^ 64 by omega))), trivial⟩, ⟨hs_46, by omega, fun w9 h9 => sub_uv (hb6 w9 h9), (prevN_succ hx).symm, by omega, by rw [sum_take_snoc hcc, hz]; omega⟩, (show (W.length - (k + 1)) < (W.length - k) from by omega)⟩
        · have hs_30d : Sat w [cObj b_1 51 [(Value.slice none 0 0), (Value.slice none 0 0)], cL vp 5 (encN .u8) (p0), cObj b_2 51 [vw, vc], cL vw 9 (encTx) (W.take k), cL vc 3 (encN .i64) (C.take k), cObj b_3 118 ((encN .u64).all ([comN p x, x.size - comN p x])), cL v_2 3 (encN .i64) ([((c - 1) + 1)])] _ := hs_30
          have hS_13 : Sat w [cObj b_1 51 [(Value.slice none 0 0), (Value.slice none 0 0)], cL vp 5 (encN .u8) (p0), cObj b_2 51 [vw, vc], cObj b_3 118 ((encN .u64).all ([comN p x, x.size - comN p x]))] _ := hs_30d.sub ((.cons_cons _ (.cons_cons _ (.cons_cons _ (.cons _ (.cons _ (.cons_cons _ (.cons _ .slnil))))))))
          refine ⟨hS_13, ?_⟩
          refine RP.eff rfl rfl rfl (OpE.lit1 (encTx) x sl45 rfl hs_30d rfl fun v_9 w_27 hs_47 hch_19 => ?_)
          have hs_47d : Sat w [cObj b_1 51 [(Value.slice none 0 0), (Value.slice none 0 0)], cL vp 5 (encN .u8) (p0), cObj b_2 51 [vw, vc], cL vw 9 (encTx) (W.take k), cL vc 3 (encN .i64) (C.take k), cObj b_3 118 ((encN .u64).all ([comN p x, x.size - comN p x])), cL v_2 3 (encN .i64) ([((c - 1) + 1)]), cL v_9 9 (encTx) ([x])] _ := hs_47
          have hS_14 : Sat w [cObj b_1 51 [(Value.slice none 0 0), (Value.slice none 0 0)], cL vp 5 (encN .u8) (p0), cObj b_2 51 [vw, vc], cObj b_3 118 ((encN .u64).all ([comN p x, x.size - comN p x]))] _ := hs_47d.sub ((.cons_cons _ (.cons_cons _ (.cons_cons _ (.cons _ (.cons _ (.cons_cons _ (.cons _ (.cons _ .slnil)))))))))
          refine ⟨hS_14, ?_⟩
          refine RP.eff rfl rfl rfl (OpE.appendL 3 sl45 hs_47d rfl rfl rfl Try.underlying45 (hs_47d.rdL 7 rfl) (by simp only [List.length_append, List.length_take, List.length_cons, List.length_nil]; omega) (by simp only [List.length_append, List.length_take, List.length_cons, List.length_nil]; omega) fun v_10 w_28 hs_48 hch_20 => ?_)
          have hs_48d : Sat w [cObj b_1 51 [(Value.slice none 0 0), (Value.slice none 0 0)], cL vp 5 (encN .u8) (p0), cObj b_2 51 [vw, vc], cL v_10 9 (encTx) (W.take k ++ [x]), cL vc 3 (encN .i64) (C.take k), cObj b_3 118 ((encN .u64).all ([comN p x, x.size - comN p x])), cL v_2 3 (encN .i64) ([((c - 1) + 1)])] _ := hs_48.drop 7
          have hS_15 : Sat w [cObj b_1 51 [(Value.slice none 0 0), (Value.slice none 0 0)], cL vp 5 (encN .u8) (p0), cObj b_2 51 [vw, vc], cObj b_3 118 ((encN .u64).all ([comN p x, x.size - comN p x]))] _ := hs_48d.sub ((.cons_cons _ (.cons_cons _ (.cons_cons _ (.cons _ (.cons _ (.cons_cons _ (.cons _ .slnil))))))))
          refine ⟨hS_15, ?_⟩
          refine RP.ev rfl rfl rfl (fun w' hS' => Ev.fieldAddr fld51_0 rfl rfl) hS_15 ?_
          refine RP.eff rfl rfl rfl (OpE.appendL 4 sl22 hs_48d rfl rfl rfl Try.underlying22 (hs_48d.rdL 6 rfl) (by simp only [List.length_append, List.length_take, List.length_cons, List.length_nil]; omega) (by simp only [List.length_append, List.length_take, List.length_cons, List.length_nil]; omega) fun v_11 w_29 hs_49 hch_21 => ?_)
          have hs_49d : Sat w [cObj b_1 51 [(Value.slice none 0 0), (Value.slice none 0 0)], cL vp 5 (encN .u8) (p0), cObj b_2 51 [vw, vc], cL v_10 9 (encTx) (W.take k ++ [x]), cL v_11 3 (encN .i64) (C.take k ++ [((c - 1) + 1)]), cObj b_3 118 ((encN .u64).all ([comN p x, x.size - comN p x]))] _ := hs_49.drop 6
          have hS_16 : Sat w [cObj b_1 51 [(Value.slice none 0 0), (Value.slice none 0 0)], cL vp 5 (encN .u8) (p0), cObj b_2 51 [vw, vc], cObj b_3 118 ((encN .u64).all ([comN p x, x.size - comN p x]))] _ := hs_49d.sub ((.cons_cons _ (.cons_cons _ (.cons_cons _ (.cons _ (.cons _ (.cons_cons _ .slnil)))))))
          refine ⟨hS_16, ?_⟩
          refine RP.bar rfl rfl rfl (OpE.storeObj one45 hs_49d (i := 2) rfl rfl rfl ((hs_49d.rdL 3 rfl).oneCell) rfl fun w_30 hs_50 hch_22 => ?_)
          have hs_50d : Sat w [cObj b_1 51 [(Value.slice none 0 0), (Value.slice none 0 0)], cL vp 5 (encN .u8) (p0), cObj b_2 51 [v_10, vc], cL v_10 9 (encTx) (W.take k ++ [x]), cL v_11 3 (encN .i64) (C.take k ++ [((c - 1) + 1)]), cObj b_3 118 ((encN .u64).all ([comN p x, x.size - comN p x]))] _ := hs_50
          have hS_17 : Sat w [cObj b_1 51 [(Value.slice none 0 0), (Value.slice none 0 0)], cL vp 5 (encN .u8) (p0), cObj b_3 118 ((encN .u64).all ([comN p x, x.size - comN p x]))] _ := hs_50d.sub ((.cons_cons _ (.cons_cons _ (.cons _ (.cons _ (.cons _ (.cons_cons _ .slnil)))))))
          refine ⟨hS_17, ?_⟩
          refine RP.ev rfl rfl rfl (fun w' hS' => Ev.fieldAddr fld51_1 rfl rfl) hS_17 ?_
          refine RP.eff rfl rfl rfl (OpE.storeObj one22 hs_50d (i := 2) rfl rfl rfl ((hs_50d.rdL 4 rfl).oneCell) rfl fun w_31 hs_51 hch_23 => ?_)
          have hs_51d : Sat w [cObj b_1 51 [(Value.slice none 0 0), (Value.slice none 0 0)], cL vp 5 (encN .u8) (p0), cObj b_2 51 [v_10, v_11], cL v_10 9 (encTx) (W.take k ++ [x]), cL v_11 3 (encN .i64) (C.take k ++ [((c - 1) + 1)]), cObj b_3 118 ((encN .u64).all ([comN p x, x.size - comN p x]))] _ := hs_51
          have hS_18 : Sat w [cObj b_1 51 [(Value.slice none 0 0), (Value.slice none 0 0)], cL vp 5 (encN .u8) (p0), cObj b_3 118 ((encN .u64).all ([comN p x, x.size - comN p x]))] _ := hs_51d.sub ((.cons_cons _ (.cons_cons _ (.cons _ (.cons _ (.cons _ (.cons_cons _ .slnil)))))))
          refine ⟨hS_18, ?_⟩
          refine RP.fin ?_
          refine CW.region ?_
          refine RT.ev rfl rfl (Ev.move rfl) ?_
          refine RT.ev rfl rfl (Ev.assign rfl) ?_
          refine RT.nil ?_
          refine CW.region ?_
          refine RT.ev rfl rfl (Ev.move rfl) ?_
          refine RT.ev rfl rfl (Ev.addN (b := 1) rfl rfl rfl) ?_
          refine RT.ev rfl rfl (Ev.assign rfl) ?_
          refine RT.nil ?_
          have hs_52 : Sat w [cObj b_1 51 [(Value.slice none 0 0), (Value.slice none 0 0)], cL vp 5 (encN .u8) (p0), cObj b_2 51 [v_10, v_11], cL v_10 9 (encTx) (W.take (k + 1)), cL v_11 3 (encN .i64) (C.take k ++ [((c - 1) + 1)]), cObj b_3 118 ((encN .u64).all ([comN p x, x.size - comN p x]))] w_31 := hs_51d.reL 3 rfl (show W.take k ++ [x] = W.take (k + 1) from (take_snoc hx).symm)
          have hs_53 : Sat w [cObj b_1 51 [(Value.slice none 0 0), (Value.slice none 0 0)], cL vp 5 (encN .u8) (p0), cObj b_2 51 [v_10, v_11], cL v_10 9 (encTx) (W.take (k + 1)), cL v_11 3 (encN .i64) (C.take (k + 1)), cObj b_3 118 ((encN .u64).all ([comN p x, x.size - comN p x]))] w_31 := hs_52.reL 4 rfl (show C.take k ++ [((c - 1) + 1)] = C.take (k + 1) from by rw [show c - 1 + 1 = c by omega]; exact (take_snoc hcc).symm)
          have hs_54 : Sat w [cObj b_1 51 [(Value.slice none 0 0), (Value.slice none 0 0)], cL vp 5 (encN .u8) (p0), cObj b_2 51 [v_10, v_11], cL v_10 9 (encTx) (W.take (k + 1)), cL v_11 3 (encN .i64) (C.take (k + 1))] w_31 := hs_53.sub ((.cons_cons _ (.cons_cons _ (.cons_cons _ (.cons_cons _ (.cons_cons _ (.cons _ .slnil)))))))
          exact ⟨(k + 1, (subSl (encN .u8).s (subSl (encN .u8).s bv2 (x.size - comN p x) ((strB (x.extract (comN p x) x.size) ++ (uv (c - 1) ++ encL x (W.drop (k + 1)) (C.drop (k + 1)))).length)) ((uv (c - 1)).length) ((uv (c - 1) ++ encL x (W.drop (k + 1)) (C.drop (k + 1))).length)), x, (z + ((c - 1) + 1)), v_10, v_11), ⟨rfl, rfl, rfl, rfl, rfl, rfl, congrArg some (congrArg (fun q : Nat => Value.int .u64 (q : Int)) (Nat.mod_eq_of_lt (show k + 1 < 2 ^ 64 by omega))), trivial⟩, ⟨hs_54, by omega, fun w9 h9 => sub_uv (hb6 w9 h9), (prevN_succ hx).symm, by omega, by rw [sum_take_snoc hcc, hz]; omega⟩, (show (W.length - (k + 1)) < (W.length - k) from by omega)⟩
      · obtain ⟨y, hy⟩ : ∃ y, W[k - 1]? = some y := ⟨_, List.getElem?_eq_getElem (by omega)⟩
        have hpy : p = y := by rw [hp]; unfold prevN; rw [if_neg (by omega), getD_of hy]
        have hlt := hok.1.lt hy hx (by omega)
        rw [← hpy] at hlt
        refine CW.draw (fun w' => Sat w [cObj b_1 51 [(Value.slice none 0 0), (Value.slice none 0 0)], cL vp 5 (encN .u8) (p0), cObj b_2 51 [vw, vc], cL vw 9 (encTx) (W.take k), cL vc 3 (encN .i64) (C.take k), cObj b_3 118 ((encN .u64).all ([comN p x, x.size - comN p x]))] w') (.free 0 (.free 1 (.free 2 (.free 3 (.free 4 (.free 5 (.free 6 (.free 7 (.free 8 (.free 10 (.free 11 (.free 12 (.one 9 (.free 13 (.free 14 (.free 15 .fin)))))))))))))))) mixed (by kernel_rfl) ?_
        have hs_55 := hs_26.drew
        refine RP.ev rfl rfl rfl (fun w' hS' => Ev.move rfl) hs_55 ?_
        refine RP.ev rfl rfl rfl (fun w' hS' => Ev.gtrN (b := 0) rfl rfl) hs_55 ?_
        refine RP.ev rfl rfl rfl (fun w' hS' => Ev.move rfl) hs_55 ?_
        refine RP.evYes rfl rfl rfl rfl (decide_eq_true (by omega)) rfl (fun w' hS' => Ev.move rfl) hs_55 ?_
        refine RP.evYes rfl rfl rfl rfl (decide_eq_true (by omega)) rfl (fun w' hS' => Ev.move rfl) hs_55 ?_
        refine RP.evYes rfl rfl rfl rfl (decide_eq_true (by omega)) rfl (fun w' hS' => Ev.strLeq rfl rfl) hs_55 ?_
        refine RP.evYes rfl rfl rfl rfl (decide_eq_true (by omega)) rfl (fun w' hS' => Ev.move rfl) hs_55 ?_
        refine RP.evYes rfl rfl rfl rfl (decide_eq_false (fun h9 => h9 hlt)) rfl (fun w' hS' => Ev.move rfl) hs_55 ?_
        refine RP.evYes rfl rfl rfl rfl (decide_eq_false (fun h9 => h9 hlt)) rfl (fun w' hS' => Ev.move rfl) hs_55 ?_
        refine RP.evYes rfl rfl rfl rfl (decide_eq_false (fun h9 => h9 hlt)) rfl (fun w' hS' => Ev.idxArr (j := 0) arr118 rfl rfl (by decide)) hs_55 ?_
        refine RP.evYes rfl rfl rfl rfl (decide_eq_false (fun h9 => h9 hlt)) rfl (fun w' hS' => Ev.load scal108 rfl (hS'.cellArr (E := encN .u64) 5 rfl rfl (by decide) rfl)) hs_55 ?_
        refine RP.evYes rfl rfl rfl rfl (decide_eq_false (fun h9 => h9 hlt)) rfl (fun w' hS' => Ev.convK (by rw [Try.underlying108]; rfl) Try.underlying3 rfl (wrap_i (by omega))) hs_55 ?_
        refine RP.effYes rfl rfl rfl rfl (decide_eq_false (fun h9 => h9 hlt)) rfl (OpE.call ent88 rfl ((rcommon_ok p x _ (by omega)).mono fun r_7 w_32 h_7 => ?_))
        obtain ⟨rfl, hp_7⟩ := h_7
        have hs_56 : Sat w [cObj b_1 51 [(Value.slice none 0 0), (Value.slice none 0 0)], cL vp 5 (encN .u8) (p0), cObj b_2 51 [vw, vc], cL vw 9 (encTx) (W.take k), cL vc 3 (encN .i64) (C.take k), cObj b_3 118 ((encN .u64).all ([comN p x, x.size - comN p x]))] _ := hs_55.adds hp_7
        have hS_19 : Sat w [cObj b_1 51 [(Value.slice none 0 0), (Value.slice none 0 0)], cL vp 5 (encN .u8) (p0), cObj b_2 51 [vw, vc], cL vw 9 (encTx) (W.take k), cL vc 3 (encN .i64) (C.take k), cObj b_3 118 ((encN .u64).all ([comN p x, x.size - comN p x]))] _ := hs_56.sub ((.cons_cons _ (.cons_cons _ (.cons_cons _ (.cons_cons _ (.cons_cons _ (.cons_cons _ .slnil)))))))
        refine ⟨hS_19, ?_⟩
        refine RP.evYes rfl rfl rfl rfl (decide_eq_false (fun h9 => h9 hlt)) rfl (fun w' hS' => Ev.neqN rfl rfl) hS_19 ?_
        refine RP.evYes rfl rfl rfl rfl (decide_eq_true (by omega)) rfl (fun w' hS' => Ev.pickN rfl (decide_eq_false (fun h9 => h9 hlt)) rfl) hS_19 ?_
        refine RP.ev rfl rfl rfl (fun w' hS' => Ev.pickY rfl (decide_eq_true (by omega)) rfl) hS_19 ?_
        refine RP.fin ?_
        refine CW.condF rfl (decide_eq_false (fun h9 => h9 rfl)) ?_
        refine CW.skip ?_
        refine CW.seq ?_
        refine CW.weaken [(2, _), (4, _), (6, _), (7, _), (10, _), (11, _), (12, _), (13, _), (15, _), (16, _), (17, _), (18, _), (49, _), (50, _), (86, _), (123, _), (148, _)] ⟨rfl, rfl, rfl, rfl, rfl, rfl, rfl, rfl, rfl, rfl, rfl, rfl, rfl, rfl, rfl, rfl, rfl, trivial⟩ ?_
        have hshp_3 := (hs_56.rdL (E := encTx) 3 rfl).shp (by decide)
        have hshp_4 := (hs_56.rdL (E := encN .i64) 4 rfl).shp (by decide)
        refine CW.draw2 (fun w' => Sat w [cObj b_1 51 [(Value.slice none 0 0), (Value.slice none 0 0)], cL vp 5 (encN .u8) (p0), cObj b_2 51 [vw, vc], cObj b_3 118 ((encN .u64).all ([comN p x, x.size - comN p x]))] w') (fun w' => Sat w [cObj b_1 51 [(Value.slice none 0 0), (Value.slice none 0 0)], cL vp 5 (encN .u8) (p0), cObj b_3 118 ((encN .u64).all ([comN p x, x.size - comN p x]))] w') 13 (.free 0 (.free 1 (.free 2 (.free 5 (.free 6 (.loose 7 (.loose 8 (.loose 9 (.two 3 10 (.two 4 10 (.free 12 (.one 10 (.one 11 (.bar 13 (.free 14 (.one 15 .fin)))))) (.one 4 (.free 12 (.one 11 (.bar 13 (.free 14 (.one 15 .fin))))))) (.one 3 (.one 4 (.free 12 (.one 11 (.bar 13 (.free 14 (.one 15 .fin)))))))))))))))) (fun w' h => h.sub ((.cons_cons _ (.cons_cons _ (.cons _ (.cons_cons _ .slnil)))))) mixed (by kernel_rfl) ?_
        have hs_57 := hs_56.drew
        have hS_20 : Sat w [cObj b_1 51 [(Value.slice none 0 0), (Value.slice none 0 0)], cL vp 5 (encN .u8) (p0), cObj b_2 51 [vw, vc], cObj b_3 118 ((encN .u64).all ([comN p x, x.size - comN p x]))] _ := hs_57.sub ((.cons_cons _ (.cons_cons _ (.cons_cons _ (.cons _ (.cons _ (.cons_cons _ .slnil)))))))
        refine RP.ev rfl rfl rfl (fun w' hS' => Ev.fieldAddr fld51_0 rfl rfl) hS_20 ?_
        refine RP.ev rfl rfl rfl (fun w' hS' => Ev.load scal45 rfl (hS'.cell (i := 2) (j := 0) rfl rfl)) hS_20 ?_
        refine RP.ev rfl rfl rfl (fun w' hS' => Ev.move rfl) hS_20 ?_
        refine RP.ev rfl rfl rfl (fun w' hS' => Ev.fieldAddr fld51_1 rfl rfl) hS_20 ?_
        refine RP.ev rfl rfl rfl (fun w' hS' => Ev.load scal22 rfl (hS'.cell (i := 2) (j := 1) rfl rfl)) hS_20 ?_
        refine RP.loose rfl rfl rfl (fun w' hS' => Ev.move rfl) hS_20 ?_
        refine RP.loose rfl rfl rfl (fun w' hS' => Ev.convK (by rw [Try.underlying108]; rfl) Try.underlying3 rfl (wrap_i (by omega))) hS_20 ?_
        refine RP.loose rfl rfl rfl (fun w' hS' => Ev.addI (b := 1) rfl rfl (by omega)) hS_20 ?_
        refine RP.two rfl rfl rfl rfl rfl rfl (OpE.lit1 (encTx) x sl45 rfl hs_57 rfl fun v_12 w_33 hs_58 hch_24 => ?_) (OpE.lit1 (encN .i64) ((c - 1) + 1) sl22 rfl hs_57 rfl fun v_13 w_34 hs_59 hch_25 => ?_)
        · have hs_58d : Sat w [cObj b_1 51 [(Value.slice none 0 0), (Value.slice none 0 0)], cL vp 5 (encN .u8) (p0), cObj b_2 51 [vw, vc], cL vw 9 (encTx) (W.take k), cL vc 3 (encN .i64) (C.take k), cObj b_3 118 ((encN .u64).all ([comN p x, x.size - comN p x])), cL v_12 9 (encTx) ([x])] _ := hs_58
          have hS_21 : Sat w [cObj b_1 51 [(Value.slice none 0 0), (Value.slice none 0 0)], cL vp 5 (encN .u8) (p0), cObj b_2 51 [vw, vc], cObj b_3 118 ((encN .u64).all ([comN p x, x.size - comN p x]))] _ := hs_58d.sub ((.cons_cons _ (.cons_cons _ (.cons_cons _ (.cons _ (.cons _ (.cons_cons _ (.cons _ .slnil))))))))
          refine ⟨hS_21, ?_⟩
          refine RP.two rfl rfl rfl rfl rfl rfl (OpE.appendL 3 sl45 hs_58d rfl rfl rfl Try.underlying45 (hs_58d.rdL 6 rfl) (by simp only [List.length_append, List.length_take, List.length_cons, List.length_nil]; omega) (by simp only [List.length_append, List.length_take, List.length_cons, List.length_nil]; omega) fun v_14 w_35 hs_60 hch_26 => ?_) (OpE.lit1 (encN .i64) ((c - 1) + 1) sl22 rfl hs_58d rfl fun v_15 w_36 hs_61 hch_27 => ?_)
          · have hs_60d : Sat w [cObj b_1 51 [(Value.slice none 0 0), (Value.slice none 0 0)], cL vp 5 (encN .u8) (p0), cObj b_2 51 [vw, vc], cL v_14 9 (encTx) (W.take k ++ [x]), cL vc 3 (encN .i64) (C.take k), cObj b_3 118 ((encN .u64).all ([comN p x, x.size - comN p x]))] _ := hs_60.drop 6
            have hS_22 : Sat w [cObj b_1 51 [(Value.slice none 0 0), (Value.slice none 0 0)], cL vp 5 (encN .u8) (p0), cObj b_2 51 [vw, vc], cObj b_3 118 ((encN .u64).all ([comN p x, x.size - comN p x]))] _ := hs_60d.sub ((.cons_cons _ (.cons_cons _ (.cons_cons _ (.cons _ (.cons _ (.cons_cons _ .slnil)))))))
            refine ⟨hS_22, ?_⟩
            refine RP.ev rfl rfl rfl (fun w' hS' => Ev.fieldAddr fld51_0 rfl rfl) hS_22 ?_
            refine RP.eff rfl rfl rfl (OpE.lit1 (encN .i64) ((c - 1) + 1) sl22 rfl hs_60d rfl fun v_16 w_37 hs_62 hch_28 => ?_)
            have hs_62d : Sat w [cObj b_1 51 [(Value.slice none 0 0), (Value.slice none 0 0)], cL vp 5 (encN .u8) (p0), cObj b_2 51 [vw, vc], cL v_14 9 (encTx) (W.take k ++ [x]), cL vc 3 (encN .i64) (C.take k), cObj b_3 118 ((encN .u64).all ([comN p x, x.size - comN p x])), cL v_16 3 (encN .i64) ([((c - 1) + 1)])] _ := hs_62
            have hS_23 : Sat w [cObj b_1 51 [(Value.slice none 0 0), (Value.slice none 0 0)], cL vp 5 (encN .u8) (p0), cObj b_2 51 [vw, vc], cObj b_3 118 ((encN .u64).all ([comN p x, x.size - comN p x]))] _ := hs_62d.sub ((.cons_cons _ (.cons_cons _ (.cons_cons _ (.cons _ (.cons _ (.cons_cons _ (.cons _ .slnil))))))))
            refine ⟨hS_23, ?_⟩
            refine RP.eff rfl rfl rfl (OpE.appendL 4 sl22 hs_62d rfl rfl rfl Try.underlying22 (hs_62d.rdL 6 rfl) (by simp only [List.length_append, List.length_take, List.length_cons, List.length_nil]; omega) (by simp only [List.length_append, List.length_take, List.length_cons, List.length_nil]; omega) fun v_17 w_38 hs_63 hch_29 => ?_)
            have hs_63d : Sat w [cObj b_1 51 [(Value.slice none 0 0), (Value.slice none 0 0)], cL vp 5 (encN .u8) (p0), cObj b_2 51 [vw, vc], cL v_14 9 (encTx) (W.take k ++ [x]), cL v_17 3 (encN .i64) (C.take k ++ [((c - 1) + 1)]), cObj b_3 118 ((encN .u64).all ([comN p x, x.size - comN p x]))] _ := hs_63.drop 6
            have hS_24 : Sat w [cObj b_1 51 [(Value.slice none 0 0), (Value.slice none 0 0)], cL vp 5 (encN .u8) (p0), cObj b_2 51 [vw, vc], cObj b_3 118 ((encN .u64).all ([comN p x, x.size - comN p x]))] _ := hs_63d.sub ((.cons_cons _ (.cons_cons _ (.cons_cons _ (.cons _ (.cons _ (.cons_cons _ .slnil)))))))
            refine ⟨hS_24, ?_⟩
            refine RP.bar rfl rfl rfl (OpE.storeObj one45 hs_63d (i := 2) rfl rfl rfl ((hs_63d.rdL 3 rfl).oneCell) rfl fun w_39 hs_64 hch_30 => ?_)
            have hs_64d : Sat w [cObj b_1 51 [(Value.slice none 0 0), (Value.slice none 0 0)], cL vp 5 (encN .u8) (p0), cObj b_2 51 [v_14, vc], cL v_14 9 (encTx) (W.take k ++ [x]), cL v_17 3 (encN .i64) (C.take k ++ [((c - 1) + 1)]), cObj b_3 118 ((encN .u64).all ([comN p x, x.size - comN p x]))] _ := hs_64
            have hS_25 : Sat w [cObj b_1 51 [(Value.slice none 0 0), (Value.slice none 0 0)], cL vp 5 (encN .u8) (p0), cObj b_3 118 ((encN .u64).all ([comN p x, x.size - comN p x]))] _ := hs_64d.sub ((.cons_cons _ (.cons_cons _ (.cons _ (.cons _ (.cons _ (.cons_cons _ .slnil)))))))
            refine ⟨hS_25, ?_⟩
            refine RP.ev rfl rfl rfl (fun w' hS' => Ev.fieldAddr fld51_1 rfl rfl) hS_25 ?_
            refine RP.eff rfl rfl rfl (OpE.storeObj one22 hs_64d (i := 2) rfl rfl rfl ((hs_64d.rdL 4 rfl).oneCell) rfl fun w_40 hs_65 hch_31 => ?_)
            have hs_65d : Sat w [cObj b_1 51 [(Value.slice none 0 0), (Value.slice none 0 0)], cL vp 5 (encN .u8) (p0), cObj b_2 51 [v_14, v_17], cL v_14 9 (encTx) (W.take k ++ [x]), cL v_17 3 (encN .i64) (C.take k ++ [((c - 1) + 1)]), cObj b_3 118 ((encN .u64).all ([comN p x, x.size - comN p x]))] _ := hs_65
            have hS_26 : Sat w [cObj b_1 51 [(Value.slice none 0 0), (Value.slice none 0 0)], cL vp 5 (encN .u8) (p0), cObj b_3 118 ((encN .u64).all ([comN p x, x.size - comN p x]))] _ := hs_65d.sub ((.cons_cons _ (.cons_cons _ (.cons _ (.cons _ (.cons _ (.cons_cons _ .slnil)))))))
            refine ⟨hS_26, ?_⟩
            refine RP.fin ?_
            refine CW.region ?_
            refine RT.ev rfl rfl (Ev.move rfl) ?_
            refine RT.ev rfl rfl (Ev.assign rfl) ?_
            refine RT.nil ?_
            refine CW.region ?_
            refine RT.ev rfl rfl (Ev.move rfl) ?_
            refine RT.ev rfl rfl (Ev.addN (b := 1) rfl rfl rfl) ?_
            refine RT.ev rfl rfl (Ev.assign rfl) ?_
            refine RT.nil ?_
            have hs_66 : Sat w [cObj b_1 51 [(Value.slice none 0 0), (Value.slice none 0 0)], cL vp 5 (encN .u8) (p0), cObj b_2 51 [v_14, v_17], cL v_14 9 (encTx) (W.take (k + 1)), cL v_17 3 (encN .i64) (C.take k ++ [((c - 1) + 1)]), cObj b_3 118 ((encN .u64).all ([comN p x, x.size - comN p x]))] w_40 := hs_65d.reL 3 rfl (show W.take k ++ [x] = W.take (k + 1) from (take_snoc hx).symm)
            have hs_67 : Sat w [cObj b_1 51 [(Value.slice none 0 0), (Value.slice none 0 0)], cL vp 5 (encN .u8) (p0), cObj b_2 51 [v_14, v_17], cL v_14 9 (encTx) (W.take (k + 1)), cL v_17 3 (encN .i64) (C.take (k + 1)), cObj b_3 118 ((encN .u64).all ([comN p x, x.size - comN p x]))] w_40 := hs_66.reL 4 rfl (show C.take k ++ [((c - 1) + 1)] = C.take (k + 1) from by rw [show c - 1 + 1 = c by omega]; exact (take_snoc hcc).symm)
            have hs_68 : Sat w [cObj b_1 51 [(Value.slice none 0 0), (Value.slice none 0 0)], cL vp 5 (encN .u8) (p0), cObj b_2 51 [v_14, v_17], cL v_14 9 (encTx) (W.take (k + 1)), cL v_17 3 (encN .i64) (C.take (k + 1))] w_40 := hs_67.sub ((.cons_cons _ (.cons_cons _ (.cons_cons _ (.cons_cons _ (.cons_cons _ (.cons _ .slnil)))))))
            exact ⟨(k + 1, (subSl (encN .u8).s (subSl (encN .u8).s bv2 (x.size - comN p x) ((strB (x.extract (comN p x) x.size) ++ (uv (c - 1) ++ encL x (W.drop (k + 1)) (C.drop (k + 1)))).length)) ((uv (c - 1)).length) ((uv (c - 1) ++ encL x (W.drop (k + 1)) (C.drop (k + 1))).length)), x, (z + ((c - 1) + 1)), v_14, v_17), ⟨rfl, rfl, rfl, rfl, rfl, rfl, congrArg some (congrArg (fun q : Nat => Value.int .u64 (q : Int)) (Nat.mod_eq_of_lt (show k + 1 < 2 ^ 64 by omega))), trivial⟩, ⟨hs_68, by omega, fun w9 h9 => sub_uv (hb6 w9 h9), (prevN_succ hx).symm, by omega, by rw [sum_take_snoc hcc, hz]; omega⟩, (show (W.length - (k + 1)) < (W.length - k) from by omega)⟩
          · have hs_61d : Sat w [cObj b_1 51 [(Value.slice none 0 0), (Value.slice none 0 0)], cL vp 5 (encN .u8) (p0), cObj b_2 51 [vw, vc], cL vw 9 (encTx) (W.take k), cL vc 3 (encN .i64) (C.take k), cObj b_3 118 ((encN .u64).all ([comN p x, x.size - comN p x])), cL v_12 9 (encTx) ([x]), cL v_15 3 (encN .i64) ([((c - 1) + 1)])] _ := hs_61
            have hS_27 : Sat w [cObj b_1 51 [(Value.slice none 0 0), (Value.slice none 0 0)], cL vp 5 (encN .u8) (p0), cObj b_2 51 [vw, vc], cObj b_3 118 ((encN .u64).all ([comN p x, x.size - comN p x]))] _ := hs_61d.sub ((.cons_cons _ (.cons_cons _ (.cons_cons _ (.cons _ (.cons _ (.cons_cons _ (.cons _ (.cons _ .slnil)))))))))
            refine ⟨hS_27, ?_⟩
            refine RP.eff rfl rfl rfl (OpE.appendL 3 sl45 hs_61d rfl rfl rfl Try.underlying45 (hs_61d.rdL 6 rfl) (by simp only [List.length_append, List.length_take, List.length_cons, List.length_nil]; omega) (by simp only [List.length_append, List.length_take, List.length_cons, List.length_nil]; omega) fun v_18 w_41 hs_69 hch_32 => ?_)
            have hs_69d : Sat w [cObj b_1 51 [(Value.slice none 0 0), (Value.slice none 0 0)], cL vp 5 (encN .u8) (p0), cObj b_2 51 [vw, vc], cL v_18 9 (encTx) (W.take k ++ [x]), cL vc 3 (encN .i64) (C.take k), cObj b_3 118 ((encN .u64).all ([comN p x, x.size - comN p x])), cL v_15 3 (encN .i64) ([((c - 1) + 1)])] _ := hs_69.drop 6
            have hS_28 : Sat w [cObj b_1 51 [(Value.slice none 0 0), (Value.slice none 0 0)], cL vp 5 (encN .u8) (p0), cObj b_2 51 [vw, vc], cObj b_3 118 ((encN .u64).all ([comN p x, x.size - comN p x]))] _ := hs_69d.sub ((.cons_cons _ (.cons_cons _ (.cons_cons _ (.cons _ (.cons _ (.cons_cons _ (.cons _ .slnil))))))))
            refine ⟨hS_28, ?_⟩
            refine RP.ev rfl rfl rfl (fun w' hS' => Ev.fieldAddr fld51_0 rfl rfl) hS_28 ?_
            refine RP.eff rfl rfl rfl (OpE.appendL 4 sl22 hs_69d rfl rfl rfl Try.underlying22 (hs_69d.rdL 6 rfl) (by simp only [List.length_append, List.length_take, List.length_cons, List.length_nil]; omega) (by simp only [List.length_append, List.length_take, List.length_cons, List.length_nil]; omega) fun v_19 w_42 hs_70 hch_33 => ?_)
            have hs_70d : Sat w [cObj b_1 51 [(Value.slice none 0 0), (Value.slice none 0 0)], cL vp 5 (encN .u8) (p0), cObj b_2 51 [vw, vc], cL v_18 9 (encTx) (W.take k ++ [x]), cL v_19 3 (encN .i64) (C.take k ++ [((c - 1) + 1)]), cObj b_3 118 ((encN .u64).all ([comN p x, x.size - comN p x]))] _ := hs_70.drop 6
            have hS_29 : Sat w [cObj b_1 51 [(Value.slice none 0 0), (Value.slice none 0 0)], cL vp 5 (encN .u8) (p0), cObj b_2 51 [vw, vc], cObj b_3 118 ((encN .u64).all ([comN p x, x.size - comN p x]))] _ := hs_70d.sub ((.cons_cons _ (.cons_cons _ (.cons_cons _ (.cons _ (.cons _ (.cons_cons _ .slnil)))))))
            refine ⟨hS_29, ?_⟩
            refine RP.bar rfl rfl rfl (OpE.storeObj one45 hs_70d (i := 2) rfl rfl rfl ((hs_70d.rdL 3 rfl).oneCell) rfl fun w_43 hs_71 hch_34 => ?_)
            have hs_71d : Sat w [cObj b_1 51 [(Value.slice none 0 0), (Value.slice none 0 0)], cL vp 5 (encN .u8) (p0), cObj b_2 51 [v_18, vc], cL v_18 9 (encTx) (W.take k ++ [x]), cL v_19 3 (encN .i64) (C.take k ++ [((c - 1) + 1)]), cObj b_3 118 ((encN .u64).all ([comN p x, x.size - comN p x]))] _ := hs_71
            have hS_30 : Sat w [cObj b_1 51 [(Value.slice none 0 0), (Value.slice none 0 0)], cL vp 5 (encN .u8) (p0), cObj b_3 118 ((encN .u64).all ([comN p x, x.size - comN p x]))] _ := hs_71d.sub ((.cons_cons _ (.cons_cons _ (.cons _ (.cons _ (.cons _ (.cons_cons _ .slnil)))))))
            refine ⟨hS_30, ?_⟩
            refine RP.ev rfl rfl rfl (fun w' hS' => Ev.fieldAddr fld51_1 rfl rfl) hS_30 ?_
            refine RP.eff rfl rfl rfl (OpE.storeObj one22 hs_71d (i := 2) rfl rfl rfl ((hs_71d.rdL 4 rfl).oneCell) rfl fun w_44 hs_72 hch_35 => ?_)
            have hs_72d : Sat w [cObj b_1 51 [(Value.slice none 0 0), (Value.slice none 0 0)], cL vp 5 (encN .u8) (p0), cObj b_2 51 [v_18, v_19], cL v_18 9 (encTx) (W.take k ++ [x]), cL v_19 3 (encN .i64) (C.take k ++ [((c - 1) + 1)]), cObj b_3 118 ((encN .u64).all ([comN p x, x.size - comN p x]))] _ := hs_72
            have hS_31 : Sat w [cObj b_1 51 [(Value.slice none 0 0), (Value.slice none 0 0)], cL vp 5 (encN .u8) (p0), cObj b_3 118 ((encN .u64).all ([comN p x, x.size - comN p x]))] _ := hs_72d.sub ((.cons_cons _ (.cons_cons _ (.cons _ (.cons _ (.cons _ (.cons_cons _ .slnil)))))))
            refine ⟨hS_31, ?_⟩
            refine RP.fin ?_
            refine CW.region ?_
            refine RT.ev rfl rfl (Ev.move rfl) ?_
            refine RT.ev rfl rfl (Ev.assign rfl) ?_
            refine RT.nil ?_
            refine CW.region ?_
            refine RT.ev rfl rfl (Ev.move rfl) ?_
            refine RT.ev rfl rfl (Ev.addN (b := 1) rfl rfl rfl) ?_
            refine RT.ev rfl rfl (Ev.assign rfl) ?_
            refine RT.nil ?_
            have hs_73 : Sat w [cObj b_1 51 [(Value.slice none 0 0), (Value.slice none 0 0)], cL vp 5 (encN .u8) (p0), cObj b_2 51 [v_18, v_19], cL v_18 9 (encTx) (W.take (k + 1)), cL v_19 3 (encN .i64) (C.take k ++ [((c - 1) + 1)]), cObj b_3 118 ((encN .u64).all ([comN p x, x.size - comN p x]))] w_44 := hs_72d.reL 3 rfl (show W.take k ++ [x] = W.take (k + 1) from (take_snoc hx).symm)
            have hs_74 : Sat w [cObj b_1 51 [(Value.slice none 0 0), (Value.slice none 0 0)], cL vp 5 (encN .u8) (p0), cObj b_2 51 [v_18, v_19], cL v_18 9 (encTx) (W.take (k + 1)), cL v_19 3 (encN .i64) (C.take (k + 1)), cObj b_3 118 ((encN .u64).all ([comN p x, x.size - comN p x]))] w_44 := hs_73.reL 4 rfl (show C.take k ++ [((c - 1) + 1)] = C.take (k + 1) from by rw [show c - 1 + 1 = c by omega]; exact (take_snoc hcc).symm)
            have hs_75 : Sat w [cObj b_1 51 [(Value.slice none 0 0), (Value.slice none 0 0)], cL vp 5 (encN .u8) (p0), cObj b_2 51 [v_18, v_19], cL v_18 9 (encTx) (W.take (k + 1)), cL v_19 3 (encN .i64) (C.take (k + 1))] w_44 := hs_74.sub ((.cons_cons _ (.cons_cons _ (.cons_cons _ (.cons_cons _ (.cons_cons _ (.cons _ .slnil)))))))
            exact ⟨(k + 1, (subSl (encN .u8).s (subSl (encN .u8).s bv2 (x.size - comN p x) ((strB (x.extract (comN p x) x.size) ++ (uv (c - 1) ++ encL x (W.drop (k + 1)) (C.drop (k + 1)))).length)) ((uv (c - 1)).length) ((uv (c - 1) ++ encL x (W.drop (k + 1)) (C.drop (k + 1))).length)), x, (z + ((c - 1) + 1)), v_18, v_19), ⟨rfl, rfl, rfl, rfl, rfl, rfl, congrArg some (congrArg (fun q : Nat => Value.int .u64 (q : Int)) (Nat.mod_eq_of_lt (show k + 1 < 2 ^ 64 by omega))), trivial⟩, ⟨hs_75, by omega, fun w9 h9 => sub_uv (hb6 w9 h9), (prevN_succ hx).symm, by omega, by rw [sum_take_snoc hcc, hz]; omega⟩, (show (W.length - (k + 1)) < (W.length - k) from by omega)⟩
        · have hs_59d : Sat w [cObj b_1 51 [(Value.slice none 0 0), (Value.slice none 0 0)], cL vp 5 (encN .u8) (p0), cObj b_2 51 [vw, vc], cL vw 9 (encTx) (W.take k), cL vc 3 (encN .i64) (C.take k), cObj b_3 118 ((encN .u64).all ([comN p x, x.size - comN p x])), cL v_13 3 (encN .i64) ([((c - 1) + 1)])] _ := hs_59
          have hS_32 : Sat w [cObj b_1 51 [(Value.slice none 0 0), (Value.slice none 0 0)], cL vp 5 (encN .u8) (p0), cObj b_2 51 [vw, vc], cObj b_3 118 ((encN .u64).all ([comN p x, x.size - comN p x]))] _ := hs_59d.sub ((.cons_cons _ (.cons_cons _ (.cons_cons _ (.cons _ (.cons _ (.cons_cons _ (.cons _ .slnil))))))))
          refine ⟨hS_32, ?_⟩
          refine RP.eff rfl rfl rfl (OpE.lit1 (encTx) x sl45 rfl hs_59d rfl fun v_20 w_45 hs_76 hch_36 => ?_)
          have hs_76d : Sat w [cObj b_1 51 [(Value.slice none 0 0), (Value.slice none 0 0)], cL vp 5 (encN .u8) (p0), cObj b_2 51 [vw, vc], cL vw 9 (encTx) (W.take k), cL vc 3 (encN .i64) (C.take k), cObj b_3 118 ((encN .u64).all ([comN p x, x.size - comN p x])), cL v_13 3 (encN .i64) ([((c - 1) + 1)]), cL v_20 9 (encTx) ([x])] _ := hs_76
          have hS_33 : Sat w [cObj b_1 51 [(Value.slice none 0 0), (Value.slice none 0 0)], cL vp 5 (encN .u8) (p0), cObj b_2 51 [vw, vc], cObj b_3 118 ((encN .u64).all ([comN p x, x.size - comN p x]))] _ := hs_76d.sub ((.cons_cons _ (.cons_cons _ (.cons_cons _ (.cons _ (.cons _ (.cons_cons _ (.cons _ (.cons _ .slnil)))))))))
          refine ⟨hS_33, ?_⟩
          refine RP.eff rfl rfl rfl (OpE.appendL 3 sl45 hs_76d rfl rfl rfl Try.underlying45 (hs_76d.rdL 7 rfl) (by simp only [List.length_append, List.length_take, List.length_cons, List.length_nil]; omega) (by simp only [List.length_append, List.length_take, List.length_cons, List.length_nil]; omega) fun v_21 w_46 hs_77 hch_37 => ?_)
          have hs_77d : Sat w [cObj b_1 51 [(Value.slice none 0 0), (Value.slice none 0 0)], cL vp 5 (encN .u8) (p0), cObj b_2 51 [vw, vc], cL v_21 9 (encTx) (W.take k ++ [x]), cL vc 3 (encN .i64) (C.take k), cObj b_3 118 ((encN .u64).all ([comN p x, x.size - comN p x])), cL v_13 3 (encN .i64) ([((c - 1) + 1)])] _ := hs_77.drop 7
          have hS_34 : Sat w [cObj b_1 51 [(Value.slice none 0 0), (Value.slice none 0 0)], cL vp 5 (encN .u8) (p0), cObj b_2 51 [vw, vc], cObj b_3 118 ((encN .u64).all ([comN p x, x.size - comN p x]))] _ := hs_77d.sub ((.cons_cons _ (.cons_cons _ (.cons_cons _ (.cons _ (.cons _ (.cons_cons _ (.cons _ .slnil))))))))
          refine ⟨hS_34, ?_⟩
          refine RP.ev rfl rfl rfl (fun w' hS' => Ev.fieldAddr fld51_0 rfl rfl) hS_34 ?_
          refine RP.eff rfl rfl rfl (OpE.appendL 4 sl22 hs_77d rfl rfl rfl Try.underlying22 (hs_77d.rdL 6 rfl) (by simp only [List.length_append, List.length_take, List.length_cons, List.length_nil]; omega) (by simp only [List.length_append, List.length_take, List.length_cons, List.length_nil]; omega) fun v_22 w_47 hs_78 hch_38 => ?_)
          have hs_78d : Sat w [cObj b_1 51 [(Value.slice none 0 0), (Value.slice none 0 0)], cL vp 5 (encN .u8) (p0), cObj b_2 51 [vw, vc], cL v_21 9 (encTx) (W.take k ++ [x]), cL v_22 3 (encN .i64) (C.take k ++ [((c - 1) + 1)]), cObj b_3 118 ((encN .u64).all ([comN p x, x.size - comN p x]))] _ := hs_78.drop 6
          have hS_35 : Sat w [cObj b_1 51 [(Value.slice none 0 0), (Value.slice none 0 0)], cL vp 5 (encN .u8) (p0), cObj b_2 51 [vw, vc], cObj b_3 118 ((encN .u64).all ([comN p x, x.size - comN p x]))] _ := hs_78d.sub ((.cons_cons _ (.cons_cons _ (.cons_cons _ (.cons _ (.cons _ (.cons_cons _ .slnil)))))))
          refine ⟨hS_35, ?_⟩
          refine RP.bar rfl rfl rfl (OpE.storeObj one45 hs_78d (i := 2) rfl rfl rfl ((hs_78d.rdL 3 rfl).oneCell) rfl fun w_48 hs_79 hch_39 => ?_)
          have hs_79d : Sat w [cObj b_1 51 [(Value.slice none 0 0), (Value.slice none 0 0)], cL vp 5 (encN .u8) (p0), cObj b_2 51 [v_21, vc], cL v_21 9 (encTx) (W.take k ++ [x]), cL v_22 3 (encN .i64) (C.take k ++ [((c - 1) + 1)]), cObj b_3 118 ((encN .u64).all ([comN p x, x.size - comN p x]))] _ := hs_79
          have hS_36 : Sat w [cObj b_1 51 [(Value.slice none 0 0), (Value.slice none 0 0)], cL vp 5 (encN .u8) (p0), cObj b_3 118 ((encN .u64).all ([comN p x, x.size - comN p x]))] _ := hs_79d.sub ((.cons_cons _ (.cons_cons _ (.cons _ (.cons _ (.cons _ (.cons_cons _ .slnil)))))))
          refine ⟨hS_36, ?_⟩
          refine RP.ev rfl rfl rfl (fun w' hS' => Ev.fieldAddr fld51_1 rfl rfl) hS_36 ?_
          refine RP.eff rfl rfl rfl (OpE.storeObj one22 hs_79d (i := 2) rfl rfl rfl ((hs_79d.rdL 4 rfl).oneCell) rfl fun w_49 hs_80 hch_40 => ?_)
          have hs_80d : Sat w [cObj b_1 51 [(Value.slice none 0 0), (Value.slice none 0 0)], cL vp 5 (encN .u8) (p0), cObj b_2 51 [v_21, v_22], cL v_21 9 (encTx) (W.take k ++ [x]), cL v_22 3 (encN .i64) (C.take k ++ [((c - 1) + 1)]), cObj b_3 118 ((encN .u64).all ([comN p x, x.size - comN p x]))] _ := hs_80
          have hS_37 : Sat w [cObj b_1 51 [(Value.slice none 0 0), (Value.slice none 0 0)], cL vp 5 (encN .u8) (p0), cObj b_3 118 ((encN .u64).all ([comN p x, x.size - comN p x]))] _ := hs_80d.sub ((.cons_cons _ (.cons_cons _ (.cons _ (.cons _ (.cons _ (.cons_cons _ .slnil)))))))
          refine ⟨hS_37, ?_⟩
          refine RP.fin ?_
          refine CW.region ?_
          refine RT.ev rfl rfl (Ev.move rfl) ?_
          refine RT.ev rfl rfl (Ev.assign rfl) ?_
          refine RT.nil ?_
          refine CW.region ?_
          refine RT.ev rfl rfl (Ev.move rfl) ?_
          refine RT.ev rfl rfl (Ev.addN (b := 1) rfl rfl rfl) ?_
          refine RT.ev rfl rfl (Ev.assign rfl) ?_
          refine RT.nil ?_
          have hs_81 : Sat w [cObj b_1 51 [(Value.slice none 0 0), (Value.slice none 0 0)], cL vp 5 (encN .u8) (p0), cObj b_2 51 [v_21, v_22], cL v_21 9 (encTx) (W.take (k + 1)), cL v_22 3 (encN .i64) (C.take k ++ [((c - 1) + 1)]), cObj b_3 118 ((encN .u64).all ([comN p x, x.size - comN p x]))] w_49 := hs_80d.reL 3 rfl (show W.take k ++ [x] = W.take (k + 1) from (take_snoc hx).symm)
          have hs_82 : Sat w [cObj b_1 51 [(Value.slice none 0 0), (Value.slice none 0 0)], cL vp 5 (encN .u8) (p0), cObj b_2 51 [v_21, v_22], cL v_21 9 (encTx) (W.take (k + 1)), cL v_22 3 (encN .i64) (C.take (k + 1)), cObj b_3 118 ((encN .u64).all ([comN p x, x.size - comN p x]))] w_49 := hs_81.reL 4 rfl (show C.take k ++ [((c - 1) + 1)] = C.take (k + 1) from by rw [show c - 1 + 1 = c by omega]; exact (take_snoc hcc).symm)
          have hs_83 : Sat w [cObj b_1 51 [(Value.slice none 0 0), (Value.slice none 0 0)], cL vp 5 (encN .u8) (p0), cObj b_2 51 [v_21, v_22], cL v_21 9 (encTx) (W.take (k + 1)), cL v_22 3 (encN .i64) (C.take (k + 1))] w_49 := hs_82.sub ((.cons_cons _ (.cons_cons _ (.cons_cons _ (.cons_cons _ (.cons_cons _ (.cons _ .slnil)))))))
          exact ⟨(k + 1, (subSl (encN .u8).s (subSl (encN .u8).s bv2 (x.size - comN p x) ((strB (x.extract (comN p x) x.size) ++ (uv (c - 1) ++ encL x (W.drop (k + 1)) (C.drop (k + 1)))).length)) ((uv (c - 1)).length) ((uv (c - 1) ++ encL x (W.drop (k + 1)) (C.drop (k + 1))).length)), x, (z + ((c - 1) + 1)), v_21, v_22), ⟨rfl, rfl, rfl, rfl, rfl, rfl, congrArg some (congrArg (fun q : Nat => Value.int .u64 (q : Int)) (Nat.mod_eq_of_lt (show k + 1 < 2 ^ 64 by omega))), trivial⟩, ⟨hs_83, by omega, fun w9 h9 => sub_uv (hb6 w9 h9), (prevN_succ hx).symm, by omega, by rw [sum_take_snoc hcc, hz]; omega⟩, (show (W.length - (k + 1)) < (W.length - k) from by omega)⟩
  · refine CW.exit0 ?_
    refine CW.seq ?_
    have hs_84 : Sat w [cObj b_1 51 [(Value.slice none 0 0), (Value.slice none 0 0)], cL vp 5 (encN .u8) (p0), cObj b_2 51 [vw, vc], cL vw 9 (encTx) (W), cL vc 3 (encN .i64) (C.take k)] w_6 := hs_10.reL 3 rfl (show W.take k = W from by rw [show k = W.length by omega, List.take_length])
    have hs_85 : Sat w [cObj b_1 51 [(Value.slice none 0 0), (Value.slice none 0 0)], cL vp 5 (encN .u8) (p0), cObj b_2 51 [vw, vc], cL vw 9 (encTx) (W), cL vc 3 (encN .i64) (C)] w_6 := hs_84.reL 4 rfl (show C.take k = C from by rw [show k = C.length by omega, List.take_length])
    have hzl := sum_take_le C k
    refine CW.region ?_
    refine RT.ev rfl rfl (Ev.ldObj agg51 rfl hs_85 (i := 2) rfl rfl) ?_
    refine RT.ev rfl rfl (Ev.move rfl) ?_
    refine RT.ev rfl rfl (Ev.lenL Try.underlying40 rfl (hbv _ (hs_85.rdL 1 rfl))) ?_
    refine RT.ev rfl rfl (Ev.eqlN (b := 0) rfl rfl) ?_
    refine RT.ev rfl rfl (Ev.move rfl) ?_
    refine RT.yes rfl rfl rfl (decide_eq_true (by rw [show k = W.length by omega, List.drop_of_length_le (Nat.le_refl _)]; simp [encL])) ?_
    refine RT.ev rfl rfl (Ev.move rfl) ?_
    refine RT.yes rfl rfl rfl (decide_eq_true (by rw [show k = W.length by omega, List.drop_of_length_le (Nat.le_refl _)]; simp [encL])) ?_
    refine RT.ev rfl rfl (Ev.leqN (b := 4096) rfl rfl) ?_
    refine RT.ev rfl rfl (Ev.pickY rfl (decide_eq_true (by rw [show k = W.length by omega, List.drop_of_length_le (Nat.le_refl _)]; simp [encL])) rfl) ?_
    refine RT.eff rfl rfl (OpE.storeObjA (vs := [vw, vc]) agg51 hs_85 (i := 0) rfl rfl rfl rfl (fun v h => by simp only [List.mem_cons, List.not_mem_nil, or_false] at h; rcases h with rfl | rfl; exact (hs_85.rdL 3 rfl).oneCell; exact (hs_85.rdL 4 rfl).oneCell) fun w_50 hs_86 hch_41 => ?_)
    have hs_86d : Sat w [cObj b_1 51 [vw, vc], cL vp 5 (encN .u8) (p0), cObj b_2 51 [vw, vc], cL vw 9 (encTx) (W), cL vc 3 (encN .i64) (C)] _ := hs_86
    refine RT.ev rfl rfl (Ev.assign rfl) ?_
    refine RT.nil ?_
    refine CW.ret ?_
    show PostK _ _ _ _ _ _
    refine post2c (vs := [vw, vc]) rfl rfl rfl agg51 (fun j u hu => hs_86d.cell (i := 0) rfl hu) ?_
    have hs_87 : Sat w [cL vw 9 (encTx) (W), cL vc 3 (encN .i64) (C)] w_50 := hs_86d.sub ((.cons _ (.cons _ (.cons _ (.cons_cons _ (.cons_cons _ .slnil))))))
    exact ⟨_, _, congrArg (fun q => Value.tuple #[_, Value.bool q]) (decide_eq_true (by omega)), hs_87⟩

end Go.Proofs.Ytfhbflhnelbkfaa
