/- The walks of the functions of F02r, printed by our own program (kwgen.py) out of our descriptions (base.py). -/
import Derived.Test.YtfhbflhnelbkfaaM15u
import Derived.Test.YtfhbflhnelbkfaaF16d
import Derived.Test.YtfhbflhnelbkfaaKj
import Derived.Test.YtfhbflhnelbkfaaTab
namespace Go.Proofs.Ytfhbflhnelbkfaa
open Go.RowKit Go.Kw
set_option maxRecDepth 100000
set_option linter.unusedVariables false
set_option linter.unusedSimpArgs false
theorem uvarint_ok (v : Value) (l : List Nat) (w : World) (hv : RdL w v (encN .u8) l) (hb : ∀ x ∈ l, x < 256) :
    CallsV Try.prog 120 [v] w fun r w' => r = .tuple #[.int .u64 ((uvR l).1 : Nat), .int .i64 ((uvR l).2.1 : Nat), .int .i64 ((uvR l).2.2 : Nat)] ∧ Sat w [] w' := by
  have hs0 := Sat.start w
  refine callsV_of Try.func120 rfl rfl ?_
  refine CW.seq ?_
  refine CW.region ?_
  refine RT.ev rfl rfl (Ev.assign rfl) <| RT.ev rfl rfl (Ev.assign rfl) <| RT.ev rfl rfl (Ev.assign rfl) ?_
  refine RT.nil ?_
  refine CW.seq ?_
  refine CW.seq ?_
  refine CW.region ?_
  refine RT.ev rfl rfl (Ev.move rfl) <| RT.ev rfl rfl (Ev.lenL Try.underlying40 rfl (hv.ext hs0.ext)) <| RT.ev rfl rfl (Ev.move rfl) ?_
  refine RT.nil ?_
  refine CW.block ?_
  refine CW.loop (α := Nat × Nat) (fun (k, u) => [(2, (Value.int .u64 ((u : Nat) : Int))), (7, v), (8, (Value.int .i64 ((l.length : Nat) : Int))), (9, (Value.int .i64 ((k : Nat) : Int)))]) (fun (k, u) w' => Sat w [] w' ∧ (k ≤ l.length) ∧ (uvr k u (l.drop k) = uvr 0 0 l) ∧ (u < 2 ^ (7 * k)) ∧ (k ≤ 9)) (fun (k, u) => l.length - k) (0, 0) ⟨rfl, rfl, rfl, rfl, trivial⟩ ⟨hs0, Nat.zero_le _, rfl, by decide, by omega⟩ ?_
  rintro ⟨k, u⟩ w_1 ⟨hs_1, hk, hinv, hvk, hk9⟩
  show CW _ _ _ _ [(2, (Value.int .u64 ((u : Nat) : Int))), (7, v), (8, (Value.int .i64 ((l.length : Nat) : Int))), (9, (Value.int .i64 ((k : Nat) : Int)))] _
  refine CW.seq ?_
  refine CW.region ?_
  refine RT.ev rfl rfl (Ev.lssN rfl rfl) ?_
  refine RT.nil ?_
  refine CW.seq ?_
  refine CW.condD rfl (fun hc_1 => ?_) (fun hc_1 => ?_)
  · refine CW.skip ?_
    refine CW.seq ?_
    refine CW.block ?_
    refine CW.seq ?_
    obtain ⟨x, hx⟩ : ∃ x, (l)[k]? = some x := ⟨_, List.getElem?_eq_getElem hc_1⟩
    refine CW.region ?_
    refine RT.ev rfl rfl (Ev.move rfl) <| RT.ev rfl rfl (Ev.idxL (E := encN .u8) sl40 rfl rfl (hv.ext hs_1.ext) (by omega)) <| RT.ev rfl rfl (Ev.ldL (E := encN .u8) scal5 rfl (hv.ext hs_1.ext) hx (by decide) rfl) <| RT.ev rfl rfl (Ev.assign rfl) <| RT.ev rfl rfl (Ev.assign rfl) ?_
    refine RT.nil ?_
    refine CW.seq ?_
    refine CW.seq ?_
    have hdk := drop_of_get hx
    have hx256 := hb x (mem_of_get hx)
    have hstep := hinv
    rw [hdk, uvr] at hstep
    refine CW.mid (fun L' w' => Weak [(2, (Value.int .u64 ((u : Nat) : Int))), (5, (Value.int .i64 ((k : Nat) : Int))), (6, (Value.int .u8 ((x : Nat) : Int))), (7, v), (8, (Value.int .i64 ((l.length : Nat) : Int))), (9, (Value.int .i64 ((k : Nat) : Int))), (10, (Value.bool (decide (k < l.length)))), (19, (Value.bool (decide ((k = 9) ∧ (x ≠ 1)))))] L' ∧ Sat w [] w') ?_ ?_
    · refine CW.region ?_
      refine RT.ev rfl rfl (Ev.move rfl) <| RT.ev rfl rfl (Ev.eqlN (b := 9) rfl rfl) <| RT.ev rfl rfl (Ev.move rfl) ?_
      by_cases hg_1 : k = 9
      · refine RT.yes rfl rfl rfl (decide_eq_true hg_1) ?_
        refine RT.ev rfl rfl (Ev.move rfl) ?_
        refine RT.yes rfl rfl rfl (decide_eq_true hg_1) ?_
        refine RT.ev rfl rfl (Ev.neqN (b := 1) rfl rfl) <| RT.ev rfl rfl (Ev.pickY rfl (decide_eq_true hg_1) rfl) ?_
        refine RT.nil ?_
        exact ⟨⟨rfl, rfl, rfl, rfl, rfl, rfl, rfl, congrArg some (congrArg Value.bool (by simp [hg_1])), trivial⟩, hs_1⟩
      · refine RT.no rfl rfl rfl (decide_eq_false hg_1) rfl ?_
        refine RT.no rfl rfl rfl (decide_eq_false hg_1) rfl ?_
        refine RT.ev rfl rfl (Ev.pickN rfl (decide_eq_false hg_1) rfl) ?_
        refine RT.nil ?_
        exact ⟨⟨rfl, rfl, rfl, rfl, rfl, rfl, rfl, congrArg some (congrArg Value.bool (by simp [hg_1])), trivial⟩, hs_1⟩
    · rintro L' w_2 ⟨hw_1, hs_2⟩
      refine CW.weaken _ hw_1 ?_
      refine CW.condD rfl (fun hc_2 => ?_) (fun hc_2 => ?_)
      · refine CW.seq ?_
        refine CW.region ?_
        refine RT.ev rfl rfl (Ev.assign rfl) <| RT.ev rfl rfl (Ev.assign rfl) <| RT.ev rfl rfl (Ev.assign rfl) ?_
        refine RT.nil ?_
        refine CW.ret ?_
        show PostK _ _ _ _ _ _
        refine post3 rfl rfl rfl rfl ?_
        rw [if_pos (by simpa using hc_2)] at hstep
        exact ⟨by rw [uvR, ← hstep]; rfl, hs_2⟩
      · refine CW.skip ?_
        refine CW.seq ?_
        have h9' : ¬ (k = 9 ∧ x ≠ 1) := by simpa using hc_2
        rw [if_neg h9'] at hstep
        have hor := uvr_or (c := x) hvk hk9 h9'
        have hbd := uvr_bound (c := x) hvk
        have hsm := uvr_small (c := x) hk9 h9'
        have hpk : 2 ^ (7 * k) ≤ 2 ^ 63 := Nat.pow_le_pow_right (by decide) (by omega)
        refine CW.region ?_
        refine RT.ev rfl rfl (Ev.move rfl) <| RT.ev rfl rfl (Ev.move rfl) <| RT.ev rfl rfl (Ev.maskN (b := 127) 7 rfl rfl rfl (by decide) (by (try simp only [IntKind.bits]); omega) (by decide)) <| RT.ev rfl rfl (Ev.convK (by rw [Try.underlying5]; rfl) Try.underlying108 rfl (wrap_u rfl (by (try simp only [IntKind.bits]); omega))) <| RT.ev rfl rfl (Ev.move rfl) <| RT.ev rfl rfl (Ev.mulI (a := 7) rfl rfl (by omega)) <| RT.ev rfl rfl (Ev.shlN rfl rfl rfl (by (try simp only [IntKind.bits]); omega)) <| RT.ev rfl rfl (Ev.orN rfl rfl rfl (by (try simp only [IntKind.bits]); omega) (by (try simp only [IntKind.bits]); omega)) <| RT.ev rfl rfl (Ev.assign rfl) ?_
        refine RT.nil ?_
        refine CW.seq ?_
        refine CW.region ?_
        refine RT.ev rfl rfl (Ev.move rfl) <| RT.ev rfl rfl (Ev.lssN (b := 128) rfl rfl) ?_
        refine RT.nil ?_
        refine CW.condD rfl (fun hc_3 => ?_) (fun hc_3 => ?_)
        · refine CW.seq ?_
          refine CW.seq ?_
          refine CW.mid (fun L' w' => Weak [(2, (Value.int .u64 (((u ||| ((x % 2 ^ 7) * 2 ^ (7 * k) % 2 ^ 64)) : Nat) : Int))), (5, (Value.int .i64 ((k : Nat) : Int))), (6, (Value.int .u8 ((x : Nat) : Int))), (7, v), (8, (Value.int .i64 ((l.length : Nat) : Int))), (9, (Value.int .i64 ((k : Nat) : Int))), (10, (Value.bool (decide (k < l.length)))), (19, (Value.bool (decide ((k = 9) ∧ (x ≠ 1))))), (29, (Value.bool (decide (x < 128)))), (35, (Value.bool (decide ((x = 0) ∧ (0 < k)))))] L' ∧ Sat w [] w') ?_ ?_
          · refine CW.region ?_
            refine RT.ev rfl rfl (Ev.move rfl) <| RT.ev rfl rfl (Ev.eqlN (b := 0) rfl rfl) <| RT.ev rfl rfl (Ev.move rfl) ?_
            by_cases hg_2 : x = 0
            · refine RT.yes rfl rfl rfl (decide_eq_true hg_2) ?_
              refine RT.ev rfl rfl (Ev.move rfl) ?_
              refine RT.yes rfl rfl rfl (decide_eq_true hg_2) ?_
              refine RT.ev rfl rfl (Ev.gtrN (b := 0) rfl rfl) <| RT.ev rfl rfl (Ev.pickY rfl (decide_eq_true hg_2) rfl) ?_
              refine RT.nil ?_
              exact ⟨⟨rfl, rfl, rfl, rfl, rfl, rfl, rfl, rfl, rfl, congrArg some (congrArg Value.bool (by simp [hg_2])), trivial⟩, hs_2⟩
            · refine RT.no rfl rfl rfl (decide_eq_false hg_2) rfl ?_
              refine RT.no rfl rfl rfl (decide_eq_false hg_2) rfl ?_
              refine RT.ev rfl rfl (Ev.pickN rfl (decide_eq_false hg_2) rfl) ?_
              refine RT.nil ?_
              exact ⟨⟨rfl, rfl, rfl, rfl, rfl, rfl, rfl, rfl, rfl, congrArg some (congrArg Value.bool (by simp [hg_2])), trivial⟩, hs_2⟩
          · rintro L' w_3 ⟨hw_2, hs_3⟩
            refine CW.weaken _ hw_2 ?_
            refine CW.condD rfl (fun hc_4 => ?_) (fun hc_4 => ?_)
            · refine CW.seq ?_
              refine CW.region ?_
              refine RT.ev rfl rfl (Ev.assign rfl) <| RT.ev rfl rfl (Ev.assign rfl) <| RT.ev rfl rfl (Ev.assign rfl) ?_
              refine RT.nil ?_
              refine CW.ret ?_
              show PostK _ _ _ _ _ _
              refine post3 rfl rfl rfl rfl ?_
              rw [if_pos hc_3, if_pos (by simpa using hc_4)] at hstep
              exact ⟨by rw [uvR, ← hstep]; rfl, hs_3⟩
            · refine CW.skip ?_
              refine CW.seq ?_
              refine CW.region ?_
              refine RT.ev rfl rfl (Ev.move rfl) <| RT.ev rfl rfl (Ev.move rfl) <| RT.ev rfl rfl (Ev.addI (b := 1) rfl rfl (by omega)) <| RT.ev rfl rfl (Ev.assign rfl) <| RT.ev rfl rfl (Ev.assign rfl) <| RT.ev rfl rfl (Ev.assign rfl) ?_
              refine RT.nil ?_
              refine CW.ret ?_
              show PostK _ _ _ _ _ _
              refine post3 rfl rfl rfl rfl ?_
              rw [if_pos hc_3, if_neg (by simpa using hc_4)] at hstep
              exact ⟨by rw [uvR, ← hstep, hor]; rfl, hs_3⟩
        · refine CW.skip ?_
          refine CW.region ?_
          refine RT.ev rfl rfl (Ev.addI (b := 1) rfl rfl (by omega)) <| RT.ev rfl rfl (Ev.move rfl) ?_
          refine RT.nil ?_
          exact ⟨(k + 1, (u ||| ((x % 2 ^ 7) * 2 ^ (7 * k) % 2 ^ 64))), ⟨rfl, rfl, rfl, rfl, trivial⟩, ⟨hs_2, by omega, by rw [hor, ← hstep, if_neg hc_3], by rw [hor]; exact hbd, by rcases Nat.lt_or_ge k 9 with h | h; (omega); exact absurd ⟨(by omega : k = 9), (by omega : x ≠ 1)⟩ h9'⟩, (show (l.length - (k + 1)) < (l.length - k) from by omega)⟩
  · refine CW.exit0 ?_
    refine CW.seq ?_
    refine CW.region ?_
    refine RT.ev rfl rfl (Ev.assign rfl) <| RT.ev rfl rfl (Ev.assign rfl) <| RT.ev rfl rfl (Ev.assign rfl) ?_
    refine RT.nil ?_
    refine CW.ret ?_
    show PostK _ _ _ _ _ _
    refine post3 rfl rfl rfl rfl ?_
    rw [show k = l.length by omega, List.drop_length, uvr] at hinv
    exact ⟨by rw [uvR, ← hinv]; rfl, hs_1⟩

theorem bnum_ok (w0 w : World) (cs : List Chunk) (g : Nat) (bv : Value) (ok : Bool) (bl : List Nat) (lim : Nat) (hs : Sat w0 ([cObj g 150 [bv, .bool ok]] ++ cs) w) (hb : RdL w0 bv (encN .u8) bl) (hbb : ∀ x ∈ bl, x < 256) (hn : bl.length ≤ 1000000000) (hlim : lim ≤ 1000000000000) :
    CallsV Try.prog 124 [(Value.pointer (some ⟨g, 0, none⟩)), (Value.int .i64 ((lim : Nat) : Int))] w fun r w' => r = .int .i64 ((numN ok bl lim).1 : Nat) ∧ ∃ bv', RdL w0 bv' (encN .u8) (numN ok bl lim).2.2 ∧ Sat w0 ([cObj g 150 [bv', .bool (numN ok bl lim).2.1]] ++ cs) w' := by
  refine callsV_of Try.func124 rfl rfl ?_
  refine CW.seq ?_
  refine CW.region ?_
  refine RT.ev rfl rfl (Ev.assign rfl) ?_
  refine RT.nil ?_
  refine CW.seq ?_
  refine CW.region ?_
  refine RT.ev rfl rfl (Ev.move rfl) <| RT.ev rfl rfl (Ev.nilCheck rfl) <| RT.ev rfl rfl (Ev.fieldAddr fld150_0 rfl rfl) <| RT.ev rfl rfl (Ev.load scal40 rfl (hs.cell (i := 0) (j := 0) rfl rfl)) ?_
  refine RT.eff rfl rfl (OpE.call ent120 rfl ((uvarint_ok _ (bl) _ (hb.ext hs.ext) (hbb)).mono fun r_1 w_1 h_1 => ?_))
  obtain ⟨rfl, hp_1⟩ := h_1
  have hs_1 : Sat w0 ([cObj g 150 [bv, (Value.bool ok)]] ++ cs) _ := (hs.adds hp_1).mid
  refine RT.ev rfl rfl (Ev.move rfl) <| RT.ev rfl rfl (Ev.extract rfl rfl) <| RT.ev rfl rfl (Ev.extract rfl rfl) <| RT.ev rfl rfl (Ev.extract rfl rfl) <| RT.ev rfl rfl (Ev.assign rfl) <| RT.ev rfl rfl (Ev.assign rfl) <| RT.ev rfl rfl (Ev.assign rfl) ?_
  refine RT.nil ?_
  refine CW.seq ?_
  refine CW.seq ?_
  refine CW.mid (fun L' w' => Weak [(0, (Value.pointer (some ⟨g, 0, none⟩))), (1, (Value.int .i64 ((lim : Nat) : Int))), (4, (Value.int .i64 ((0 : Nat) : Int))), (5, (Value.int .u64 (((uvR bl).1 : Nat) : Int))), (6, (Value.int .i64 (((uvR bl).2.1 : Nat) : Int))), (7, (Value.int .i64 (((uvR bl).2.2 : Nat) : Int))), (31, (Value.bool (decide ((((!ok) = true) ∨ ((uvR bl).2.2 ≠ 0)) ∨ (lim < (uvR bl).1)))))] L' ∧ Sat w0 ([cObj g 150 [bv, (Value.bool ok)]] ++ cs) w') ?_ ?_
  · refine CW.region ?_
    refine RT.ev rfl rfl (Ev.move rfl) <| RT.ev rfl rfl (Ev.nilCheck rfl) <| RT.ev rfl rfl (Ev.fieldAddr fld150_1 rfl rfl) <| RT.ev rfl rfl (Ev.load scal4 rfl (hs_1.cell (i := 0) (j := 1) rfl rfl)) <| RT.ev rfl rfl (Ev.notB rfl) <| RT.ev rfl rfl (Ev.move rfl) ?_
    by_cases hg_1 : (!ok) = true
    · refine RT.no rfl rfl rfl (hg_1) rfl ?_
      refine RT.no rfl rfl rfl (hg_1) rfl ?_
      refine RT.ev rfl rfl (Ev.pickY rfl (hg_1) rfl) <| RT.ev rfl rfl (Ev.move rfl) ?_
      refine RT.no rfl rfl rfl (rfl) rfl ?_
      refine RT.no rfl rfl rfl (rfl) rfl ?_
      refine RT.no rfl rfl rfl (rfl) rfl ?_
      refine RT.no rfl rfl rfl (rfl) rfl ?_
      refine RT.ev rfl rfl (Ev.pickY rfl (rfl) rfl) ?_
      refine RT.nil ?_
      exact ⟨⟨rfl, rfl, rfl, rfl, rfl, rfl, congrArg some (congrArg Value.bool (by simp [hg_1])), trivial⟩, hs_1⟩
    · refine RT.yes rfl rfl rfl (by simpa using hg_1) ?_
      refine RT.ev rfl rfl (Ev.move rfl) ?_
      refine RT.yes rfl rfl rfl (by simpa using hg_1) ?_
      refine RT.ev rfl rfl (Ev.neqN (b := 0) rfl rfl) <| RT.ev rfl rfl (Ev.pickN rfl (by simpa using hg_1) rfl) <| RT.ev rfl rfl (Ev.move rfl) ?_
      by_cases hg_2 : (uvR bl).2.2 ≠ 0
      · refine RT.no rfl rfl rfl (decide_eq_true hg_2) rfl ?_
        refine RT.no rfl rfl rfl (decide_eq_true hg_2) rfl ?_
        refine RT.no rfl rfl rfl (decide_eq_true hg_2) rfl ?_
        refine RT.no rfl rfl rfl (decide_eq_true hg_2) rfl ?_
        refine RT.ev rfl rfl (Ev.pickY rfl (decide_eq_true hg_2) rfl) ?_
        refine RT.nil ?_
        exact ⟨⟨rfl, rfl, rfl, rfl, rfl, rfl, congrArg some (congrArg Value.bool (by simp [hg_1, hg_2])), trivial⟩, hs_1⟩
      · refine RT.yes rfl rfl rfl (decide_eq_false hg_2) ?_
        refine RT.ev rfl rfl (Ev.move rfl) ?_
        refine RT.yes rfl rfl rfl (decide_eq_false hg_2) ?_
        refine RT.ev rfl rfl (Ev.move rfl) ?_
        refine RT.yes rfl rfl rfl (decide_eq_false hg_2) ?_
        refine RT.ev rfl rfl (Ev.convK (by rw [Try.underlying3]; rfl) Try.underlying108 rfl (wrap_u rfl (by (try simp only [IntKind.bits]); omega))) ?_
        refine RT.yes rfl rfl rfl (decide_eq_false hg_2) ?_
        refine RT.ev rfl rfl (Ev.gtrN rfl rfl) <| RT.ev rfl rfl (Ev.pickN rfl (decide_eq_false hg_2) rfl) ?_
        refine RT.nil ?_
        exact ⟨⟨rfl, rfl, rfl, rfl, rfl, rfl, congrArg some (congrArg Value.bool (by simp [hg_1, hg_2])), trivial⟩, hs_1⟩
  · rintro L' w_2 ⟨hw_1, hs_2⟩
    refine CW.weaken _ hw_1 ?_
    refine CW.condD rfl (fun hc_1 => ?_) (fun hc_1 => ?_)
    · refine CW.seq ?_
      refine CW.region ?_
      refine RT.ev rfl rfl (Ev.move rfl) <| RT.ev rfl rfl (Ev.nilCheck rfl) <| RT.ev rfl rfl (Ev.fieldAddr fld150_1 rfl rfl) ?_
      refine RT.eff rfl rfl (OpE.storeObj one4 hs_2 (i := 0) rfl rfl rfl (rfl) rfl fun w_3 hs_3 hch_1 => ?_)
      have hs_3d : Sat w0 ([cObj g 150 [bv, (Value.bool false)]] ++ cs) _ := hs_3
      refine RT.nil ?_
      refine CW.seq ?_
      refine CW.region ?_
      refine RT.ev rfl rfl (Ev.assign rfl) ?_
      refine RT.nil ?_
      refine CW.ret ?_
      show PostK _ _ _ _ _ _
      refine post1 rfl rfl ?_
      have hN : numN ok bl lim = (0, false, bl) := by rw [numN, if_pos (by simpa [or_assoc] using hc_1)]
      exact ⟨by rw [hN]; rfl, _, by rw [hN]; exact hb, by rw [hN]; exact hs_3d⟩
    · refine CW.skip ?_
      refine CW.seq ?_
      have hule := uvR_le bl
      refine CW.region ?_
      refine RT.ev rfl rfl (Ev.move rfl) <| RT.ev rfl rfl (Ev.move rfl) <| RT.ev rfl rfl (Ev.nilCheck rfl) <| RT.ev rfl rfl (Ev.fieldAddr fld150_0 rfl rfl) <| RT.ev rfl rfl (Ev.load scal40 rfl (hs_2.cell (i := 0) (j := 0) rfl rfl)) <| RT.ev rfl rfl (Ev.move rfl) <| RT.ev rfl rfl (Ev.sliceL (E := encN .u8) (a := (uvR bl).2.1) (c := (bl).length) sl40 rfl (hb.ext hs_2.ext) ⟨_, rfl⟩ rfl (hule) (Nat.le_refl _)) <| RT.ev rfl rfl (Ev.nilCheck rfl) <| RT.ev rfl rfl (Ev.fieldAddr fld150_0 rfl rfl) ?_
      refine RT.eff rfl rfl (OpE.storeObj one40 hs_2 (i := 0) rfl rfl rfl ((((hb.ext hs_2.ext)).sub (a := (uvR bl).2.1) (b := (bl).length) (hule) (Nat.le_refl _)).oneCell) rfl fun w_4 hs_4 hch_2 => ?_)
      have hs_4d : Sat w0 ([cObj g 150 [(subSl (encN .u8).s bv ((uvR bl).2.1) ((bl).length)), (Value.bool ok)]] ++ cs) _ := hs_4
      refine RT.nil ?_
      refine CW.seq ?_
      have hlv : (uvR bl).1 ≤ lim := Nat.le_of_not_lt fun h => hc_1 (by simp [h])
      refine CW.region ?_
      refine RT.ev rfl rfl (Ev.move rfl) <| RT.ev rfl rfl (Ev.convK (by rw [Try.underlying108]; rfl) Try.underlying3 rfl (wrap_i (by omega))) <| RT.ev rfl rfl (Ev.assign rfl) ?_
      refine RT.nil ?_
      refine CW.ret ?_
      show PostK _ _ _ _ _ _
      refine post1 rfl rfl ?_
      have hN : numN ok bl lim = ((uvR bl).1, true, bl.drop (uvR bl).2.1) := by rw [numN, if_neg (by simpa [or_assoc] using hc_1)]
      have hok : ok = true := by cases ok <;> simp_all
      subst hok
      refine ⟨by rw [hN], _, ?_, by rw [hN]; exact hs_4d⟩
      rw [hN]
      have hsub := hb.sub (a := (uvR bl).2.1) (b := bl.length) (uvR_le bl) (Nat.le_refl _)
      rw [List.take_length] at hsub
      exact hsub

theorem tnum_ok (w0 w : World) (cs : List Chunk) (g : Nat) (bv : Value) (ok : Bool) (bl : List Nat) (lim : Nat) (hs : Sat w0 ([cObj g 86 [bv, .bool ok]] ++ cs) w) (hb : RdL w0 bv (encN .u8) bl) (hbb : ∀ x ∈ bl, x < 256) (hn : bl.length ≤ 1000000000) (hlim : lim ≤ 1000000000000) :
    CallsV Try.prog 104 [(Value.pointer (some ⟨g, 0, none⟩)), (Value.int .i64 ((lim : Nat) : Int))] w fun r w' => r = .int .i64 ((numN ok bl lim).1 : Nat) ∧ ∃ bv', RdL w0 bv' (encN .u8) (numN ok bl lim).2.2 ∧ Sat w0 ([cObj g 86 [bv', .bool (numN ok bl lim).2.1]] ++ cs) w' := by
  refine callsV_of Try.func104 rfl rfl ?_
  refine CW.seq ?_
  refine CW.region ?_
  refine RT.ev rfl rfl (Ev.assign rfl) ?_
  refine RT.nil ?_
  refine CW.seq ?_
  refine CW.region ?_
  refine RT.ev rfl rfl (Ev.move rfl) <| RT.ev rfl rfl (Ev.nilCheck rfl) <| RT.ev rfl rfl (Ev.fieldAddr fld86_0 rfl rfl) <| RT.ev rfl rfl (Ev.load scal40 rfl (hs.cell (i := 0) (j := 0) rfl rfl)) ?_
  refine RT.eff rfl rfl (OpE.call ent120 rfl ((uvarint_ok _ (bl) _ (hb.ext hs.ext) (hbb)).mono fun r_1 w_1 h_1 => ?_))
  obtain ⟨rfl, hp_1⟩ := h_1
  have hs_1 : Sat w0 ([cObj g 86 [bv, (Value.bool ok)]] ++ cs) _ := (hs.adds hp_1).mid
  refine RT.ev rfl rfl (Ev.move rfl) <| RT.ev rfl rfl (Ev.extract rfl rfl) <| RT.ev rfl rfl (Ev.extract rfl rfl) <| RT.ev rfl rfl (Ev.extract rfl rfl) <| RT.ev rfl rfl (Ev.assign rfl) <| RT.ev rfl rfl (Ev.assign rfl) <| RT.ev rfl rfl (Ev.assign rfl) ?_
  refine RT.nil ?_
  refine CW.seq ?_
  refine CW.seq ?_
  refine CW.mid (fun L' w' => Weak [(0, (Value.pointer (some ⟨g, 0, none⟩))), (1, (Value.int .i64 ((lim : Nat) : Int))), (4, (Value.int .i64 ((0 : Nat) : Int))), (5, (Value.int .u64 (((uvR bl).1 : Nat) : Int))), (6, (Value.int .i64 (((uvR bl).2.1 : Nat) : Int))), (7, (Value.int .i64 (((uvR bl).2.2 : Nat) : Int))), (31, (Value.bool (decide ((((!ok) = true) ∨ ((uvR bl).2.2 ≠ 0)) ∨ (lim < (uvR bl).1)))))] L' ∧ Sat w0 ([cObj g 86 [bv, (Value.bool ok)]] ++ cs) w') ?_ ?_
  · refine CW.region ?_
    refine RT.ev rfl rfl (Ev.move rfl) <| RT.ev rfl rfl (Ev.nilCheck rfl) <| RT.ev rfl rfl (Ev.fieldAddr fld86_1 rfl rfl) <| RT.ev rfl rfl (Ev.load scal4 rfl (hs_1.cell (i := 0) (j := 1) rfl rfl)) <| RT.ev rfl rfl (Ev.notB rfl) <| RT.ev rfl rfl (Ev.move rfl) ?_
    by_cases hg_1 : (!ok) = true
    · refine RT.no rfl rfl rfl (hg_1) rfl ?_
      refine RT.no rfl rfl rfl (hg_1) rfl ?_
      refine RT.ev rfl rfl (Ev.pickY rfl (hg_1) rfl) <| RT.ev rfl rfl (Ev.move rfl) ?_
      refine RT.no rfl rfl rfl (rfl) rfl ?_
      refine RT.no rfl rfl rfl (rfl) rfl ?_
      refine RT.no rfl rfl rfl (rfl) rfl ?_
      refine RT.no rfl rfl rfl (rfl) rfl ?_
      refine RT.ev rfl rfl (Ev.pickY rfl (rfl) rfl) ?_
      refine RT.nil ?_
      exact ⟨⟨rfl, rfl, rfl, rfl, rfl, rfl, congrArg some (congrArg Value.bool (by simp [hg_1])), trivial⟩, hs_1⟩
    · refine RT.yes rfl rfl rfl (by simpa using hg_1) ?_
      refine RT.ev rfl rfl (Ev.move rfl) ?_
      refine RT.yes rfl rfl rfl (by simpa using hg_1) ?_
      refine RT.ev rfl rfl (Ev.neqN (b := 0) rfl rfl) <| RT.ev rfl rfl (Ev.pickN rfl (by simpa using hg_1) rfl) <| RT.ev rfl rfl (Ev.move rfl) ?_
      by_cases hg_2 : (uvR bl).2.2 ≠ 0
      · refine RT.no rfl rfl rfl (decide_eq_true hg_2) rfl ?_
        refine RT.no rfl rfl rfl (decide_eq_true hg_2) rfl ?_
        refine RT.no rfl rfl rfl (decide_eq_true hg_2) rfl ?_
        refine RT.no rfl rfl rfl (decide_eq_true hg_2) rfl ?_
        refine RT.ev rfl rfl (Ev.pickY rfl (decide_eq_true hg_2) rfl) ?_
        refine RT.nil ?_
        exact ⟨⟨rfl, rfl, rfl, rfl, rfl, rfl, congrArg some (congrArg Value.bool (by simp [hg_1, hg_2])), trivial⟩, hs_1⟩
      · refine RT.yes rfl rfl rfl (decide_eq_false hg_2) ?_
        refine RT.ev rfl rfl (Ev.move rfl) ?_
        refine RT.yes rfl rfl rfl (decide_eq_false hg_2) ?_
        refine RT.ev rfl rfl (Ev.move rfl) ?_
        refine RT.yes rfl rfl rfl (decide_eq_false hg_2) ?_
        refine RT.ev rfl rfl (Ev.convK (by rw [Try.underlying3]; rfl) Try.underlying108 rfl (wrap_u rfl (by (try simp only [IntKind.bits]); omega))) ?_
        refine RT.yes rfl rfl rfl (decide_eq_false hg_2) ?_
        refine RT.ev rfl rfl (Ev.gtrN rfl rfl) <| RT.ev rfl rfl (Ev.pickN rfl (decide_eq_false hg_2) rfl) ?_
        refine RT.nil ?_
        exact ⟨⟨rfl, rfl, rfl, rfl, rfl, rfl, congrArg some (congrArg Value.bool (by simp [hg_1, hg_2])), trivial⟩, hs_1⟩
  · rintro L' w_2 ⟨hw_1, hs_2⟩
    refine CW.weaken _ hw_1 ?_
    refine CW.condD rfl (fun hc_1 => ?_) (fun hc_1 => ?_)
    · refine CW.seq ?_
      refine CW.region ?_
      refine RT.ev rfl rfl (Ev.move rfl) <| RT.ev rfl rfl (Ev.nilCheck rfl) <| RT.ev rfl rfl (Ev.fieldAddr fld86_1 rfl rfl) ?_
      refine RT.eff rfl rfl (OpE.storeObj one4 hs_2 (i := 0) rfl rfl rfl (rfl) rfl fun w_3 hs_3 hch_1 => ?_)
      have hs_3d : Sat w0 ([cObj g 86 [bv, (Value.bool false)]] ++ cs) _ := hs_3
      refine RT.nil ?_
      refine CW.seq ?_
      refine CW.region ?_
      refine RT.ev rfl rfl (Ev.assign rfl) ?_
      refine RT.nil ?_
      refine CW.ret ?_
      show PostK _ _ _ _ _ _
      refine post1 rfl rfl ?_
      have hN : numN ok bl lim = (0, false, bl) := by rw [numN, if_pos (by simpa [or_assoc] using hc_1)]
      exact ⟨by rw [hN]; rfl, _, by rw [hN]; exact hb, by rw [hN]; exact hs_3d⟩
    · refine CW.skip ?_
      refine CW.seq ?_
      have hule := uvR_le bl
      refine CW.region ?_
      refine RT.ev rfl rfl (Ev.move rfl) <| RT.ev rfl rfl (Ev.move rfl) <| RT.ev rfl rfl (Ev.nilCheck rfl) <| RT.ev rfl rfl (Ev.fieldAddr fld86_0 rfl rfl) <| RT.ev rfl rfl (Ev.load scal40 rfl (hs_2.cell (i := 0) (j := 0) rfl rfl)) <| RT.ev rfl rfl (Ev.move rfl) <| RT.ev rfl rfl (Ev.sliceL (E := encN .u8) (a := (uvR bl).2.1) (c := (bl).length) sl40 rfl (hb.ext hs_2.ext) ⟨_, rfl⟩ rfl (hule) (Nat.le_refl _)) <| RT.ev rfl rfl (Ev.nilCheck rfl) <| RT.ev rfl rfl (Ev.fieldAddr fld86_0 rfl rfl) ?_
      refine RT.eff rfl rfl (OpE.storeObj one40 hs_2 (i := 0) rfl rfl rfl ((((hb.ext hs_2.ext)).sub (a := (uvR bl).2.1) (b := (bl).length) (hule) (Nat.le_refl _)).oneCell) rfl fun w_4 hs_4 hch_2 => ?_)
      have hs_4d : Sat w0 ([cObj g 86 [(subSl (encN .u8).s bv ((uvR bl).2.1) ((bl).length)), (Value.bool ok)]] ++ cs) _ := hs_4
      refine RT.nil ?_
      refine CW.seq ?_
      have hlv : (uvR bl).1 ≤ lim := Nat.le_of_not_lt fun h => hc_1 (by simp [h])
      refine CW.region ?_
      refine RT.ev rfl rfl (Ev.move rfl) <| RT.ev rfl rfl (Ev.convK (by rw [Try.underlying108]; rfl) Try.underlying3 rfl (wrap_i (by omega))) <| RT.ev rfl rfl (Ev.assign rfl) ?_
      refine RT.nil ?_
      refine CW.ret ?_
      show PostK _ _ _ _ _ _
      refine post1 rfl rfl ?_
      have hN : numN ok bl lim = ((uvR bl).1, true, bl.drop (uvR bl).2.1) := by rw [numN, if_neg (by simpa [or_assoc] using hc_1)]
      have hok : ok = true := by cases ok <;> simp_all
      subst hok
      refine ⟨by rw [hN], _, ?_, by rw [hN]; exact hs_4d⟩
      rw [hN]
      have hsub := hb.sub (a := (uvR bl).2.1) (b := bl.length) (uvR_le bl) (Nat.le_refl _)
      rw [List.take_length] at hsub
      exact hsub

theorem rbit_ok (g : Nat) (v : Value) (l : List Nat) (a : Nat) (w : World) (hc : w.cell? ⟨g, 0, none⟩ = some v) (hv : RdL w v (encN .u8) l) (hb : ∀ x ∈ l, x < 256) (ha : a < 8 * l.length) (hn : l.length ≤ 1000000000) :
    CallsV Try.prog 204 [(Value.pointer (some ⟨g, 0, none⟩)), (Value.int .i64 ((a : Nat) : Int))] w fun r w' => r = .int .u64 (rb l a : Nat) ∧ Sat w [] w' := by
  have hs0 := Sat.start w
  refine callsV_of Try.func204 rfl rfl ?_
  refine CW.seq ?_
  refine CW.region ?_
  refine RT.ev rfl rfl (Ev.assign rfl) ?_
  refine RT.nil ?_
  refine CW.seq ?_
  obtain ⟨x, hx⟩ : ∃ x, l[a / 2 ^ 3]? = some x := ⟨_, List.getElem?_eq_getElem (by omega)⟩
  have hx256 := hb x (mem_of_get hx)
  have hxd := Nat.div_le_self x (2 ^ (7 - a % 2 ^ 3))
  refine CW.region ?_
  refine RT.ev rfl rfl (Ev.move rfl) <| RT.ev rfl rfl (Ev.nilCheck rfl) <| RT.ev rfl rfl (Ev.fieldAddr fld200_0 rfl rfl) <| RT.ev rfl rfl (Ev.load scal40 rfl (hs0.ext _ _ hc)) <| RT.ev rfl rfl (Ev.move rfl) <| RT.ev rfl rfl (Ev.shrN (b := 3) rfl rfl (by (try simp only [IntKind.bits]); omega)) <| RT.ev rfl rfl (Ev.idxL (E := encN .u8) sl40 rfl rfl (hv.ext hs0.ext) (by omega)) <| RT.ev rfl rfl (Ev.ldL (E := encN .u8) scal5 rfl (hv.ext hs0.ext) hx (by decide) rfl) <| RT.ev rfl rfl (Ev.move rfl) <| RT.ev rfl rfl (Ev.maskI (b := 7) 3 rfl rfl (by decide) (by omega) (by decide)) <| RT.ev rfl rfl (Ev.subI (a := 7) rfl rfl (by omega) (by omega)) <| RT.ev rfl rfl (Ev.shrN rfl rfl (by (try simp only [IntKind.bits]); omega)) <| RT.ev rfl rfl (Ev.convK (by rw [Try.underlying5]; rfl) Try.underlying108 rfl (wrap_u rfl (by (try simp only [IntKind.bits]); omega))) <| RT.ev rfl rfl (Ev.maskN (b := 1) 1 rfl rfl rfl (by decide) (by (try simp only [IntKind.bits]); omega) (by decide)) <| RT.ev rfl rfl (Ev.assign rfl) ?_
  refine RT.nil ?_
  refine CW.ret ?_
  show PostK _ _ _ _ _ _
  refine post1 rfl rfl ?_
  refine ⟨?_, hs0⟩
  have hd : l.getD (a / 8) 0 = x := getD_some hx
  rw [rb, hd]

theorem rtake_ok (g : Nat) (v : Value) (l : List Nat) (N a m : Nat) (w : World) (hc : w.cell? ⟨g, 0, none⟩ = some v) (hc1 : w.cell? ⟨g, 1, none⟩ = some (.int .i64 (N : Int))) (hv : RdL w v (encN .u8) l) (hb : ∀ x ∈ l, x < 256) (hN : N ≤ 8 * l.length) (hn : l.length ≤ 1000000000) (hm : m ≤ 63) (ham : a + m ≤ N) :
    CallsV Try.prog 194 [(Value.pointer (some ⟨g, 0, none⟩)), (Value.int .i64 ((a : Nat) : Int)), (Value.int .i64 ((m : Nat) : Int))] w fun r w' => r = .tuple #[.int .u64 (bvN l a m : Nat), .bool true] ∧ Sat w [] w' := by
  have hs0 := Sat.start w
  refine callsV_of Try.func194 rfl rfl ?_
  refine CW.seq ?_
  refine CW.region ?_
  refine RT.ev rfl rfl (Ev.assign rfl) <| RT.ev rfl rfl (Ev.assign rfl) ?_
  refine RT.nil ?_
  refine CW.seq ?_
  refine CW.seq ?_
  refine CW.region ?_
  refine RT.ev rfl rfl (Ev.move rfl) <| RT.ev rfl rfl (Ev.nilCheck rfl) <| RT.ev rfl rfl (Ev.fieldAddr fld202_0 rfl rfl) ?_
  refine RT.eff rfl rfl (OpE.call ent176 rfl ((wsize_ok _ (N) _ (hs0.ext _ _ hc1)).mono fun r_1 w_1 h_1 => ?_))
  obtain ⟨rfl, hp_1⟩ := h_1
  have hs_1 : Sat w [] _ := hs0.adds hp_1
  refine RT.ev rfl rfl (Ev.move rfl) <| RT.ev rfl rfl (Ev.subI rfl rfl (by omega) (by omega)) <| RT.ev rfl rfl (Ev.move rfl) <| RT.ev rfl rfl (Ev.lssN rfl rfl) ?_
  refine RT.nil ?_
  refine CW.condF rfl (decide_eq_false (by omega)) ?_
  refine CW.skip ?_
  refine CW.seq ?_
  refine CW.region ?_
  refine RT.ev rfl rfl (Ev.assign rfl) ?_
  refine RT.nil ?_
  refine CW.seq ?_
  refine CW.seq ?_
  refine CW.region ?_
  refine RT.ev rfl rfl (Ev.move rfl) <| RT.ev rfl rfl (Ev.move rfl) ?_
  refine RT.nil ?_
  refine CW.block ?_
  refine CW.loop (α := Nat) (fun k => [(0, (Value.pointer (some ⟨g, 0, none⟩))), (1, (Value.int .i64 ((a : Nat) : Int))), (8, (Value.int .u64 (((bvN l a k) : Nat) : Int))), (18, (Value.int .i64 ((m : Nat) : Int))), (19, (Value.int .i64 ((k : Nat) : Int)))]) (fun k w' => Sat w [] w' ∧ (k ≤ m)) (fun k => m - k) 0 ⟨rfl, rfl, rfl, rfl, rfl, trivial⟩ ⟨hs_1, Nat.zero_le _⟩ ?_
  rintro k w_2 ⟨hs_2, hk⟩
  show CW _ _ _ _ [(0, (Value.pointer (some ⟨g, 0, none⟩))), (1, (Value.int .i64 ((a : Nat) : Int))), (8, (Value.int .u64 (((bvN l a k) : Nat) : Int))), (18, (Value.int .i64 ((m : Nat) : Int))), (19, (Value.int .i64 ((k : Nat) : Int)))] _
  refine CW.seq ?_
  refine CW.region ?_
  refine RT.ev rfl rfl (Ev.lssN rfl rfl) ?_
  refine RT.nil ?_
  refine CW.seq ?_
  refine CW.condD rfl (fun hc_1 => ?_) (fun hc_1 => ?_)
  · refine CW.skip ?_
    refine CW.seq ?_
    refine CW.block ?_
    refine CW.seq ?_
    refine CW.region ?_
    refine RT.ev rfl rfl (Ev.move rfl) <| RT.ev rfl rfl (Ev.assign rfl) ?_
    refine RT.nil ?_
    have hbl := bvN_lt l a k
    have hp63 : 2 ^ k ≤ 2 ^ 62 := Nat.pow_le_pow_right (by decide) (by omega)
    have hrl := rb_lt l (a + k)
    have hor := or_one (v := bvN l a k) hrl (by omega)
    refine CW.region ?_
    refine RT.ev rfl rfl (Ev.move rfl) <| RT.ev rfl rfl (Ev.shlN (b := 1) rfl rfl rfl (by (try simp only [IntKind.bits]); omega)) <| RT.ev rfl rfl (Ev.move rfl) <| RT.ev rfl rfl (Ev.nilCheck rfl) <| RT.ev rfl rfl (Ev.fieldAddr fld202_0 rfl rfl) <| RT.ev rfl rfl (Ev.move rfl) <| RT.ev rfl rfl (Ev.move rfl) <| RT.ev rfl rfl (Ev.addI rfl rfl (by omega)) ?_
    refine RT.eff rfl rfl (OpE.call ent204 rfl ((rbit_ok _ _ (l) ((a + k)) _ (hs_2.ext _ _ hc) (hv.ext hs_2.ext) (hb) (by omega) (hn)).mono fun r_2 w_3 h_2 => ?_))
    obtain ⟨rfl, hp_2⟩ := h_2
    have hs_3 : Sat w [] _ := hs_2.adds hp_2
    refine RT.ev rfl rfl (Ev.orN rfl rfl rfl (by (try simp only [IntKind.bits]); omega) (by (try simp only [IntKind.bits]); omega)) <| RT.ev rfl rfl (Ev.assign rfl) ?_
    refine RT.nil ?_
    refine CW.region ?_
    refine RT.ev rfl rfl (Ev.addI (b := 1) rfl rfl (by omega)) <| RT.ev rfl rfl (Ev.move rfl) ?_
    refine RT.nil ?_
    exact ⟨k + 1, ⟨rfl, rfl, congrArg some (congrArg (Value.int .u64) (congrArg (fun (q : Nat) => (q : Int)) hor)), rfl, rfl, trivial⟩, ⟨hs_3, by omega⟩, (show (m - (k + 1)) < (m - k) from by omega)⟩
  · refine CW.exit0 ?_
    refine CW.seq ?_
    refine CW.region ?_
    refine RT.ev rfl rfl (Ev.move rfl) <| RT.ev rfl rfl (Ev.assign rfl) <| RT.ev rfl rfl (Ev.assign rfl) ?_
    refine RT.nil ?_
    refine CW.ret ?_
    show PostK _ _ _ _ _ _
    refine post2 rfl rfl rfl ?_
    rw [show k = m by omega]
    exact ⟨rfl, hs_2⟩

theorem rtake_no (g : Nat) (N a m : Nat) (w : World) (hc1 : w.cell? ⟨g, 1, none⟩ = some (.int .i64 (N : Int))) (hN : N ≤ 1000000000000) (ha : a ≤ N) (hm : m ≤ 63) (ham : N < a + m) :
    CallsV Try.prog 194 [(Value.pointer (some ⟨g, 0, none⟩)), (Value.int .i64 ((a : Nat) : Int)), (Value.int .i64 ((m : Nat) : Int))] w fun r w' => r = .tuple #[.int .u64 ((0 : Nat) : Int), .bool false] ∧ Sat w [] w' := by
  have hs0 := Sat.start w
  refine callsV_of Try.func194 rfl rfl ?_
  refine CW.seq ?_
  refine CW.region ?_
  refine RT.ev rfl rfl (Ev.assign rfl) <| RT.ev rfl rfl (Ev.assign rfl) ?_
  refine RT.nil ?_
  refine CW.seq ?_
  refine CW.seq ?_
  refine CW.region ?_
  refine RT.ev rfl rfl (Ev.move rfl) <| RT.ev rfl rfl (Ev.nilCheck rfl) <| RT.ev rfl rfl (Ev.fieldAddr fld202_0 rfl rfl) ?_
  refine RT.eff rfl rfl (OpE.call ent176 rfl ((wsize_ok _ (N) _ (hs0.ext _ _ hc1)).mono fun r_1 w_1 h_1 => ?_))
  obtain ⟨rfl, hp_1⟩ := h_1
  have hs_1 : Sat w [] _ := hs0.adds hp_1
  refine RT.ev rfl rfl (Ev.move rfl) <| RT.ev rfl rfl (Ev.subI rfl rfl (by omega) (by omega)) <| RT.ev rfl rfl (Ev.move rfl) <| RT.ev rfl rfl (Ev.lssN rfl rfl) ?_
  refine RT.nil ?_
  refine CW.condT rfl (decide_eq_true (by omega)) ?_
  refine CW.seq ?_
  refine CW.region ?_
  refine RT.ev rfl rfl (Ev.assign rfl) <| RT.ev rfl rfl (Ev.assign rfl) ?_
  refine RT.nil ?_
  refine CW.ret ?_
  show PostK _ _ _ _ _ _
  refine post2 rfl rfl rfl ?_
  exact ⟨rfl, hs_1⟩

theorem rbits_ok (w0 w : World) (cs : List Chunk) (g : Nat) (v : Value) (by_ : List Nat) (N pos m : Nat) (hs : Sat w0 ([cObj g 202 [v, .int .i64 (N : Int), .int .i64 (pos : Int)], cL v 5 (encN .u8) by_] ++ cs) w) (hb : ∀ x ∈ by_, x < 256) (hN : N ≤ 8 * by_.length) (hn : by_.length ≤ 1000000000) (hm : m ≤ 63) (ham : pos + m ≤ N) :
    CallsV Try.prog 167 [(Value.pointer (some ⟨g, 0, none⟩)), (Value.int .i64 ((m : Nat) : Int))] w fun r w' => r = .tuple #[.int .u64 (bvN by_ pos m : Nat), .int .i64 ((0 : Nat) : Int)] ∧ Sat w0 ([cObj g 202 [v, .int .i64 (N : Int), .int .i64 ((pos + m : Nat) : Int)], cL v 5 (encN .u8) by_] ++ cs) w' := by
  refine callsV_of Try.func167 rfl rfl ?_
  refine CW.seq ?_
  refine CW.region ?_
  refine RT.ev rfl rfl (Ev.assign rfl) <| RT.ev rfl rfl (Ev.assign rfl) ?_
  refine RT.nil ?_
  refine CW.seq ?_
  refine CW.seq ?_
  refine CW.mid (fun L' w' => Weak [(0, (Value.pointer (some ⟨g, 0, none⟩))), (1, (Value.int .i64 ((m : Nat) : Int))), (4, (Value.int .u64 ((0 : Nat) : Int))), (5, (Value.int .i64 ((0 : Nat) : Int))), (13, (Value.bool (decide ((m < 0) ∨ (64 < m)))))] L' ∧ Sat w0 ([cObj g 202 [v, (Value.int .i64 ((N : Nat) : Int)), (Value.int .i64 ((pos : Nat) : Int))], cL v 5 (encN .u8) (by_)] ++ cs) w') ?_ ?_
  · refine CW.region ?_
    refine RT.ev rfl rfl (Ev.move rfl) <| RT.ev rfl rfl (Ev.lssN (b := 0) rfl rfl) <| RT.ev rfl rfl (Ev.move rfl) ?_
    by_cases hg_1 : m < 0
    · refine RT.no rfl rfl rfl (decide_eq_true hg_1) rfl ?_
      refine RT.no rfl rfl rfl (decide_eq_true hg_1) rfl ?_
      refine RT.ev rfl rfl (Ev.pickY rfl (decide_eq_true hg_1) rfl) ?_
      refine RT.nil ?_
      exact ⟨⟨rfl, rfl, rfl, rfl, congrArg some (congrArg Value.bool (by simp [hg_1])), trivial⟩, hs⟩
    · refine RT.yes rfl rfl rfl (decide_eq_false hg_1) ?_
      refine RT.ev rfl rfl (Ev.move rfl) ?_
      refine RT.yes rfl rfl rfl (decide_eq_false hg_1) ?_
      refine RT.ev rfl rfl (Ev.gtrN (b := 64) rfl rfl) <| RT.ev rfl rfl (Ev.pickN rfl (decide_eq_false hg_1) rfl) ?_
      refine RT.nil ?_
      exact ⟨⟨rfl, rfl, rfl, rfl, congrArg some (congrArg Value.bool (by simp [hg_1])), trivial⟩, hs⟩
  · rintro L' w_1 ⟨hw_1, hs_1⟩
    refine CW.weaken _ hw_1 ?_
    refine CW.condF rfl (decide_eq_false (by omega)) ?_
    refine CW.skip ?_
    refine CW.seq ?_
    refine CW.region ?_
    refine RT.ev rfl rfl (Ev.move rfl) <| RT.ev rfl rfl (Ev.move rfl) <| RT.ev rfl rfl (Ev.nilCheck rfl) <| RT.ev rfl rfl (Ev.fieldAddr fld202_1 rfl rfl) <| RT.ev rfl rfl (Ev.load scal3 rfl (hs_1.cell (i := 0) (j := 2) rfl rfl)) <| RT.ev rfl rfl (Ev.move rfl) ?_
    refine RT.eff rfl rfl (OpE.call ent194 rfl ((rtake_ok _ _ (by_) (N) (pos) (m) _ (hs_1.cell (i := 0) (j := 0) rfl rfl) (hs_1.cell (i := 0) (j := 1) rfl rfl) (hs_1.rdL 1 rfl) (hb) (hN) (hn) (hm) (ham)).mono fun r_1 w_2 h_1 => ?_))
    obtain ⟨rfl, hp_1⟩ := h_1
    have hs_2 : Sat w0 ([cObj g 202 [v, (Value.int .i64 ((N : Nat) : Int)), (Value.int .i64 ((pos : Nat) : Int))], cL v 5 (encN .u8) (by_)] ++ cs) _ := (hs_1.adds hp_1).mid
    refine RT.ev rfl rfl (Ev.move rfl) <| RT.ev rfl rfl (Ev.extract rfl rfl) <| RT.ev rfl rfl (Ev.extract rfl rfl) <| RT.ev rfl rfl (Ev.assign rfl) <| RT.ev rfl rfl (Ev.assign rfl) ?_
    refine RT.nil ?_
    refine CW.seq ?_
    refine CW.seq ?_
    refine CW.region ?_
    refine RT.ev rfl rfl (Ev.move rfl) <| RT.ev rfl rfl (Ev.notB rfl) ?_
    refine RT.nil ?_
    refine CW.condF rfl (rfl) ?_
    refine CW.skip ?_
    refine CW.seq ?_
    refine CW.region ?_
    refine RT.ev rfl rfl (Ev.move rfl) <| RT.ev rfl rfl (Ev.nilCheck rfl) <| RT.ev rfl rfl (Ev.fieldAddr fld202_1 rfl rfl) <| RT.ev rfl rfl (Ev.load scal3 rfl (hs_2.cell (i := 0) (j := 2) rfl rfl)) <| RT.ev rfl rfl (Ev.move rfl) <| RT.ev rfl rfl (Ev.addI rfl rfl (by omega)) <| RT.ev rfl rfl (Ev.nilCheck rfl) <| RT.ev rfl rfl (Ev.fieldAddr fld202_1 rfl rfl) ?_
    refine RT.eff rfl rfl (OpE.storeObj one3 hs_2 (i := 0) rfl rfl rfl (rfl) rfl fun w_3 hs_3 hch_1 => ?_)
    have hs_3d : Sat w0 ([cObj g 202 [v, (Value.int .i64 ((N : Nat) : Int)), (Value.int .i64 (((pos + m) : Nat) : Int))], cL v 5 (encN .u8) (by_)] ++ cs) _ := hs_3
    refine RT.nil ?_
    refine CW.seq ?_
    refine CW.region ?_
    refine RT.ev rfl rfl (Ev.move rfl) <| RT.ev rfl rfl (Ev.assign rfl) <| RT.ev rfl rfl (Ev.assign rfl) ?_
    refine RT.nil ?_
    refine CW.ret ?_
    show PostK _ _ _ _ _ _
    refine post2 rfl rfl rfl ?_
    exact ⟨rfl, hs_3d⟩

theorem rbits_no (w0 w : World) (cs : List Chunk) (g : Nat) (v : Value) (by_ : List Nat) (N pos m : Nat) (hs : Sat w0 ([cObj g 202 [v, .int .i64 (N : Int), .int .i64 (pos : Int)], cL v 5 (encN .u8) by_] ++ cs) w) (hb : ∀ x ∈ by_, x < 256) (hN : N ≤ 8 * by_.length) (hn : by_.length ≤ 1000000000) (hm : m ≤ 63) (hp : pos ≤ N) (ham : N < pos + m) :
    CallsV Try.prog 167 [(Value.pointer (some ⟨g, 0, none⟩)), (Value.int .i64 ((m : Nat) : Int))] w fun r w' => r = .tuple #[.int .u64 ((0 : Nat) : Int), .int .i64 ((10 : Nat) : Int)] ∧ Sat w0 ([cObj g 202 [v, .int .i64 (N : Int), .int .i64 (pos : Int)], cL v 5 (encN .u8) by_] ++ cs) w' := by
  refine callsV_of Try.func167 rfl rfl ?_
  refine CW.seq ?_
  refine CW.region ?_
  refine RT.ev rfl rfl (Ev.assign rfl) <| RT.ev rfl rfl (Ev.assign rfl) ?_
  refine RT.nil ?_
  refine CW.seq ?_
  refine CW.seq ?_
  refine CW.mid (fun L' w' => Weak [(0, (Value.pointer (some ⟨g, 0, none⟩))), (1, (Value.int .i64 ((m : Nat) : Int))), (4, (Value.int .u64 ((0 : Nat) : Int))), (5, (Value.int .i64 ((0 : Nat) : Int))), (13, (Value.bool (decide ((m < 0) ∨ (64 < m)))))] L' ∧ Sat w0 ([cObj g 202 [v, (Value.int .i64 ((N : Nat) : Int)), (Value.int .i64 ((pos : Nat) : Int))], cL v 5 (encN .u8) (by_)] ++ cs) w') ?_ ?_
  · refine CW.region ?_
    refine RT.ev rfl rfl (Ev.move rfl) <| RT.ev rfl rfl (Ev.lssN (b := 0) rfl rfl) <| RT.ev rfl rfl (Ev.move rfl) ?_
    by_cases hg_1 : m < 0
    · refine RT.no rfl rfl rfl (decide_eq_true hg_1) rfl ?_
      refine RT.no rfl rfl rfl (decide_eq_true hg_1) rfl ?_
      refine RT.ev rfl rfl (Ev.pickY rfl (decide_eq_true hg_1) rfl) ?_
      refine RT.nil ?_
      exact ⟨⟨rfl, rfl, rfl, rfl, congrArg some (congrArg Value.bool (by simp [hg_1])), trivial⟩, hs⟩
    · refine RT.yes rfl rfl rfl (decide_eq_false hg_1) ?_
      refine RT.ev rfl rfl (Ev.move rfl) ?_
      refine RT.yes rfl rfl rfl (decide_eq_false hg_1) ?_
      refine RT.ev rfl rfl (Ev.gtrN (b := 64) rfl rfl) <| RT.ev rfl rfl (Ev.pickN rfl (decide_eq_false hg_1) rfl) ?_
      refine RT.nil ?_
      exact ⟨⟨rfl, rfl, rfl, rfl, congrArg some (congrArg Value.bool (by simp [hg_1])), trivial⟩, hs⟩
  · rintro L' w_1 ⟨hw_1, hs_1⟩
    refine CW.weaken _ hw_1 ?_
    refine CW.condF rfl (decide_eq_false (by omega)) ?_
    refine CW.skip ?_
    refine CW.seq ?_
    refine CW.region ?_
    refine RT.ev rfl rfl (Ev.move rfl) <| RT.ev rfl rfl (Ev.move rfl) <| RT.ev rfl rfl (Ev.nilCheck rfl) <| RT.ev rfl rfl (Ev.fieldAddr fld202_1 rfl rfl) <| RT.ev rfl rfl (Ev.load scal3 rfl (hs_1.cell (i := 0) (j := 2) rfl rfl)) <| RT.ev rfl rfl (Ev.move rfl) ?_
    refine RT.eff rfl rfl (OpE.call ent194 rfl ((rtake_no _ (N) (pos) (m) _ (hs_1.cell (i := 0) (j := 1) rfl rfl) (by omega) (hp) (by omega) (ham)).mono fun r_1 w_2 h_1 => ?_))
    obtain ⟨rfl, hp_1⟩ := h_1
    have hs_2 : Sat w0 ([cObj g 202 [v, (Value.int .i64 ((N : Nat) : Int)), (Value.int .i64 ((pos : Nat) : Int))], cL v 5 (encN .u8) (by_)] ++ cs) _ := (hs_1.adds hp_1).mid
    refine RT.ev rfl rfl (Ev.move rfl) <| RT.ev rfl rfl (Ev.extract rfl rfl) <| RT.ev rfl rfl (Ev.extract rfl rfl) <| RT.ev rfl rfl (Ev.assign rfl) <| RT.ev rfl rfl (Ev.assign rfl) ?_
    refine RT.nil ?_
    refine CW.seq ?_
    refine CW.seq ?_
    refine CW.region ?_
    refine RT.ev rfl rfl (Ev.move rfl) <| RT.ev rfl rfl (Ev.notB rfl) ?_
    refine RT.nil ?_
    refine CW.condT rfl (rfl) ?_
    refine CW.seq ?_
    refine CW.region ?_
    refine RT.ev rfl rfl (Ev.assign rfl) <| RT.ev rfl rfl (Ev.assign rfl) ?_
    refine RT.nil ?_
    refine CW.ret ?_
    show PostK _ _ _ _ _ _
    refine post2 rfl rfl rfl ?_
    exact ⟨rfl, hs_2⟩

theorem rpos_ok (g m : Nat) (w : World) (hc : w.cell? ⟨g, 2, none⟩ = some (.int .i64 (m : Int))) :
    CallsV Try.prog 130 [(Value.pointer (some ⟨g, 0, none⟩))] w fun r w' => r = .int .i64 (m : Int) ∧ Sat w [] w' := by
  have hs0 := Sat.start w
  refine callsV_of Try.func130 rfl rfl ?_
  refine CW.seq ?_
  refine CW.region ?_
  refine RT.ev rfl rfl (Ev.assign rfl) ?_
  refine RT.nil ?_
  refine CW.seq ?_
  refine CW.region ?_
  refine RT.ev rfl rfl (Ev.move rfl) <| RT.ev rfl rfl (Ev.nilCheck rfl) <| RT.ev rfl rfl (Ev.fieldAddr fld202_1 rfl rfl) <| RT.ev rfl rfl (Ev.load scal3 rfl (hs0.ext _ _ hc)) <| RT.ev rfl rfl (Ev.assign rfl) ?_
  refine RT.nil ?_
  refine CW.ret ?_
  show PostK _ _ _ _ _ _
  refine post1 rfl rfl ?_
  exact ⟨rfl, hs0⟩

theorem newReader_ok (v : Value) (l : List Nat) (m : Nat) (w : World) (hv : RdL w v (encN .u8) l) (hm : m ≤ 8 * l.length) (hn : l.length ≤ 1000000000) :
    CallsV Try.prog 127 [v, (Value.int .i64 ((m : Nat) : Int))] w fun r w' => ∃ g bv, r = .tuple #[.pointer (some ⟨g, 0, none⟩), .int .i64 ((0 : Nat) : Int)] ∧ Sat w [cObj g 202 [bv, .int .i64 (m : Int), .int .i64 ((0 : Nat) : Int)], cL bv 5 (encN .u8) (l.take ((m + 7) / 8))] w' := by
  have hs0 := Sat.start w
  refine callsV_of Try.func127 rfl rfl ?_
  refine CW.seq ?_
  refine CW.region ?_
  refine RT.ev rfl rfl (Ev.assign rfl) <| RT.ev rfl rfl (Ev.assign rfl) ?_
  refine RT.nil ?_
  refine CW.seq ?_
  refine CW.seq ?_
  refine CW.mid (fun L' w' => Weak [(0, v), (1, (Value.int .i64 ((m : Nat) : Int))), (4, (Value.pointer none)), (5, (Value.int .i64 ((0 : Nat) : Int))), (14, (Value.bool (decide ((m < 0) ∨ ((8 * l.length) < m)))))] L' ∧ Sat w [] w') ?_ ?_
  · refine CW.region ?_
    refine RT.ev rfl rfl (Ev.move rfl) <| RT.ev rfl rfl (Ev.lssN (b := 0) rfl rfl) <| RT.ev rfl rfl (Ev.move rfl) ?_
    by_cases hg_1 : m < 0
    · refine RT.no rfl rfl rfl (decide_eq_true hg_1) rfl ?_
      refine RT.no rfl rfl rfl (decide_eq_true hg_1) rfl ?_
      refine RT.no rfl rfl rfl (decide_eq_true hg_1) rfl ?_
      refine RT.no rfl rfl rfl (decide_eq_true hg_1) rfl ?_
      refine RT.no rfl rfl rfl (decide_eq_true hg_1) rfl ?_
      refine RT.ev rfl rfl (Ev.pickY rfl (decide_eq_true hg_1) rfl) ?_
      refine RT.nil ?_
      exact ⟨⟨rfl, rfl, rfl, rfl, congrArg some (congrArg Value.bool (by simp [hg_1])), trivial⟩, hs0⟩
    · refine RT.yes rfl rfl rfl (decide_eq_false hg_1) ?_
      refine RT.ev rfl rfl (Ev.move rfl) ?_
      refine RT.yes rfl rfl rfl (decide_eq_false hg_1) ?_
      refine RT.ev rfl rfl (Ev.move rfl) ?_
      refine RT.yes rfl rfl rfl (decide_eq_false hg_1) ?_
      refine RT.ev rfl rfl (Ev.lenL Try.underlying40 rfl (hv.ext hs0.ext)) ?_
      refine RT.yes rfl rfl rfl (decide_eq_false hg_1) ?_
      refine RT.ev rfl rfl (Ev.mulI (a := 8) rfl rfl (by omega)) ?_
      refine RT.yes rfl rfl rfl (decide_eq_false hg_1) ?_
      refine RT.ev rfl rfl (Ev.gtrN rfl rfl) <| RT.ev rfl rfl (Ev.pickN rfl (decide_eq_false hg_1) rfl) ?_
      refine RT.nil ?_
      exact ⟨⟨rfl, rfl, rfl, rfl, congrArg some (congrArg Value.bool (by simp [hg_1])), trivial⟩, hs0⟩
  · rintro L' w_1 ⟨hw_1, hs_1⟩
    refine CW.weaken _ hw_1 ?_
    refine CW.condF rfl (decide_eq_false (by omega)) ?_
    refine CW.skip ?_
    refine CW.seq ?_
    refine CW.region ?_
    refine RT.eff rfl rfl (OpE.lit0 (encN .u8) sl40 hs_1 fun v_1 w_2 hs_2 hch_1 => ?_)
    have hs_2d : Sat w [cL v_1 5 (encN .u8) ([])] _ := hs_2
    refine RT.ev rfl rfl (Ev.move rfl) <| RT.ev rfl rfl (Ev.move rfl) <| RT.ev rfl rfl (Ev.addI (b := 7) rfl rfl (by omega)) <| RT.ev rfl rfl (Ev.quo (b := 8) rfl rfl (by omega) (by unfold inI64; omega)) <| RT.ev rfl rfl (Ev.sliceL (E := encN .u8) (a := 0) (c := ((m + 7) / 8)) sl40 rfl (hv.ext hs_2d.ext) rfl ⟨_, rfl⟩ (by omega) (by omega)) ?_
    refine RT.eff rfl rfl (OpE.appendL 0 sl40 hs_2d rfl rfl rfl Try.underlying40 (((hv.ext hs_2d.ext)).sub (a := 0) (b := ((m + 7) / 8)) (by omega) (by omega)) (by simp; omega) (by simp; omega) fun v_2 w_3 hs_3 hch_2 => ?_)
    have hs_3d : Sat w [cL v_2 5 (encN .u8) (((l).take ((m + 7) / 8)).drop 0)] _ := hs_3
    refine RT.ev rfl rfl (Ev.move rfl) <| RT.ev rfl rfl (Ev.build bt200 rfl ⟨(hs_3d.rdL 0 rfl).oneCell, rfl, trivial⟩ rfl) <| RT.ev rfl rfl (Ev.buildF bt202 rfl rfl) ?_
    refine RT.eff rfl rfl (OpE.box hs_3d rfl fun b_1 w_4 hs_4 hch_3 hb_1 => ?_)
    have hs_4d : Sat w [cL v_2 5 (encN .u8) (((l).take ((m + 7) / 8)).drop 0), cObj b_1 202 [v_2, (Value.int .i64 ((m : Nat) : Int)), (Value.int .i64 ((0 : Nat) : Int))]] _ := hs_4
    refine RT.ev rfl rfl (Ev.assign rfl) <| RT.ev rfl rfl (Ev.assign rfl) ?_
    refine RT.nil ?_
    refine CW.ret ?_
    show PostK _ _ _ _ _ _
    refine post2 rfl rfl rfl ?_
    have hs_5 : Sat w [cObj b_1 202 [v_2, (Value.int .i64 ((m : Nat) : Int)), (Value.int .i64 ((0 : Nat) : Int))], cL v_2 5 (encN .u8) (((l).take ((m + 7) / 8)).drop 0)] w_4 := ((Sat.order [1, 0] (by decide) hs_4d.tail).untail).sub ((.cons_cons _ (.cons_cons _ .slnil)))
    rw [show (l.take ((m + 7) / 8)).drop 0 = l.take ((m + 7) / 8) from rfl] at hs_5
    exact ⟨_, _, rfl, hs_5⟩

theorem beq_ok (v u : Value) (a b : List Nat) (w : World) (hv : RdL w v (encN .u8) a) (hu : RdL w u (encN .u8) b) (ha : ∀ x ∈ a, x < 256) (hb : ∀ x ∈ b, x < 256) :
    CallsV Try.prog 65 [v, u] w fun r w' => r = .bool (decide (a = b)) ∧ Sat w [] w' := by
  have hs0 := Sat.start w
  refine callsV_of Try.func65 rfl rfl ?_
  refine CW.seq ?_
  refine CW.region ?_
  refine RT.ev rfl rfl (Ev.assign rfl) ?_
  refine RT.nil ?_
  refine CW.seq ?_
  refine CW.region ?_
  refine RT.ev rfl rfl (Ev.move rfl) <| RT.ev rfl rfl (Ev.bytesStr Try.underlying40 Try.underlying9 Try.underlying5 rfl (hv.ext hs0.ext)) <| RT.ev rfl rfl (Ev.move rfl) <| RT.ev rfl rfl (Ev.bytesStr Try.underlying40 Try.underlying9 Try.underlying5 rfl (hu.ext hs0.ext)) <| RT.ev rfl rfl (Ev.strEql rfl rfl) <| RT.ev rfl rfl (Ev.assign rfl) ?_
  refine RT.nil ?_
  refine CW.ret ?_
  show PostK _ _ _ _ _ _
  refine post1 rfl rfl ?_
  refine ⟨congrArg Value.bool ?_, hs0⟩
  by_cases hab : a = b
  · subst hab; simp
  · rw [decide_eq_false hab, decide_eq_false fun h => hab ((strOf_inj ha hb).1 h)]

end Go.Proofs.Ytfhbflhnelbkfaa
