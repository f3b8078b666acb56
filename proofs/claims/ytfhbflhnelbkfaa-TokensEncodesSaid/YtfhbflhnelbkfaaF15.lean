/- The walks of the functions of F15, printed by our own program (kwgen.py) out of our descriptions (base.py). -/
import Derived.Test.YtfhbflhnelbkfaaM15
import Derived.Test.YtfhbflhnelbkfaaF02
import Derived.Test.YtfhbflhnelbkfaaTab
namespace Go.Proofs.Ytfhbflhnelbkfaa
open Go.RowKit Go.Kw
set_option maxRecDepth 100000
set_option linter.unusedVariables false
set_option linter.unusedSimpArgs false
theorem bcheck_ok (v : Value) (l : List Nat) (w : World) (hv : RdL w v (encN .i64) l) (hn : l.length ≤ 128) (hb : ∀ x ∈ l, x ≤ 2147483647) :
    CallsV Try.prog 131 [v] w fun r w' => r = .int .i64 0 ∧ Sat w [] w' := by
  have hs0 := Sat.start w
  refine callsV_of Try.func131 rfl rfl ?_
  refine CW.seq ?_
  refine CW.region ?_
  refine RT.ev rfl rfl (Ev.assign rfl) ?_
  refine RT.nil ?_
  refine CW.seq ?_
  refine CW.seq ?_
  refine CW.region ?_
  refine RT.ev rfl rfl (Ev.move rfl) <| RT.ev rfl rfl (Ev.lenL Try.underlying22 rfl (hv.ext hs0.ext)) <| RT.ev rfl rfl (Ev.gtrN (b := 128) rfl rfl) ?_
  refine RT.nil ?_
  refine CW.condF rfl (decide_eq_false (by omega)) ?_
  refine CW.skip ?_
  refine CW.seq ?_
  refine CW.seq ?_
  refine CW.region ?_
  refine RT.ev rfl rfl (Ev.move rfl) <| RT.ev rfl rfl (Ev.lenL Try.underlying22 rfl (hv.ext hs0.ext)) <| RT.ev rfl rfl (Ev.move rfl) ?_
  refine RT.nil ?_
  refine CW.block ?_
  refine CW.loop (α := Nat) (fun k => [(8, v), (9, (Value.int .i64 ((l.length : Nat) : Int))), (10, (Value.int .i64 ((k : Nat) : Int)))]) (fun k w' => Sat w [] w' ∧ (k ≤ l.length)) (fun k => l.length - k) 0 ⟨rfl, rfl, rfl, trivial⟩ ⟨hs0, Nat.zero_le _⟩ ?_
  rintro k w_1 ⟨hs_1, hk⟩
  show CW _ _ _ _ [(8, v), (9, (Value.int .i64 ((l.length : Nat) : Int))), (10, (Value.int .i64 ((k : Nat) : Int)))] _
  refine CW.seq ?_
  refine CW.region ?_
  refine RT.ev rfl rfl (Ev.lssN rfl rfl) ?_
  refine RT.nil ?_
  refine CW.seq ?_
  refine CW.condD rfl (fun hc_1 => ?_) (fun hc_1 => ?_)
  · refine CW.skip ?_
    refine CW.seq ?_
    refine CW.block ?_
    refine CW.seq ?_
    obtain ⟨x, hx⟩ : ∃ x, (l)[k]? = some x := ⟨_, List.getElem?_eq_getElem hc_1⟩
    refine CW.region ?_
    refine RT.ev rfl rfl (Ev.idxL (E := encN .i64) sl22 rfl rfl (hv.ext hs_1.ext) (by omega)) <| RT.ev rfl rfl (Ev.ldL (E := encN .i64) scal3 rfl (hv.ext hs_1.ext) hx (by decide) rfl) <| RT.ev rfl rfl (Ev.assign rfl) ?_
    refine RT.nil ?_
    refine CW.seq ?_
    refine CW.mid (fun L' w' => Weak [(4, (Value.int .i64 ((x : Nat) : Int))), (8, v), (9, (Value.int .i64 ((l.length : Nat) : Int))), (10, (Value.int .i64 ((k : Nat) : Int))), (11, (Value.bool (decide (k < l.length)))), (19, (Value.bool (decide ((x < 0) ∨ (2147483647 < x)))))] L' ∧ Sat w [] w') ?_ ?_
    · refine CW.region ?_
      refine RT.ev rfl rfl (Ev.move rfl) <| RT.ev rfl rfl (Ev.lssN (b := 0) rfl rfl) <| RT.ev rfl rfl (Ev.move rfl) ?_
      by_cases hg_1 : x < 0
      · refine RT.no rfl rfl rfl (decide_eq_true hg_1) rfl ?_
        refine RT.no rfl rfl rfl (decide_eq_true hg_1) rfl ?_
        refine RT.ev rfl rfl (Ev.pickY rfl (decide_eq_true hg_1) rfl) ?_
        refine RT.nil ?_
        exact ⟨⟨rfl, rfl, rfl, rfl, rfl, congrArg some (congrArg Value.bool (by simp [hg_1])), trivial⟩, hs_1⟩
      · refine RT.yes rfl rfl rfl (decide_eq_false hg_1) ?_
        refine RT.ev rfl rfl (Ev.move rfl) ?_
        refine RT.yes rfl rfl rfl (decide_eq_false hg_1) ?_
        refine RT.ev rfl rfl (Ev.gtrN (b := 2147483647) rfl rfl) <| RT.ev rfl rfl (Ev.pickN rfl (decide_eq_false hg_1) rfl) ?_
        refine RT.nil ?_
        exact ⟨⟨rfl, rfl, rfl, rfl, rfl, congrArg some (congrArg Value.bool (by simp [hg_1])), trivial⟩, hs_1⟩
    · rintro L' w_2 ⟨hw_1, hs_2⟩
      refine CW.weaken _ hw_1 ?_
      refine CW.condF rfl (decide_eq_false (by have := hb x (mem_of_get hx); omega)) ?_
      refine CW.skip ?_
      refine CW.region ?_
      refine RT.ev rfl rfl (Ev.addI (b := 1) rfl rfl (by omega)) <| RT.ev rfl rfl (Ev.move rfl) ?_
      refine RT.nil ?_
      exact ⟨k + 1, ⟨rfl, rfl, rfl, trivial⟩, ⟨hs_2, by omega⟩, (show (l.length - (k + 1)) < (l.length - k) from by omega)⟩
  · refine CW.exit0 ?_
    refine CW.seq ?_
    refine CW.region ?_
    refine RT.ev rfl rfl (Ev.assign rfl) ?_
    refine RT.nil ?_
    refine CW.ret ?_
    show PostK _ _ _ _ _ _
    refine post1 rfl rfl ?_
    exact ⟨rfl, hs_1⟩

theorem sizeOf_ok (x : Nat) (w : World) (hx : x < 2 ^ 63) :
    CallsV Try.prog 196 [(Value.int .i64 ((x : Nat) : Int))] w fun r w' => r = .int .i64 ((sizeN x : Nat) : Int) ∧ Sat w [] w' := by
  have hs0 := Sat.start w
  refine callsV_of Try.func196 rfl rfl ?_
  refine CW.seq ?_
  refine CW.region ?_
  refine RT.ev rfl rfl (Ev.assign rfl) ?_
  refine RT.nil ?_
  refine CW.seq ?_
  have hb := bitLen_le64 x
  refine CW.region ?_
  refine RT.ev rfl rfl (Ev.move rfl) <| RT.ev rfl rfl (Ev.convK (by rw [Try.underlying3]; rfl) Try.underlying108 rfl (wrap_u rfl (by (try simp only [IntKind.bits]); omega))) ?_
  refine RT.eff rfl rfl (OpE.call ent162 rfl ((len64_ok (x) _ (by omega)).mono fun r_1 w_1 h_1 => ?_))
  obtain ⟨rfl, hp_1⟩ := h_1
  have hs_1 : Sat w [] _ := hs0.adds hp_1
  refine RT.ev rfl rfl (Ev.maxN (b := 1) rfl rfl) <| RT.ev rfl rfl (Ev.addI (b := 6) rfl rfl (by omega)) <| RT.ev rfl rfl (Ev.quo (b := 7) rfl rfl (by omega) (by unfold inI64; omega)) <| RT.ev rfl rfl (Ev.assign rfl) ?_
  refine RT.nil ?_
  refine CW.ret ?_
  show PostK _ _ _ _ _ _
  refine post1 rfl rfl ?_
  exact ⟨rfl, hs_1⟩

theorem cost_ok (v : Value) (l : List Nat) (width : Nat) (w : World) (hv : RdL w v (encN .i64) l) (hn : l.length ≤ 4096) (hb : ∀ x ∈ l, x < 2 ^ 63) (hw : width ≤ 31) :
    CallsV Try.prog 170 [v, (Value.int .i64 ((width : Nat) : Int))] w fun r w' => r = .int .i64 ((costB width l : Nat) : Int) ∧ Sat w [] w' := by
  have hs0 := Sat.start w
  refine callsV_of Try.func170 rfl rfl ?_
  refine CW.seq ?_
  refine CW.region ?_
  refine RT.ev rfl rfl (Ev.assign rfl) ?_
  refine RT.nil ?_
  refine CW.seq ?_
  refine CW.region ?_
  refine RT.ev rfl rfl (Ev.assign rfl) <| RT.ev rfl rfl (Ev.assign rfl) <| RT.ev rfl rfl (Ev.assign rfl) ?_
  refine RT.nil ?_
  refine CW.seq ?_
  refine CW.seq ?_
  refine CW.region ?_
  refine RT.ev rfl rfl (Ev.move rfl) <| RT.ev rfl rfl (Ev.lenL Try.underlying22 rfl (hv.ext hs0.ext)) <| RT.ev rfl rfl (Ev.move rfl) ?_
  refine RT.nil ?_
  refine CW.block ?_
  refine CW.loop (α := Nat × Nat × Nat × Nat) (fun (k, n, c, b) => [(0, v), (1, (Value.int .i64 ((width : Nat) : Int))), (5, (Value.int .i64 ((n : Nat) : Int))), (6, (Value.int .i64 ((c : Nat) : Int))), (7, (Value.int .i64 ((((b : Nat) : Int) - 1)))), (11, v), (12, (Value.int .i64 ((l.length : Nat) : Int))), (13, (Value.int .i64 ((k : Nat) : Int)))]) (fun (k, n, c, b) w' => Sat w [] w' ∧ (k ≤ l.length) ∧ (costSt width (l.take k) = (k, n, c, b)) ∧ (n ≤ 20 * k) ∧ (c ≤ k) ∧ (b ≤ k)) (fun (k, n, c, b) => l.length - k) (0, 0, 0, 0) ⟨rfl, rfl, rfl, rfl, rfl, rfl, rfl, rfl, trivial⟩ ⟨hs0, Nat.zero_le _, rfl, Nat.le_refl _, Nat.le_refl _, Nat.le_refl _⟩ ?_
  rintro ⟨k, n, c, b⟩ w_1 ⟨hs_1, hk, hst, hnb, hcb, hbb⟩
  show CW _ _ _ _ [(0, v), (1, (Value.int .i64 ((width : Nat) : Int))), (5, (Value.int .i64 ((n : Nat) : Int))), (6, (Value.int .i64 ((c : Nat) : Int))), (7, (Value.int .i64 ((((b : Nat) : Int) - 1)))), (11, v), (12, (Value.int .i64 ((l.length : Nat) : Int))), (13, (Value.int .i64 ((k : Nat) : Int)))] _
  refine CW.seq ?_
  refine CW.region ?_
  refine RT.ev rfl rfl (Ev.lssN rfl rfl) ?_
  refine RT.nil ?_
  refine CW.seq ?_
  refine CW.condD rfl (fun hc_1 => ?_) (fun hc_1 => ?_)
  · refine CW.skip ?_
    refine CW.seq ?_
    refine CW.block ?_
    refine CW.seq ?_
    obtain ⟨x, hx⟩ : ∃ x, (l)[k]? = some x := ⟨_, List.getElem?_eq_getElem hc_1⟩
    refine CW.region ?_
    refine RT.ev rfl rfl (Ev.move rfl) <| RT.ev rfl rfl (Ev.idxL (E := encN .i64) sl22 rfl rfl (hv.ext hs_1.ext) (by omega)) <| RT.ev rfl rfl (Ev.ldL (E := encN .i64) scal3 rfl (hv.ext hs_1.ext) hx (by decide) rfl) <| RT.ev rfl rfl (Ev.assign rfl) <| RT.ev rfl rfl (Ev.assign rfl) ?_
    refine RT.nil ?_
    refine CW.seq ?_
    have hx64 := hb x (mem_of_get hx)
    have hxd := Nat.div_le_self x (2 ^ width)
    refine CW.region ?_
    refine RT.ev rfl rfl (Ev.move rfl) <| RT.ev rfl rfl (Ev.move rfl) <| RT.ev rfl rfl (Ev.shrN rfl rfl (by (try simp only [IntKind.bits]); omega)) <| RT.ev rfl rfl (Ev.assign rfl) ?_
    refine RT.nil ?_
    refine CW.seq ?_
    refine CW.region ?_
    refine RT.ev rfl rfl (Ev.move rfl) <| RT.ev rfl rfl (Ev.gtrN (b := 0) rfl rfl) ?_
    refine RT.nil ?_
    refine CW.condD rfl (fun hc_2 => ?_) (fun hc_2 => ?_)
    · refine CW.seq ?_
      have h8 := sizeN_le (k + 1 - b)
      have h9 := sizeN_le (x / 2 ^ width)
      refine CW.region ?_
      refine RT.ev rfl rfl (Ev.move rfl) <| RT.ev rfl rfl (Ev.move rfl) <| RT.ev rfl rfl (Ev.move rfl) <| RT.ev rfl rfl (Ev.subPred rfl rfl (by omega) (by omega)) ?_
      refine RT.eff rfl rfl (OpE.call ent196 rfl ((sizeOf_ok ((k + 1 - b)) _ (by omega)).mono fun r_1 w_2 h_1 => ?_))
      obtain ⟨rfl, hp_1⟩ := h_1
      have hs_2 : Sat w [] _ := hs_1.adds hp_1
      refine RT.ev rfl rfl (Ev.move rfl) ?_
      refine RT.eff rfl rfl (OpE.call ent196 rfl ((sizeOf_ok ((x / 2 ^ width)) _ (by omega)).mono fun r_2 w_3 h_2 => ?_))
      obtain ⟨rfl, hp_2⟩ := h_2
      have hs_3 : Sat w [] _ := hs_2.adds hp_2
      refine RT.ev rfl rfl (Ev.addI rfl rfl (by omega)) <| RT.ev rfl rfl (Ev.addI rfl rfl (by omega)) <| RT.ev rfl rfl (Ev.assign rfl) ?_
      refine RT.nil ?_
      refine CW.seq ?_
      refine CW.region ?_
      refine RT.ev rfl rfl (Ev.move rfl) <| RT.ev rfl rfl (Ev.assign rfl) ?_
      refine RT.nil ?_
      refine CW.region ?_
      refine RT.ev rfl rfl (Ev.move rfl) <| RT.ev rfl rfl (Ev.addI (b := 1) rfl rfl (by omega)) <| RT.ev rfl rfl (Ev.assign rfl) ?_
      refine RT.nil ?_
      refine CW.region ?_
      refine RT.ev rfl rfl (Ev.addI (b := 1) rfl rfl (by omega)) <| RT.ev rfl rfl (Ev.move rfl) ?_
      refine RT.nil ?_
      exact ⟨(k + 1, (n + ((sizeN ((k + 1 - b))) + (sizeN ((x / 2 ^ width))))), (c + 1), k + 1), ⟨rfl, rfl, rfl, rfl, congrArg some (congrArg (Value.int .i64) (by omega)), rfl, rfl, rfl, trivial⟩, ⟨hs_3, by omega, by rw [take_succ_of hx, costSt_snoc, hst]; simp [costStep, hc_2], by have h8 := sizeN_le (k + 1 - b); have h9 := sizeN_le (x / 2 ^ width); omega, by omega, by omega⟩, (show (l.length - (k + 1)) < (l.length - k) from by omega)⟩
    · refine CW.skip ?_
      refine CW.region ?_
      refine RT.ev rfl rfl (Ev.addI (b := 1) rfl rfl (by omega)) <| RT.ev rfl rfl (Ev.move rfl) ?_
      refine RT.nil ?_
      exact ⟨(k + 1, n, c, b), ⟨rfl, rfl, rfl, rfl, rfl, rfl, rfl, rfl, trivial⟩, ⟨hs_1, by omega, by rw [take_succ_of hx, costSt_snoc, hst]; simp [costStep, hc_2], by have h8 := sizeN_le (k + 1 - b); have h9 := sizeN_le (x / 2 ^ width); omega, by omega, by omega⟩, (show (l.length - (k + 1)) < (l.length - k) from by omega)⟩
  · refine CW.exit0 ?_
    refine CW.seq ?_
    have hmul : l.length * width ≤ 4096 * 31 := Nat.mul_le_mul hn hw
    have h1 := sizeN_le l.length
    have h2 := sizeN_le width
    have h3 := sizeN_le c
    refine CW.region ?_
    refine RT.ev rfl rfl (Ev.move rfl) <| RT.ev rfl rfl (Ev.move rfl) <| RT.ev rfl rfl (Ev.lenL Try.underlying22 rfl (hv.ext hs_1.ext)) ?_
    refine RT.eff rfl rfl (OpE.call ent196 rfl ((sizeOf_ok (l.length) _ (by omega)).mono fun r_3 w_4 h_3 => ?_))
    obtain ⟨rfl, hp_3⟩ := h_3
    have hs_4 : Sat w [] _ := hs_1.adds hp_3
    refine RT.ev rfl rfl (Ev.addI rfl rfl (by omega)) <| RT.ev rfl rfl (Ev.move rfl) ?_
    refine RT.eff rfl rfl (OpE.call ent196 rfl ((sizeOf_ok (width) _ (by omega)).mono fun r_4 w_5 h_4 => ?_))
    obtain ⟨rfl, hp_4⟩ := h_4
    have hs_5 : Sat w [] _ := hs_4.adds hp_4
    refine RT.ev rfl rfl (Ev.addI rfl rfl (by omega)) <| RT.ev rfl rfl (Ev.move rfl) ?_
    refine RT.eff rfl rfl (OpE.call ent196 rfl ((sizeOf_ok (c) _ (by omega)).mono fun r_5 w_6 h_5 => ?_))
    obtain ⟨rfl, hp_5⟩ := h_5
    have hs_6 : Sat w [] _ := hs_5.adds hp_5
    refine RT.ev rfl rfl (Ev.addI rfl rfl (by omega)) <| RT.ev rfl rfl (Ev.move rfl) <| RT.ev rfl rfl (Ev.lenL Try.underlying22 rfl (hv.ext hs_6.ext)) <| RT.ev rfl rfl (Ev.move rfl) <| RT.ev rfl rfl (Ev.mulI rfl rfl (by omega)) <| RT.ev rfl rfl (Ev.addI (b := 7) rfl rfl (by omega)) <| RT.ev rfl rfl (Ev.quo (b := 8) rfl rfl (by omega) (by unfold inI64; omega)) <| RT.ev rfl rfl (Ev.addI rfl rfl (by omega)) <| RT.ev rfl rfl (Ev.assign rfl) ?_
    refine RT.nil ?_
    refine CW.ret ?_
    show PostK _ _ _ _ _ _
    refine post1 rfl rfl ?_
    have hk2 : k = l.length := by omega
    refine ⟨?_, hs_6⟩
    unfold costB
    rw [show costSt width l = (k, n, c, b) by rw [← hst, hk2, List.take_length]]

theorem encode_ok (v : Value) (l : List Nat) (width : Nat) (w : World) (hv : RdL w v (encN .i64) l) (hn : l.length ≤ 4096) (hb : ∀ x ∈ l, x < 2 ^ 63) (hw : width ≤ 31) :
    CallsV Try.prog 132 [v, (Value.int .i64 ((width : Nat) : Int))] w fun r w' => Sat w [cL r 5 (encN .u8) (encBk width l)] w' := by
  have hs0 := Sat.start w
  refine callsV_of Try.func132 rfl rfl ?_
  refine CW.seq ?_
  refine CW.region ?_
  refine RT.ev rfl rfl (Ev.assign rfl) ?_
  refine RT.nil ?_
  refine CW.seq ?_
  refine CW.region ?_
  refine RT.eff rfl rfl (OpE.call ent138 rfl ((newWriter_ok _).mono fun r_1 w_1 h_1 => ?_))
  obtain ⟨b_1, rfl, hp_1⟩ := h_1
  have hs_1 : Sat w [cObj b_1 214 [(Value.slice none 0 0), (Value.int .i64 ((0 : Nat) : Int))], cL (Value.slice none 0 0) 5 (encN .u8) ([])] _ := hs0.adds hp_1
  refine RT.ev rfl rfl (Ev.assign rfl) ?_
  refine RT.nil ?_
  refine CW.seq ?_
  refine CW.region ?_
  refine RT.ev rfl rfl (Ev.assign rfl) ?_
  refine RT.nil ?_
  refine CW.seq ?_
  refine CW.region ?_
  refine RT.ev rfl rfl (Ev.assign rfl) <| RT.ev rfl rfl (Ev.assign rfl) ?_
  refine RT.nil ?_
  refine CW.seq ?_
  refine CW.seq ?_
  refine CW.region ?_
  refine RT.ev rfl rfl (Ev.move rfl) <| RT.ev rfl rfl (Ev.lenL Try.underlying22 rfl (hv.ext hs_1.ext)) <| RT.ev rfl rfl (Ev.move rfl) ?_
  refine RT.nil ?_
  refine CW.block ?_
  have hs_2 : Sat w [cObj b_1 214 [(Value.slice none 0 0), (Value.int .i64 ((0 : Nat) : Int))], cL (Value.slice none 0 0) 5 (encN .u8) ([]), cL (Value.slice none 0 0) 5 (encN .u8) ([])] _ := hs_1.newNilL 5 (encN .u8)
  refine CW.loop (α := Nat × Value × List Bool × Value × List Nat × Nat × Nat) (fun (k, wv, bits, ev, ex, c, b) => [(0, v), (1, (Value.int .i64 ((width : Nat) : Int))), (5, (Value.pointer (some ⟨b_1, 0, none⟩))), (6, ev), (7, (Value.int .i64 ((c : Nat) : Int))), (8, (Value.int .i64 ((((b : Nat) : Int) - 1)))), (14, v), (15, (Value.int .i64 ((l.length : Nat) : Int))), (16, (Value.int .i64 ((k : Nat) : Int)))]) (fun (k, wv, bits, ev, ex, c, b) w' => Sat w [cObj b_1 214 [wv, (Value.int .i64 (((bits).length : Nat) : Int))], cL wv 5 (encN .u8) (packB (bits)), cL ev 5 (encN .u8) (ex)] w' ∧ (k ≤ l.length) ∧ (encSt width (l.take k) = (k, bits, ex, c, b)) ∧ (bits.length ≤ 31 * k) ∧ (ex.length ≤ 20 * k) ∧ (c ≤ k) ∧ (b ≤ k)) (fun (k, wv, bits, ev, ex, c, b) => l.length - k) (0, (.slice none 0 0), [], (.slice none 0 0), [], 0, 0) ⟨rfl, rfl, rfl, rfl, rfl, rfl, rfl, rfl, rfl, trivial⟩ ⟨hs_2, Nat.zero_le _, rfl, by simp, by simp, Nat.le_refl _, Nat.le_refl _⟩ ?_
  rintro ⟨k, wv, bits, ev, ex, c, b⟩ w_2 ⟨hs_3, hk, hst, hbl, hel, hcb, hbb⟩
  show CW _ _ _ _ [(0, v), (1, (Value.int .i64 ((width : Nat) : Int))), (5, (Value.pointer (some ⟨b_1, 0, none⟩))), (6, ev), (7, (Value.int .i64 ((c : Nat) : Int))), (8, (Value.int .i64 ((((b : Nat) : Int) - 1)))), (14, v), (15, (Value.int .i64 ((l.length : Nat) : Int))), (16, (Value.int .i64 ((k : Nat) : Int)))] _
  refine CW.seq ?_
  refine CW.region ?_
  refine RT.ev rfl rfl (Ev.lssN rfl rfl) ?_
  refine RT.nil ?_
  refine CW.seq ?_
  refine CW.condD rfl (fun hc_1 => ?_) (fun hc_1 => ?_)
  · refine CW.skip ?_
    refine CW.seq ?_
    refine CW.block ?_
    refine CW.seq ?_
    obtain ⟨x, hx⟩ : ∃ x, (l)[k]? = some x := ⟨_, List.getElem?_eq_getElem hc_1⟩
    refine CW.region ?_
    refine RT.ev rfl rfl (Ev.move rfl) <| RT.ev rfl rfl (Ev.idxL (E := encN .i64) sl22 rfl rfl (hv.ext hs_3.ext) (by omega)) <| RT.ev rfl rfl (Ev.ldL (E := encN .i64) scal3 rfl (hv.ext hs_3.ext) hx (by decide) rfl) <| RT.ev rfl rfl (Ev.assign rfl) <| RT.ev rfl rfl (Ev.assign rfl) ?_
    refine RT.nil ?_
    refine CW.seq ?_
    have hx64 := hb x (mem_of_get hx)
    have hxd := Nat.div_le_self x (2 ^ width)
    have hp1 : 1 ≤ 2 ^ width := Nat.one_le_two_pow
    have hp2 : 2 ^ width ≤ 2 ^ 31 := Nat.pow_le_pow_right (by decide) hw
    refine CW.region ?_
    refine RT.ev rfl rfl (Ev.move rfl) <| RT.ev rfl rfl (Ev.move rfl) <| RT.ev rfl rfl (Ev.convK (by rw [Try.underlying3]; rfl) Try.underlying108 rfl (wrap_u rfl (by (try simp only [IntKind.bits]); omega))) <| RT.ev rfl rfl (Ev.move rfl) <| RT.ev rfl rfl (Ev.shlN (a := 1) rfl rfl rfl (by (try simp only [IntKind.bits]); omega)) <| RT.ev rfl rfl (Ev.subN (b := 1) rfl rfl rfl (by (try simp only [IntKind.bits]); omega) (by (try simp only [IntKind.bits]); omega)) <| RT.ev rfl rfl (Ev.maskN (width) rfl rfl rfl (by simp only [IntKind.bits]; rw [Nat.one_mul, Nat.mod_eq_of_lt (by omega)]) (by simp only [IntKind.bits]; omega) (by simp only [IntKind.bits]; omega)) <| RT.ev rfl rfl (Ev.move rfl) ?_
    have hA_1 : Sat w ([cObj b_1 214 [wv, (Value.int .i64 (((bits).length : Nat) : Int))], cL wv 5 (encN .u8) (packB (bits))] ++ ([cL ev 5 (encN .u8) (ex)] ++ [])) _ := (Sat.order [0, 1, 2] (by decide) hs_3.tail).cut 2
    refine RT.eff rfl rfl (OpE.call ent139 rfl ((wbits_ok _ _ _ _ _ (bits) ((x % 2 ^ width)) (width) hA_1 (Nat.mod_lt _ (by omega)) (by omega) (by omega)).mono fun r_2 w_3 h_2 => ?_))
    obtain ⟨rfl, wv_1, hp_2⟩ := h_2
    have hs_4 : Sat w [cObj b_1 214 [wv_1, (Value.int .i64 (((bits ++ lowB ((x % 2 ^ width)) (width)).length : Nat) : Int))], cL wv_1 5 (encN .u8) (packB (bits ++ lowB ((x % 2 ^ width)) (width))), cL ev 5 (encN .u8) (ex)] _ := (Sat.order [0, 1, 2] (by decide) hp_2.join).untail
    refine RT.nil ?_
    refine CW.seq ?_
    refine CW.region ?_
    refine RT.ev rfl rfl (Ev.move rfl) <| RT.ev rfl rfl (Ev.move rfl) <| RT.ev rfl rfl (Ev.shrN rfl rfl (by (try simp only [IntKind.bits]); omega)) <| RT.ev rfl rfl (Ev.assign rfl) ?_
    refine RT.nil ?_
    refine CW.seq ?_
    refine CW.region ?_
    refine RT.ev rfl rfl (Ev.move rfl) <| RT.ev rfl rfl (Ev.gtrN (b := 0) rfl rfl) ?_
    refine RT.nil ?_
    refine CW.condD rfl (fun hc_2 => ?_) (fun hc_2 => ?_)
    · refine CW.seq ?_
      refine CW.region ?_
      refine RT.ev rfl rfl (Ev.move rfl) <| RT.ev rfl rfl (Ev.move rfl) <| RT.ev rfl rfl (Ev.move rfl) <| RT.ev rfl rfl (Ev.subPred rfl rfl (by omega) (by omega)) <| RT.ev rfl rfl (Ev.convK (by rw [Try.underlying3]; rfl) Try.underlying108 rfl (wrap_u rfl (by (try simp only [IntKind.bits]); omega))) ?_
      refine RT.eff rfl rfl (OpE.call ent83 rfl ((put_ok ev (ex) ((k + 1 - b)) _ (hs_4.rdL 2 rfl) (by omega) (by omega)).mono fun r_3 w_4 h_3 => ?_))
      have hp_3 := h_3
      have hs_5 : Sat w [cObj b_1 214 [wv_1, (Value.int .i64 (((bits ++ lowB ((x % 2 ^ width)) (width)).length : Nat) : Int))], cL wv_1 5 (encN .u8) (packB (bits ++ lowB ((x % 2 ^ width)) (width))), cL ev 5 (encN .u8) (ex), cL r_3 5 (encN .u8) (ex ++ uv ((k + 1 - b)))] _ := hs_4.adds hp_3
      refine RT.ev rfl rfl (Ev.assign rfl) ?_
      refine RT.nil ?_
      refine CW.seq ?_
      refine CW.region ?_
      refine RT.ev rfl rfl (Ev.move rfl) <| RT.ev rfl rfl (Ev.move rfl) <| RT.ev rfl rfl (Ev.convK (by rw [Try.underlying3]; rfl) Try.underlying108 rfl (wrap_u rfl (by (try simp only [IntKind.bits]); omega))) ?_
      refine RT.eff rfl rfl (OpE.call ent83 rfl ((put_ok r_3 (ex ++ uv ((k + 1 - b))) ((x / 2 ^ width)) _ (hs_5.rdL 3 rfl) (by have h8 := uv_le (k + 1 - b); simp only [List.length_append]; omega) (by omega)).mono fun r_4 w_5 h_4 => ?_))
      have hp_4 := h_4
      have hs_6 : Sat w [cObj b_1 214 [wv_1, (Value.int .i64 (((bits ++ lowB ((x % 2 ^ width)) (width)).length : Nat) : Int))], cL wv_1 5 (encN .u8) (packB (bits ++ lowB ((x % 2 ^ width)) (width))), cL ev 5 (encN .u8) (ex), cL r_3 5 (encN .u8) (ex ++ uv ((k + 1 - b))), cL r_4 5 (encN .u8) (ex ++ uv ((k + 1 - b)) ++ uv ((x / 2 ^ width)))] _ := hs_5.adds hp_4
      refine RT.ev rfl rfl (Ev.assign rfl) ?_
      refine RT.nil ?_
      refine CW.seq ?_
      refine CW.region ?_
      refine RT.ev rfl rfl (Ev.move rfl) <| RT.ev rfl rfl (Ev.assign rfl) ?_
      refine RT.nil ?_
      refine CW.weaken [(0, _), (1, _), (5, _), (6, _), (7, _), (8, _), (9, _), (10, _), (11, _), (14, _), (15, _), (16, _), (17, _), (34, _)] ⟨rfl, rfl, rfl, rfl, rfl, rfl, rfl, rfl, rfl, rfl, rfl, rfl, rfl, rfl, trivial⟩ ?_
      refine CW.region ?_
      refine RT.ev rfl rfl (Ev.move rfl) <| RT.ev rfl rfl (Ev.addI (b := 1) rfl rfl (by omega)) <| RT.ev rfl rfl (Ev.assign rfl) ?_
      refine RT.nil ?_
      refine CW.region ?_
      refine RT.ev rfl rfl (Ev.addI (b := 1) rfl rfl (by omega)) <| RT.ev rfl rfl (Ev.move rfl) ?_
      refine RT.nil ?_
      have hs_7 : Sat w [cObj b_1 214 [wv_1, (Value.int .i64 (((bits ++ lowB ((x % 2 ^ width)) (width)).length : Nat) : Int))], cL wv_1 5 (encN .u8) (packB (bits ++ lowB ((x % 2 ^ width)) (width))), cL r_4 5 (encN .u8) (ex ++ uv ((k + 1 - b)) ++ uv ((x / 2 ^ width)))] w_5 := hs_6.sub ((.cons_cons _ (.cons_cons _ (.cons _ (.cons _ (.cons_cons _ .slnil))))))
      exact ⟨(k + 1, wv_1, bits ++ lowB ((x % 2 ^ width)) (width), r_4, ex ++ uv ((k + 1 - b)) ++ uv ((x / 2 ^ width)), (c + 1), k + 1), ⟨rfl, rfl, rfl, rfl, rfl, congrArg some (congrArg (Value.int .i64) (by omega)), rfl, rfl, rfl, trivial⟩, ⟨hs_7, by omega, by rw [take_succ_of hx, encSt_snoc, hst]; simp [encStep, hc_2], by simp only [List.length_append, lowB_length]; omega, by have h8 := uv_le (k + 1 - b); have h9 := uv_le (x / 2 ^ width); (try simp only [List.length_append]); omega, by omega, by omega⟩, (show (l.length - (k + 1)) < (l.length - k) from by omega)⟩
    · refine CW.skip ?_
      refine CW.region ?_
      refine RT.ev rfl rfl (Ev.addI (b := 1) rfl rfl (by omega)) <| RT.ev rfl rfl (Ev.move rfl) ?_
      refine RT.nil ?_
      exact ⟨(k + 1, wv_1, bits ++ lowB ((x % 2 ^ width)) (width), ev, ex, c, b), ⟨rfl, rfl, rfl, rfl, rfl, rfl, rfl, rfl, rfl, trivial⟩, ⟨hs_4, by omega, by rw [take_succ_of hx, encSt_snoc, hst]; simp [encStep, hc_2], by simp only [List.length_append, lowB_length]; omega, by have h8 := uv_le (k + 1 - b); have h9 := uv_le (x / 2 ^ width); (try simp only [List.length_append]); omega, by omega, by omega⟩, (show (l.length - (k + 1)) < (l.length - k) from by omega)⟩
  · refine CW.exit0 ?_
    refine CW.seq ?_
    have hpl := packB_length bits
    have h1 := uv_le l.length
    have h2 := uv_le width
    have h3 := uv_le c
    refine CW.region ?_
    refine RT.ev rfl rfl (Ev.move rfl) <| RT.ev rfl rfl (Ev.lenL Try.underlying22 rfl (hv.ext hs_3.ext)) <| RT.ev rfl rfl (Ev.convK (by rw [Try.underlying3]; rfl) Try.underlying108 rfl (wrap_u rfl (by (try simp only [IntKind.bits]); omega))) ?_
    refine RT.eff rfl rfl (OpE.call ent83 rfl ((put_ok (Value.slice none 0 0) ([]) (l.length) _ (RdL.nil _ _) (by simp) (by omega)).mono fun r_5 w_6 h_5 => ?_))
    have hp_5 := h_5
    have hs_8 : Sat w [cObj b_1 214 [wv, (Value.int .i64 (((bits).length : Nat) : Int))], cL wv 5 (encN .u8) (packB (bits)), cL ev 5 (encN .u8) (ex), cL r_5 5 (encN .u8) (uv (l.length))] _ := hs_3.adds hp_5
    refine RT.ev rfl rfl (Ev.assign rfl) ?_
    refine RT.nil ?_
    refine CW.seq ?_
    refine CW.region ?_
    refine RT.ev rfl rfl (Ev.move rfl) <| RT.ev rfl rfl (Ev.move rfl) <| RT.ev rfl rfl (Ev.convK (by rw [Try.underlying3]; rfl) Try.underlying108 rfl (wrap_u rfl (by (try simp only [IntKind.bits]); omega))) ?_
    refine RT.eff rfl rfl (OpE.call ent83 rfl ((put_ok r_5 (uv (l.length)) (width) _ (hs_8.rdL 3 rfl) (by omega) (by omega)).mono fun r_6 w_7 h_6 => ?_))
    have hp_6 := h_6
    have hs_9 : Sat w [cObj b_1 214 [wv, (Value.int .i64 (((bits).length : Nat) : Int))], cL wv 5 (encN .u8) (packB (bits)), cL ev 5 (encN .u8) (ex), cL r_5 5 (encN .u8) (uv (l.length)), cL r_6 5 (encN .u8) (uv (l.length) ++ uv (width))] _ := hs_8.adds hp_6
    refine RT.ev rfl rfl (Ev.assign rfl) ?_
    refine RT.nil ?_
    refine CW.seq ?_
    refine CW.region ?_
    refine RT.ev rfl rfl (Ev.move rfl) <| RT.ev rfl rfl (Ev.move rfl) <| RT.ev rfl rfl (Ev.convK (by rw [Try.underlying3]; rfl) Try.underlying108 rfl (wrap_u rfl (by (try simp only [IntKind.bits]); omega))) ?_
    refine RT.eff rfl rfl (OpE.call ent83 rfl ((put_ok r_6 (uv (l.length) ++ uv (width)) (c) _ (hs_9.rdL 4 rfl) (by simp only [List.length_append]; omega) (by omega)).mono fun r_7 w_8 h_7 => ?_))
    have hp_7 := h_7
    have hs_10 : Sat w [cObj b_1 214 [wv, (Value.int .i64 (((bits).length : Nat) : Int))], cL wv 5 (encN .u8) (packB (bits)), cL ev 5 (encN .u8) (ex), cL r_5 5 (encN .u8) (uv (l.length)), cL r_6 5 (encN .u8) (uv (l.length) ++ uv (width)), cL r_7 5 (encN .u8) (uv (l.length) ++ uv (width) ++ uv (c))] _ := hs_9.adds hp_7
    refine RT.ev rfl rfl (Ev.assign rfl) ?_
    refine RT.nil ?_
    refine CW.seq ?_
    refine CW.region ?_
    refine RT.ev rfl rfl (Ev.move rfl) <| RT.ev rfl rfl (Ev.move rfl) ?_
    refine RT.eff rfl rfl (OpE.call ent140 rfl ((wbytes_ok _ _ (packB (bits)) _ (hs_10.cell (i := 0) (j := 0) rfl rfl) (hs_10.rdL 1 rfl) (by omega)).mono fun r_8 w_9 h_8 => ?_))
    have hp_8 := h_8
    have hs_11 : Sat w [cObj b_1 214 [wv, (Value.int .i64 (((bits).length : Nat) : Int))], cL wv 5 (encN .u8) (packB (bits)), cL ev 5 (encN .u8) (ex), cL r_5 5 (encN .u8) (uv (l.length)), cL r_6 5 (encN .u8) (uv (l.length) ++ uv (width)), cL r_7 5 (encN .u8) (uv (l.length) ++ uv (width) ++ uv (c)), cL r_8 5 (encN .u8) (packB (bits))] _ := hs_10.adds hp_8
    refine RT.eff rfl rfl (OpE.appendL 5 sl40 hs_11 rfl rfl rfl Try.underlying40 (hs_11.rdL 6 rfl) (by simp only [List.length_append]; omega) (by simp only [List.length_append]; omega) fun v_1 w_10 hs_12 hch_1 => ?_)
    have hs_12d : Sat w [cObj b_1 214 [wv, (Value.int .i64 (((bits).length : Nat) : Int))], cL wv 5 (encN .u8) (packB (bits)), cL ev 5 (encN .u8) (ex), cL r_5 5 (encN .u8) (uv (l.length)), cL r_6 5 (encN .u8) (uv (l.length) ++ uv (width)), cL v_1 5 (encN .u8) (uv (l.length) ++ uv (width) ++ uv (c) ++ packB (bits)), cL r_8 5 (encN .u8) (packB (bits))] _ := hs_12
    refine RT.ev rfl rfl (Ev.move rfl) ?_
    refine RT.eff rfl rfl (OpE.appendL 5 sl40 hs_12d rfl rfl rfl Try.underlying40 (hs_12d.rdL 2 rfl) (by simp only [List.length_append]; omega) (by simp only [List.length_append]; omega) fun v_2 w_11 hs_13 hch_2 => ?_)
    have hs_13d : Sat w [cObj b_1 214 [wv, (Value.int .i64 (((bits).length : Nat) : Int))], cL wv 5 (encN .u8) (packB (bits)), cL ev 5 (encN .u8) (ex), cL r_5 5 (encN .u8) (uv (l.length)), cL r_6 5 (encN .u8) (uv (l.length) ++ uv (width)), cL v_2 5 (encN .u8) (uv (l.length) ++ uv (width) ++ uv (c) ++ packB (bits) ++ ex), cL r_8 5 (encN .u8) (packB (bits))] _ := hs_13
    refine RT.ev rfl rfl (Ev.assign rfl) ?_
    refine RT.nil ?_
    refine CW.ret ?_
    show PostK _ _ _ _ _ _
    refine post1 rfl rfl ?_
    have hs_14 : Sat w [cL v_2 5 (encN .u8) (uv (l.length) ++ uv (width) ++ uv (c) ++ packB (bits) ++ ex)] w_11 := hs_13d.sub ((.cons _ (.cons _ (.cons _ (.cons _ (.cons _ (.cons_cons _ (.cons _ .slnil))))))))
    have hs_15 : Sat w [cL v_2 5 (encN .u8) (encBk width l)] w_11 := by
      have hq : uv (l.length) ++ uv (width) ++ uv (c) ++ packB (bits) ++ ex = encBk width l := by unfold encBk; rw [show encSt width l = (k, bits, ex, c, b) by rw [← hst, show k = l.length by omega, List.take_length]]
      rw [← hq]; exact hs_14
    exact hs_15

theorem best_ok (v : Value) (l : List Nat) (w : World) (hv : RdL w v (encN .i64) l) (hn : l.length ≤ 4096) (hb : ∀ x ∈ l, x < 2 ^ 63) :
    CallsV Try.prog 133 [v] w fun r w' => r = .int .i64 ((bestW l 32 : Nat) : Int) ∧ Sat w [] w' := by
  have hs0 := Sat.start w
  refine callsV_of Try.func133 rfl rfl ?_
  refine CW.seq ?_
  refine CW.region ?_
  refine RT.ev rfl rfl (Ev.assign rfl) ?_
  refine RT.nil ?_
  refine CW.seq ?_
  refine CW.region ?_
  refine RT.eff rfl rfl (OpE.alloc hs0 zero208 fun b_1 w_1 hs_1 hch_1 hb_1 => ?_)
  have hs_1d : Sat w [cObj b_1 208 [(Value.int .i64 ((0 : Nat) : Int)), (Value.int .i64 ((0 : Nat) : Int)), (Value.int .i64 ((0 : Nat) : Int)), (Value.int .i64 ((0 : Nat) : Int)), (Value.int .i64 ((0 : Nat) : Int)), (Value.int .i64 ((0 : Nat) : Int)), (Value.int .i64 ((0 : Nat) : Int)), (Value.int .i64 ((0 : Nat) : Int)), (Value.int .i64 ((0 : Nat) : Int)), (Value.int .i64 ((0 : Nat) : Int)), (Value.int .i64 ((0 : Nat) : Int)), (Value.int .i64 ((0 : Nat) : Int)), (Value.int .i64 ((0 : Nat) : Int)), (Value.int .i64 ((0 : Nat) : Int)), (Value.int .i64 ((0 : Nat) : Int)), (Value.int .i64 ((0 : Nat) : Int)), (Value.int .i64 ((0 : Nat) : Int)), (Value.int .i64 ((0 : Nat) : Int)), (Value.int .i64 ((0 : Nat) : Int)), (Value.int .i64 ((0 : Nat) : Int)), (Value.int .i64 ((0 : Nat) : Int)), (Value.int .i64 ((0 : Nat) : Int)), (Value.int .i64 ((0 : Nat) : Int)), (Value.int .i64 ((0 : Nat) : Int)), (Value.int .i64 ((0 : Nat) : Int)), (Value.int .i64 ((0 : Nat) : Int)), (Value.int .i64 ((0 : Nat) : Int)), (Value.int .i64 ((0 : Nat) : Int)), (Value.int .i64 ((0 : Nat) : Int)), (Value.int .i64 ((0 : Nat) : Int)), (Value.int .i64 ((0 : Nat) : Int)), (Value.int .i64 ((0 : Nat) : Int))]] _ := hs_1
  refine RT.nil ?_
  refine CW.seq ?_
  refine CW.region ?_
  refine RT.ev rfl rfl (Ev.assign rfl) ?_
  refine RT.nil ?_
  refine CW.seq ?_
  refine CW.seq ?_
  refine CW.region ?_
  refine RT.ev rfl rfl (Ev.move rfl) ?_
  refine RT.nil ?_
  refine CW.block ?_
  have hs_2 : Sat w [cObj b_1 208 ((encN .i64).all (List.replicate 32 0))] w_1 := hs_1d
  refine CW.loop (α := Nat × Nat × List Nat) (fun (k, bw, cl) => [(0, v), (3, (Value.pointer (some ⟨b_1, 0, none⟩))), (4, (Value.int .i64 ((bw : Nat) : Int))), (6, (Value.int .i64 ((k : Nat) : Int)))]) (fun (k, bw, cl) w' => Sat w [cObj b_1 208 ((encN .i64).all (cl))] w' ∧ (k ≤ 32) ∧ (cl.length = 32) ∧ (∀ i, i < k → cl[i]? = some (costB i l)) ∧ (bw = bestW l k)) (fun (k, bw, cl) => 32 - k) (0, 0, List.replicate 32 0) ⟨rfl, rfl, rfl, rfl, trivial⟩ ⟨hs_2, by omega, by simp, fun i hi => absurd hi (by omega), rfl⟩ ?_
  rintro ⟨k, bw, cl⟩ w_2 ⟨hs_3, hk, hlen, hcl, hbw⟩
  show CW _ _ _ _ [(0, v), (3, (Value.pointer (some ⟨b_1, 0, none⟩))), (4, (Value.int .i64 ((bw : Nat) : Int))), (6, (Value.int .i64 ((k : Nat) : Int)))] _
  refine CW.seq ?_
  refine CW.region ?_
  refine RT.ev rfl rfl (Ev.lssN (b := 32) rfl rfl) ?_
  refine RT.nil ?_
  refine CW.seq ?_
  refine CW.condD rfl (fun hc_1 => ?_) (fun hc_1 => ?_)
  · refine CW.skip ?_
    refine CW.seq ?_
    refine CW.block ?_
    refine CW.seq ?_
    refine CW.region ?_
    refine RT.ev rfl rfl (Ev.move rfl) <| RT.ev rfl rfl (Ev.assign rfl) ?_
    refine RT.nil ?_
    refine CW.seq ?_
    refine CW.region ?_
    refine RT.ev rfl rfl (Ev.move rfl) <| RT.ev rfl rfl (Ev.move rfl) <| RT.ev rfl rfl (Ev.move rfl) ?_
    refine RT.eff rfl rfl (OpE.call ent170 rfl ((cost_ok _ (l) (k) _ (hv.ext hs_3.ext) (hn) (hb) (by omega)).mono fun r_1 w_3 h_1 => ?_))
    obtain ⟨rfl, hp_1⟩ := h_1
    have hs_4 : Sat w [cObj b_1 208 ((encN .i64).all (cl))] _ := hs_3.adds hp_1
    refine RT.ev rfl rfl (Ev.idxArr arr208 rfl rfl (by omega)) ?_
    refine RT.eff rfl rfl (OpE.setArr (E := encN .i64) (a := (costB (k) (l))) 0 one3 hs_4 rfl rfl rfl rfl (by omega) fun w_4 hs_5 hch_2 => ?_)
    have hs_5d : Sat w [cObj b_1 208 ((encN .i64).all (cl.set k (costB (k) (l))))] _ := hs_5
    refine RT.nil ?_
    refine CW.seq ?_
    have hget1 : (cl.set k (costB (k) (l)))[k]? = some (costB k l) := by rw [List.getElem?_set_self (by omega)]
    have hget2 : (cl.set k (costB (k) (l)))[bw]? = some (costB bw l) := by
      by_cases hkb : bw = k
      · rw [hkb]; exact hget1
      · rw [List.getElem?_set_ne (fun h => hkb h.symm)]; exact hcl bw (by have := bestW_le l k; omega)
    refine CW.draw (fun w' => Sat w [cObj b_1 208 ((encN .i64).all (cl.set k (costB (k) (l))))] w') (.free 0 (.free 1 (.free 2 (.free 3 (.free 4 (.free 5 (.free 6 .fin))))))) mixed (by kernel_rfl) ?_
    have hs_6 := hs_5d.drew
    refine RP.ev rfl rfl rfl (fun w' hS' => Ev.move rfl) hs_6 ?_
    refine RP.ev rfl rfl rfl (fun w' hS' => Ev.idxArr arr208 rfl rfl (by omega)) hs_6 ?_
    refine RP.ev rfl rfl rfl (fun w' hS' => Ev.load scal3 rfl (hS'.cellArr (E := encN .i64) 0 rfl hget1 (by decide) rfl)) hs_6 ?_
    refine RP.ev rfl rfl rfl (fun w' hS' => Ev.move rfl) hs_6 ?_
    refine RP.ev rfl rfl rfl (fun w' hS' => Ev.idxArr arr208 rfl rfl (by have := bestW_le l k; omega)) hs_6 ?_
    refine RP.ev rfl rfl rfl (fun w' hS' => Ev.load scal3 rfl (hS'.cellArr (E := encN .i64) 0 rfl hget2 (by decide) rfl)) hs_6 ?_
    refine RP.ev rfl rfl rfl (fun w' hS' => Ev.lssN rfl rfl) hs_6 ?_
    refine RP.fin ?_
    refine CW.condD rfl (fun hc_2 => ?_) (fun hc_2 => ?_)
    · refine CW.region ?_
      refine RT.ev rfl rfl (Ev.move rfl) <| RT.ev rfl rfl (Ev.assign rfl) ?_
      refine RT.nil ?_
      refine CW.region ?_
      refine RT.ev rfl rfl (Ev.addI (b := 1) rfl rfl (by omega)) <| RT.ev rfl rfl (Ev.move rfl) ?_
      refine RT.nil ?_
      exact ⟨(k + 1, k, cl.set k (costB (k) (l))), ⟨rfl, rfl, rfl, rfl, trivial⟩, ⟨hs_6, by omega, by simp [hlen], fun i hi => by
      by_cases hik : i = k
      · rw [hik]; exact hget1
      · rw [List.getElem?_set_ne (fun h => hik h.symm)]; exact hcl i (by omega), by rw [bestW, ← hbw]; simp [hc_2]⟩, (show (32 - (k + 1)) < (32 - k) from by omega)⟩
    · refine CW.skip ?_
      refine CW.region ?_
      refine RT.ev rfl rfl (Ev.addI (b := 1) rfl rfl (by omega)) <| RT.ev rfl rfl (Ev.move rfl) ?_
      refine RT.nil ?_
      exact ⟨(k + 1, bw, cl.set k (costB (k) (l))), ⟨rfl, rfl, rfl, rfl, trivial⟩, ⟨hs_6, by omega, by simp [hlen], fun i hi => by
      by_cases hik : i = k
      · rw [hik]; exact hget1
      · rw [List.getElem?_set_ne (fun h => hik h.symm)]; exact hcl i (by omega), by rw [bestW, ← hbw]; simp [hc_2]⟩, (show (32 - (k + 1)) < (32 - k) from by omega)⟩
  · refine CW.exit0 ?_
    refine CW.seq ?_
    refine CW.region ?_
    refine RT.ev rfl rfl (Ev.move rfl) <| RT.ev rfl rfl (Ev.assign rfl) ?_
    refine RT.nil ?_
    refine CW.ret ?_
    show PostK _ _ _ _ _ _
    refine post1 rfl rfl ?_
    have hs_7 : Sat w [] w_2 := hs_3.sub ((.cons _ .slnil))
    rw [show k = 32 by omega] at hbw
    rw [← hbw]
    exact ⟨rfl, hs_7⟩

theorem pack_ok (v : Value) (l : List Nat) (w : World) (hv : RdL w v (encN .i64) l) (hn : l.length ≤ 128) (hb : ∀ x ∈ l, x ≤ 2147483647) :
    CallsV Try.prog 99 [v] w fun r w' => ∃ v', r = .tuple #[v', .int .i64 0] ∧ Sat w [cL v' 5 (encN .u8) (packBk l)] w' := by
  have hs0 := Sat.start w
  refine callsV_of Try.func99 rfl rfl ?_
  refine CW.seq ?_
  have hb2 : ∀ x ∈ l, x < 2 ^ 63 := fun x hx => by have := hb x hx; omega
  refine CW.region ?_
  refine RT.ev rfl rfl (Ev.assign rfl) <| RT.ev rfl rfl (Ev.assign rfl) ?_
  refine RT.nil ?_
  refine CW.seq ?_
  refine CW.seq ?_
  refine CW.region ?_
  refine RT.ev rfl rfl (Ev.move rfl) ?_
  refine RT.eff rfl rfl (OpE.call ent131 rfl ((bcheck_ok _ (l) _ (hv.ext hs0.ext) (hn) (hb)).mono fun r_1 w_1 h_1 => ?_))
  obtain ⟨rfl, hp_1⟩ := h_1
  have hs_1 : Sat w [] _ := hs0.adds hp_1
  refine RT.ev rfl rfl (Ev.assign rfl) ?_
  refine RT.nil ?_
  refine CW.seq ?_
  refine CW.region ?_
  refine RT.ev rfl rfl (Ev.move rfl) <| RT.ev rfl rfl (Ev.neqN (a := 0) (b := 0) rfl rfl) ?_
  refine RT.nil ?_
  refine CW.condF rfl (rfl) ?_
  refine CW.skip ?_
  refine CW.seq ?_
  refine CW.region ?_
  refine RT.ev rfl rfl (Ev.move rfl) <| RT.ev rfl rfl (Ev.move rfl) ?_
  refine RT.eff rfl rfl (OpE.call ent133 rfl ((best_ok _ (l) _ (hv.ext hs_1.ext) (by omega) (hb2)).mono fun r_2 w_2 h_2 => ?_))
  obtain ⟨rfl, hp_2⟩ := h_2
  have hs_2 : Sat w [] _ := hs_1.adds hp_2
  refine RT.eff rfl rfl (OpE.call ent132 rfl ((encode_ok _ (l) ((bestW (l) 32)) _ (hv.ext hs_2.ext) (by omega) (hb2) (by have := bestW_le l 32; omega)).mono fun r_3 w_3 h_3 => ?_))
  have hp_3 := h_3
  have hs_3 : Sat w [cL r_3 5 (encN .u8) (encBk ((bestW (l) 32)) (l))] _ := hs_2.adds hp_3
  refine RT.ev rfl rfl (Ev.assign rfl) <| RT.ev rfl rfl (Ev.assign rfl) ?_
  refine RT.nil ?_
  refine CW.ret ?_
  show PostK _ _ _ _ _ _
  refine post2 rfl rfl rfl ?_
  exact ⟨_, rfl, hs_3⟩

end Go.Proofs.Ytfhbflhnelbkfaa
