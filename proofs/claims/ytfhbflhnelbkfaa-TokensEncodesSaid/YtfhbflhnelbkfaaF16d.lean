/- The walks of the functions of F16d, printed by our own program (kwgen.py) out of our descriptions (base.py). -/
import Derived.Test.YtfhbflhnelbkfaaF16c
import Derived.Test.YtfhbflhnelbkfaaTab
namespace Go.Proofs.Ytfhbflhnelbkfaa
open Go.RowKit Go.Kw
set_option maxRecDepth 100000
set_option linter.unusedVariables false
set_option linter.unusedSimpArgs false
theorem tb_long (v : Value) (z : List Int) (w : World) (hv : RdL w v (encI .i64) z) (hz : 400 < z.length) :
    CallsV Try.prog 3 [v] w fun r w' => r = .bool true ∧ Sat w [] w' := by
  have hs0 := Sat.start w
  refine callsV_of Try.func3 rfl rfl ?_
  refine CW.seq ?_
  refine CW.region ?_
  refine RT.ev rfl rfl (Ev.assign rfl) ?_
  refine RT.nil ?_
  refine CW.seq ?_
  refine CW.seq ?_
  refine CW.region ?_
  refine RT.ev rfl rfl (Ev.move rfl) <| RT.ev rfl rfl (Ev.lenL Try.underlying22 rfl (hv.ext hs0.ext)) <| RT.ev rfl rfl (Ev.gtrN (b := 400) rfl rfl) ?_
  refine RT.nil ?_
  refine CW.condT rfl (decide_eq_true hz) ?_
  refine CW.seq ?_
  refine CW.region ?_
  refine RT.ev rfl rfl (Ev.assign rfl) ?_
  refine RT.nil ?_
  refine CW.ret ?_
  show PostK _ _ _ _ _ _
  refine post1 rfl rfl ?_
  have hs_1 : Sat w [] w := hs0.sub (.slnil)
  exact ⟨rfl, hs_1⟩

theorem tb_range (v : Value) (z : List Int) (w : World) (hv : RdL w v (encI .i64) z) (hz : z.length ≤ 400) (hbad : ∃ x ∈ z, x < 0 ∨ 1024 ≤ x)  :
    CallsV Try.prog 3 [v] w fun r w' => r = .bool true ∧ Sat w [] w' := by
  have hs0 := Sat.start w
  refine callsV_of Try.func3 rfl rfl ?_
  refine CW.seq ?_
  refine CW.region ?_
  refine RT.ev rfl rfl (Ev.assign rfl) ?_
  refine RT.nil ?_
  refine CW.seq ?_
  refine CW.seq ?_
  refine CW.region ?_
  refine RT.ev rfl rfl (Ev.move rfl) <| RT.ev rfl rfl (Ev.lenL Try.underlying22 rfl (hv.ext hs0.ext)) <| RT.ev rfl rfl (Ev.gtrN (b := 400) rfl rfl) ?_
  refine RT.nil ?_
  refine CW.condF rfl (decide_eq_false (by omega)) ?_
  refine CW.skip ?_
  refine CW.seq ?_
  refine CW.region ?_
  refine RT.ev rfl rfl (Ev.move rfl) ?_
  refine RT.eff rfl rfl (OpE.call ent20 rfl ((built_range _ (z) _ (hv.ext hs0.ext) (by omega) (hbad)).mono fun r_1 w_1 h_1 => ?_))
  obtain ⟨rfl, hp_1⟩ := h_1
  have hs_1 : Sat w [] _ := hs0.adds hp_1
  refine RT.ev rfl rfl (Ev.move rfl) <| RT.ev rfl rfl (Ev.extract rfl rfl) <| RT.ev rfl rfl (Ev.extract rfl rfl) <| RT.ev rfl rfl (Ev.assign rfl) <| RT.ev rfl rfl (Ev.assign rfl) ?_
  refine RT.nil ?_
  refine CW.seq ?_
  refine CW.region ?_
  refine RT.ev rfl rfl (Ev.move rfl) <| RT.ev rfl rfl (Ev.move rfl) ?_
  refine RT.yes rfl rfl rfl (rfl) ?_
  refine RT.ev rfl rfl (Ev.move rfl) ?_
  refine RT.yes rfl rfl rfl (rfl) ?_
  refine RT.ev rfl rfl (Ev.eqlPt Try.underlying23 rfl rfl) ?_
  refine RT.yes rfl rfl rfl (rfl) ?_
  refine RT.ev rfl rfl (Ev.move rfl) ?_
  refine RT.no rfl rfl rfl (rfl) rfl ?_
  refine RT.no rfl rfl rfl (rfl) rfl ?_
  refine RT.no rfl rfl rfl (rfl) rfl ?_
  refine RT.no rfl rfl rfl (rfl) rfl ?_
  refine RT.no rfl rfl rfl (rfl) rfl ?_
  refine RT.yes rfl rfl rfl (rfl) ?_
  refine RT.ev rfl rfl (Ev.pickY rfl (rfl) rfl) <| RT.ev rfl rfl (Ev.pickY rfl (rfl) rfl) <| RT.ev rfl rfl (Ev.move rfl) ?_
  refine RT.yes rfl rfl rfl (rfl) ?_
  refine RT.eff rfl rfl (OpE.call ent22 rfl ((awake_ok _).mono fun r_2 w_2 h_2 => ?_))
  obtain ⟨rfl, hp_2⟩ := h_2
  have hs_2 : Sat w [] _ := hs_1.adds hp_2
  refine RT.ev rfl rfl (Ev.pickY rfl (rfl) rfl) <| RT.ev rfl rfl (Ev.assign rfl) ?_
  refine RT.nil ?_
  refine CW.ret ?_
  show PostK _ _ _ _ _ _
  refine post1 rfl rfl ?_
  have hs_3 : Sat w [] w_2 := hs_2.sub (.slnil)
  exact ⟨rfl, hs_3⟩

theorem tb_ok (v : Value) (l : List Nat) (w : World) (hv : RdL w v (encN .i64) l) (hl : OkN l) (hz : l.length ≤ 400) :
    CallsV Try.prog 3 [v] w fun r w' => r = .bool true ∧ Sat w [] w' := by
  have hs0 := Sat.start w
  refine callsV_of Try.func3 rfl rfl ?_
  refine CW.seq ?_
  refine CW.region ?_
  refine RT.ev rfl rfl (Ev.assign rfl) ?_
  refine RT.nil ?_
  refine CW.seq ?_
  refine CW.seq ?_
  refine CW.region ?_
  refine RT.ev rfl rfl (Ev.move rfl) <| RT.ev rfl rfl (Ev.lenL Try.underlying22 rfl (hv.ext hs0.ext)) <| RT.ev rfl rfl (Ev.gtrN (b := 400) rfl rfl) ?_
  refine RT.nil ?_
  refine CW.condF rfl (decide_eq_false (by omega)) ?_
  refine CW.skip ?_
  refine CW.seq ?_
  refine CW.region ?_
  refine RT.ev rfl rfl (Ev.move rfl) ?_
  refine RT.eff rfl rfl (OpE.call ent20 rfl ((built_ok _ (l) _ (hv.ext hs0.ext) (hl)).mono fun r_1 w_1 h_1 => ?_))
  obtain ⟨g_1, lv_1, bv_1, ps_1, rfl, hps_1, hp_1⟩ := h_1
  have hs_1 : Sat w [cObj g_1 79 [(Value.int .i64 (((l).length : Nat) : Int)), (Value.int .i64 (((kindN l) : Nat) : Int)), lv_1, bv_1, (Value.int .i64 ((0 : Nat) : Int)), (Value.slice none 0 0)], cL lv_1 3 (encN .i64) (lensK l), cL bv_1 124 (encPt) (ps_1), cParts (ps_1), cL (Value.slice none 0 0) 3 (encN .i64) ([])] _ := hs0.adds hp_1
  refine RT.ev rfl rfl (Ev.move rfl) <| RT.ev rfl rfl (Ev.extract rfl rfl) <| RT.ev rfl rfl (Ev.extract rfl rfl) <| RT.ev rfl rfl (Ev.assign rfl) <| RT.ev rfl rfl (Ev.assign rfl) ?_
  refine RT.nil ?_
  refine CW.seq ?_
  refine CW.region ?_
  refine RT.ev rfl rfl (Ev.move rfl) <| RT.ev rfl rfl (Ev.move rfl) ?_
  refine RT.yes rfl rfl rfl (rfl) ?_
  refine RT.ev rfl rfl (Ev.move rfl) ?_
  refine RT.yes rfl rfl rfl (rfl) ?_
  refine RT.ev rfl rfl (Ev.eqlPt Try.underlying23 rfl rfl) ?_
  refine RT.yes rfl rfl rfl (rfl) ?_
  refine RT.ev rfl rfl (Ev.move rfl) ?_
  refine RT.yes rfl rfl rfl (rfl) ?_
  refine RT.ev rfl rfl (Ev.move rfl) ?_
  refine RT.yes rfl rfl rfl (rfl) ?_
  refine RT.eff rfl rfl (OpE.call ent21 rfl ((slen_ok _ ((l).length) _ (hs_1.cell (i := 0) (j := 0) rfl rfl)).mono fun r_2 w_2 h_2 => ?_))
  obtain ⟨rfl, hp_2⟩ := h_2
  have hs_2 : Sat w [cObj g_1 79 [(Value.int .i64 (((l).length : Nat) : Int)), (Value.int .i64 (((kindN l) : Nat) : Int)), lv_1, bv_1, (Value.int .i64 ((0 : Nat) : Int)), (Value.slice none 0 0)], cL lv_1 3 (encN .i64) (lensK l), cL bv_1 124 (encPt) (ps_1), cParts (ps_1), cL (Value.slice none 0 0) 3 (encN .i64) ([])] _ := hs_1.adds hp_2
  refine RT.yes rfl rfl rfl (rfl) ?_
  refine RT.ev rfl rfl (Ev.move rfl) ?_
  refine RT.yes rfl rfl rfl (rfl) ?_
  refine RT.ev rfl rfl (Ev.lenL Try.underlying22 rfl (hv.ext hs_2.ext)) ?_
  refine RT.yes rfl rfl rfl (rfl) ?_
  refine RT.ev rfl rfl (Ev.eqlN rfl rfl) ?_
  refine RT.yes rfl rfl rfl (rfl) ?_
  refine RT.ev rfl rfl (Ev.pickN rfl (rfl) rfl) <| RT.ev rfl rfl (Ev.pickY rfl (rfl) rfl) <| RT.ev rfl rfl (Ev.move rfl) ?_
  refine RT.yes rfl rfl rfl (decide_eq_true rfl) ?_
  refine RT.eff rfl rfl (OpE.call ent22 rfl ((awake_ok _).mono fun r_3 w_3 h_3 => ?_))
  obtain ⟨rfl, hp_3⟩ := h_3
  have hs_3 : Sat w [cObj g_1 79 [(Value.int .i64 (((l).length : Nat) : Int)), (Value.int .i64 (((kindN l) : Nat) : Int)), lv_1, bv_1, (Value.int .i64 ((0 : Nat) : Int)), (Value.slice none 0 0)], cL lv_1 3 (encN .i64) (lensK l), cL bv_1 124 (encPt) (ps_1), cParts (ps_1), cL (Value.slice none 0 0) 3 (encN .i64) ([])] _ := hs_2.adds hp_3
  refine RT.ev rfl rfl (Ev.pickY rfl (decide_eq_true rfl) rfl) <| RT.ev rfl rfl (Ev.assign rfl) ?_
  refine RT.nil ?_
  refine CW.ret ?_
  show PostK _ _ _ _ _ _
  refine post1 rfl rfl ?_
  have hs_4 : Sat w [] w_3 := hs_3.sub ((.cons _ (.cons _ (.cons _ (.cons _ (.cons _ .slnil))))))
  exact ⟨rfl, hs_4⟩

/-- Integers that a stream takes are numbers. -/
theorem nats_ok {z : List Int} (hz : z.length ≤ 4096) (h : ¬ ∃ x ∈ z, x < 0 ∨ 1024 ≤ x) : (∀ x ∈ z, 0 ≤ x) ∧ OkN (z.map Int.toNat) := by
  have h1 : ∀ x ∈ z, 0 ≤ x ∧ x < 1024 := fun x hx => by
    refine ⟨Int.not_lt.1 fun hn => h ⟨x, hx, .inl hn⟩, Int.not_le.1 fun hn => h ⟨x, hx, .inr hn⟩⟩
  refine ⟨fun x hx => (h1 x hx).1, by simpa using hz, fun y hy => ?_⟩
  obtain ⟨x, hx, rfl⟩ := List.mem_map.1 hy
  have := h1 x hx; omega
theorem tokensBuilds_ok (v : Value) (z : List Int) (w : World) (hv : RdL w v (encI .i64) z) : CallsV Try.prog 3 [v] w fun r w' => r = .bool true ∧ Sat w [] w' := by
  rcases Nat.lt_or_ge 400 z.length with h | h
  · exact tb_long v z w hv h
  · by_cases hb : ∃ x ∈ z, x < 0 ∨ 1024 ≤ x
    · exact tb_range v z w hv h hb
    · obtain ⟨h0, hok⟩ := nats_ok (by omega) hb
      exact tb_ok v _ w (hv.nats h0) hok (by simpa using h)

end Go.Proofs.Ytfhbflhnelbkfaa
