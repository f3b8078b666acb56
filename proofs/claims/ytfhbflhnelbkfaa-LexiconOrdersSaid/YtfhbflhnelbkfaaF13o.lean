/- The walks of the functions of F13o, printed by our own program (kwgen.py) out of our descriptions (base.py). -/
import Derived.Test.YtfhbflhnelbkfaaF13p
import Derived.Test.YtfhbflhnelbkfaaF14i
import Derived.Test.YtfhbflhnelbkfaaTab
namespace Go.Proofs.Ytfhbflhnelbkfaa
open Go.RowKit Go.Kw
set_option maxRecDepth 100000
set_option linter.unusedVariables false
set_option linter.unusedSimpArgs false
theorem isnan_ok (a : Nat) (w : World) :
    CallsV Try.prog 123 [(Value.int .i64 ((a : Nat) : Int))] w fun r w' => r = .bool false ∧ Sat w [] w' := by
  have hs0 := Sat.start w
  refine callsV_of Try.func123 rfl rfl ?_
  refine CW.seq ?_
  refine CW.region ?_
  refine RT.ev rfl rfl (Ev.assign rfl) ?_
  refine RT.nil ?_
  refine CW.seq ?_
  refine CW.region ?_
  refine RT.ev rfl rfl (Ev.move rfl) ?_
  refine RT.ev rfl rfl (Ev.move rfl) ?_
  refine RT.ev rfl rfl (Ev.neqN rfl rfl) ?_
  refine RT.ev rfl rfl (Ev.assign rfl) ?_
  refine RT.nil ?_
  refine CW.ret ?_
  show PostK _ _ _ _ _ _
  refine post1 rfl rfl ?_
  exact ⟨congrArg Value.bool (decide_eq_false (fun h9 => h9 rfl)), hs0⟩

theorem cmpi_ok (a b : Nat) (w : World) :
    CallsV Try.prog 95 [(Value.int .i64 ((a : Nat) : Int)), (Value.int .i64 ((b : Nat) : Int))] w fun r w' => ∃ z : Int, r = .int .i64 z ∧ (z < 0 ↔ a < b) ∧ Sat w [] w' := by
  have hs0 := Sat.start w
  refine callsV_of Try.func95 rfl rfl ?_
  refine CW.seq ?_
  refine CW.region ?_
  refine RT.ev rfl rfl (Ev.assign rfl) ?_
  refine RT.nil ?_
  refine CW.seq ?_
  refine CW.region ?_
  refine RT.ev rfl rfl (Ev.move rfl) ?_
  refine RT.eff rfl rfl (OpE.call ent123 rfl ((isnan_ok a _).mono fun r_1 w_1 h_1 => ?_))
  obtain ⟨rfl, hp_1⟩ := h_1
  have hs_1 : Sat w [] _ := hs0.adds hp_1
  refine RT.ev rfl rfl (Ev.assign rfl) ?_
  refine RT.nil ?_
  refine CW.seq ?_
  refine CW.region ?_
  refine RT.ev rfl rfl (Ev.move rfl) ?_
  refine RT.eff rfl rfl (OpE.call ent123 rfl ((isnan_ok b _).mono fun r_2 w_2 h_2 => ?_))
  obtain ⟨rfl, hp_2⟩ := h_2
  have hs_2 : Sat w [] _ := hs_1.adds hp_2
  refine RT.ev rfl rfl (Ev.assign rfl) ?_
  refine RT.nil ?_
  refine CW.seq ?_
  refine CW.seq ?_
  refine CW.region ?_
  refine RT.ev rfl rfl (Ev.move rfl) ?_
  refine RT.nil ?_
  refine CW.condF rfl (rfl) ?_
  refine CW.skip ?_
  refine CW.seq ?_
  refine CW.seq ?_
  refine CW.region ?_
  refine RT.ev rfl rfl (Ev.move rfl) ?_
  refine RT.nil ?_
  refine CW.condF rfl (rfl) ?_
  refine CW.skip ?_
  refine CW.seq ?_
  refine CW.seq ?_
  refine CW.region ?_
  refine RT.ev rfl rfl (Ev.move rfl) ?_
  refine RT.ev rfl rfl (Ev.move rfl) ?_
  refine RT.ev rfl rfl (Ev.lssN rfl rfl) ?_
  refine RT.nil ?_
  refine CW.condD rfl (fun hc_1 => ?_) (fun hc_1 => ?_)
  · refine CW.seq ?_
    refine CW.region ?_
    refine RT.ev rfl rfl (Ev.assign rfl) ?_
    refine RT.nil ?_
    refine CW.ret ?_
    show PostK _ _ _ _ _ _
    refine post1 rfl rfl ?_
    exact ⟨_, rfl, by omega, hs_2⟩
  · refine CW.skip ?_
    refine CW.seq ?_
    refine CW.seq ?_
    refine CW.region ?_
    refine RT.ev rfl rfl (Ev.move rfl) ?_
    refine RT.ev rfl rfl (Ev.move rfl) ?_
    refine RT.ev rfl rfl (Ev.gtrN rfl rfl) ?_
    refine RT.nil ?_
    refine CW.condD rfl (fun hc_2 => ?_) (fun hc_2 => ?_)
    · refine CW.seq ?_
      refine CW.region ?_
      refine RT.ev rfl rfl (Ev.assign rfl) ?_
      refine RT.nil ?_
      refine CW.ret ?_
      show PostK _ _ _ _ _ _
      refine post1 rfl rfl ?_
      exact ⟨_, rfl, by omega, hs_2⟩
    · refine CW.skip ?_
      refine CW.seq ?_
      refine CW.region ?_
      refine RT.ev rfl rfl (Ev.assign rfl) ?_
      refine RT.nil ?_
      refine CW.ret ?_
      show PostK _ _ _ _ _ _
      refine post1 rfl rfl ?_
      exact ⟨_, rfl, by omega, hs_2⟩

theorem so_le {key : Nat → Nat} {L : List Nat} {j y m : Nat} (hS : Srt key L) (hy : L[j - 1]? = some y) (hm : key y ≤ m) : ∀ q z, q < j → L[q]? = some z → key z ≤ m := fun q z hq hz => by
  rcases Nat.lt_or_ge q (j - 1) with h9 | h9
  · exact Nat.le_trans (hS.get h9 hz hy) hm
  · rw [show q = j - 1 by omega, hy] at hz; cases hz; exact hm
def cntKey (C : List Nat) (i : Nat) : Nat := 1000000 - C.getD i 0
theorem so_ins {key : Nat → Nat} {l : List Nat} {x j : Nat} (h1 : ∀ q y, j ≤ q → (ssort key l)[q]? = some y → key x < key y) (h2 : ∀ q y, q < j → (ssort key l)[q]? = some y → key y ≤ key x) : (ssort key l).take j ++ [x] ++ (ssort key l).drop j = ssort key (l ++ [x]) := by
  have ha : ∀ y ∈ (ssort key l).take j, key y ≤ key x := fun y hy => by
    obtain ⟨q, hq⟩ := List.getElem?_of_mem hy
    rw [List.getElem?_take] at hq
    split at hq
    · rename_i h9; exact h2 q y h9 hq
    · cases hq
  have hb : ∀ y ∈ (ssort key l).drop j, key x < key y := fun y hy => by
    obtain ⟨q, hq⟩ := List.getElem?_of_mem hy
    rw [List.getElem?_drop] at hq
    exact h1 (j + q) y (by omega) hq
  have hsplit : Srt key ((ssort key l).take j ++ (ssort key l).drop j) := by rw [List.take_append_drop]; exact ssort_srt l
  obtain ⟨s1, s2, s3⟩ := Srt.append.1 hsplit
  refine ssort_eq ?_ ?_
  · rw [List.append_assoc]
    refine Srt.append.2 ⟨s1, Srt.append.2 ⟨Srt.one x, s2, fun a h9 y hy => ?_⟩, fun a h9 y hy => ?_⟩
    · rw [List.mem_singleton.1 h9]; exact Nat.le_of_lt (hb y hy)
    · rcases List.mem_append.1 hy with hy | hy
      · rw [List.mem_singleton.1 hy]; exact ha a h9
      · exact s3 a h9 y hy
  · have e1 : Stb key (l ++ [x]) (ssort key l ++ [x]) := (ssort_stb l).append (Stb.refl _)
    have e2 : Stb key (ssort key l ++ [x]) ((ssort key l).take j ++ ((ssort key l).drop j ++ [x])) := by rw [← List.append_assoc, List.take_append_drop]; exact Stb.refl _
    have e3 : Stb key ((ssort key l).drop j ++ [x]) ([x] ++ (ssort key l).drop j) := Stb.comm fun y hy z hz => by rw [List.mem_singleton.1 hz]; have := hb y hy; omega
    exact (e1.trans e2).trans (by rw [List.append_assoc]; exact (Stb.refl _).append e3)

theorem bcmp_ok (B : Nat) (g : Nat) (vw vc vo : Value) (W : List ByteArray) (C O : List Nat) (a b : Nat) (w : World) (h1 : w.cell? ⟨B, 0, none⟩ = some (.pointer (some ⟨g, 0, none⟩))) (h : LexAt w g vw vc vo W C O) (ha : a < C.length) (hb : b < C.length) (hC : ∀ c ∈ C, c ≤ 1000000) :
    CallsV Try.prog 94 [(Value.int .i64 ((a : Nat) : Int)), (Value.int .i64 ((b : Nat) : Int)), (Value.pointer (some ⟨B, 0, none⟩))] w fun r w' => ∃ z : Int, r = .int .i64 z ∧ (z < 0 ↔ cntKey C a < cntKey C b) ∧ Sat w [] w' := by
  have hs0 := Sat.start w
  refine callsV_of Try.func94 rfl rfl ?_
  refine CW.seq ?_
  refine CW.region ?_
  refine RT.ev rfl rfl (Ev.assign rfl) ?_
  refine RT.nil ?_
  refine CW.seq ?_
  obtain ⟨x, hx⟩ : ∃ x, C[a]? = some x := ⟨_, List.getElem?_eq_getElem ha⟩
  obtain ⟨y, hy⟩ : ∃ y, C[b]? = some y := ⟨_, List.getElem?_eq_getElem hb⟩
  refine CW.draw (fun w' => Sat w [] w') (.free 0 (.free 1 (.free 2 (.free 3 (.free 4 (.free 5 (.free 6 (.free 7 (.free 8 (.free 9 (.free 10 (.free 11 (.free 12 (.free 13 (.one 14 (.free 15 .fin)))))))))))))))) mixed (by kernel_rfl) ?_
  have hs_1 := hs0.drew
  refine RP.ev rfl rfl rfl (fun w' hS' => Ev.load scal46 rfl (hS'.ext _ _ h1)) hs_1 ?_
  refine RP.ev rfl rfl rfl (fun w' hS' => Ev.nilCheck rfl) hs_1 ?_
  refine RP.ev rfl rfl rfl (fun w' hS' => Ev.fieldAddr fld92_1 rfl rfl) hs_1 ?_
  refine RP.ev rfl rfl rfl (fun w' hS' => Ev.load scal22 rfl (hS'.ext _ _ h.c1)) hs_1 ?_
  refine RP.ev rfl rfl rfl (fun w' hS' => Ev.move rfl) hs_1 ?_
  refine RP.ev rfl rfl rfl (fun w' hS' => Ev.idxL (E := encN .i64) sl22 rfl rfl (h.hC.ext hS'.ext) (by omega)) hs_1 ?_
  refine RP.ev rfl rfl rfl (fun w' hS' => Ev.ldL (E := encN .i64) scal3 rfl (h.hC.ext hS'.ext) hy (by decide) rfl) hs_1 ?_
  refine RP.ev rfl rfl rfl (fun w' hS' => Ev.load scal46 rfl (hS'.ext _ _ h1)) hs_1 ?_
  refine RP.ev rfl rfl rfl (fun w' hS' => Ev.nilCheck rfl) hs_1 ?_
  refine RP.ev rfl rfl rfl (fun w' hS' => Ev.fieldAddr fld92_1 rfl rfl) hs_1 ?_
  refine RP.ev rfl rfl rfl (fun w' hS' => Ev.load scal22 rfl (hS'.ext _ _ h.c1)) hs_1 ?_
  refine RP.ev rfl rfl rfl (fun w' hS' => Ev.move rfl) hs_1 ?_
  refine RP.ev rfl rfl rfl (fun w' hS' => Ev.idxL (E := encN .i64) sl22 rfl rfl (h.hC.ext hS'.ext) (by omega)) hs_1 ?_
  refine RP.ev rfl rfl rfl (fun w' hS' => Ev.ldL (E := encN .i64) scal3 rfl (h.hC.ext hS'.ext) hx (by decide) rfl) hs_1 ?_
  refine RP.eff rfl rfl rfl (OpE.call ent95 rfl ((cmpi_ok y x _).mono fun r_1 w_1 h_1 => ?_))
  obtain ⟨z_1, rfl, hz_1, hp_1⟩ := h_1
  have hs_2 : Sat w [] _ := hs_1.adds hp_1
  have hS_1 : Sat w [] _ := hs_2.sub (.slnil)
  refine ⟨hS_1, ?_⟩
  refine RP.ev rfl rfl rfl (fun w' hS' => Ev.assign rfl) hS_1 ?_
  refine RP.fin ?_
  refine CW.ret ?_
  show PostK _ _ _ _ _ _
  refine post1 rfl rfl ?_
  have hs_3 : Sat w [] w_1 := hs_2.sub (.slnil)
  have hcx := hC x (List.mem_of_getElem? hx)
  have hcy := hC y (List.mem_of_getElem? hy)
  exact ⟨_, rfl, by unfold cntKey; rw [getD_of hx, getD_of hy, hz_1]; omega, hs_3⟩

theorem byCount_ok (g : Nat) (vw vc vo : Value) (W : List ByteArray) (C O : List Nat) (w : World) (h : LexAt w g vw vc vo W C O) (hCl : C.length = W.length) (hC : ∀ c ∈ C, c ≤ 1000000) (hn : W.length ≤ 1000000) :
    CallsV Try.prog 55 [(Value.pointer (some ⟨g, 0, none⟩))] w fun r w' => Sat w [cL r 3 (encN .i64) (ssort (cntKey C) (List.range W.length))] w' := by
  have hs0 := Sat.start w
  refine callsV_of Try.func55 rfl rfl ?_
  refine CW.seq ?_
  refine CW.region ?_
  refine RT.eff rfl rfl (OpE.box hs0 rfl fun b_1 w_1 hs_1 hch_1 hb_1 => ?_)
  have hs_1d : Sat w [cObj b_1 46 [(Value.pointer (some ⟨g, 0, none⟩))]] _ := hs_1
  refine RT.ev rfl rfl (Ev.assign rfl) ?_
  refine RT.nil ?_
  refine CW.seq ?_
  refine CW.region ?_
  refine RT.ev rfl rfl (Ev.assign rfl) ?_
  refine RT.nil ?_
  refine CW.seq ?_
  refine CW.seq ?_
  have hs_2 : Sat w [cObj b_1 46 [(Value.pointer (some ⟨g, 0, none⟩))], cL (Value.slice none 0 0) 3 (encN .i64) ([])] _ := hs_1d.newNilL 3 (encN .i64)
  refine CW.region ?_
  refine RT.ev rfl rfl (Ev.load scal46 rfl (hs_2.cell (i := 0) (j := 0) rfl rfl)) ?_
  refine RT.ev rfl rfl (Ev.nilCheck rfl) ?_
  refine RT.ev rfl rfl (Ev.fieldAddr fld92_0 rfl rfl) ?_
  refine RT.ev rfl rfl (Ev.load scal45 rfl (hs_2.ext _ _ h.c0)) ?_
  refine RT.ev rfl rfl (Ev.lenL Try.underlying45 rfl (h.hW.ext hs_2.ext)) ?_
  refine RT.ev rfl rfl (Ev.move rfl) ?_
  refine RT.nil ?_
  refine CW.block ?_
  have hs_3 : Sat w [cObj b_1 46 [(Value.pointer (some ⟨g, 0, none⟩))], cL (Value.slice none 0 0) 3 (encN .i64) (List.range 0)] w_1 := hs_2.reL 1 rfl (show [] = List.range 0 from rfl)
  refine CW.loop (α := Nat × Value) (fun (k, v) => [(1, (Value.pointer (some ⟨b_1, 0, none⟩))), (3, v), (8, vw), (9, (Value.int .i64 ((W.length : Nat) : Int))), (10, (Value.int .i64 ((k : Nat) : Int)))]) (fun (k, v) w' => Sat w [cObj b_1 46 [(Value.pointer (some ⟨g, 0, none⟩))], cL v 3 (encN .i64) (List.range k)] w' ∧ (k ≤ W.length)) (fun (k, v) => W.length - k) (0, (Value.slice none 0 0)) ⟨rfl, rfl, rfl, rfl, rfl, trivial⟩ ⟨hs_3, Nat.zero_le _⟩ ?_
  rintro ⟨k, v⟩ w_2 ⟨hs_4, hk⟩
  show CW _ _ _ _ [(1, (Value.pointer (some ⟨b_1, 0, none⟩))), (3, v), (8, vw), (9, (Value.int .i64 ((W.length : Nat) : Int))), (10, (Value.int .i64 ((k : Nat) : Int)))] _
  refine CW.seq ?_
  refine CW.region ?_
  refine RT.ev rfl rfl (Ev.lssN rfl rfl) ?_
  refine RT.nil ?_
  refine CW.seq ?_
  refine CW.condD rfl (fun hc_1 => ?_) (fun hc_1 => ?_)
  · refine CW.skip ?_
    refine CW.seq ?_
    refine CW.block ?_
    refine CW.seq ?_
    refine CW.region ?_
    refine RT.ev rfl rfl (Ev.move rfl) ?_
    refine RT.ev rfl rfl (Ev.assign rfl) ?_
    refine RT.nil ?_
    refine CW.region ?_
    refine RT.ev rfl rfl (Ev.move rfl) ?_
    refine RT.ev rfl rfl (Ev.move rfl) ?_
    refine RT.eff rfl rfl (OpE.lit1 (encN .i64) k sl22 rfl hs_4 rfl fun v_1 w_3 hs_5 hch_2 => ?_)
    have hs_5d : Sat w [cObj b_1 46 [(Value.pointer (some ⟨g, 0, none⟩))], cL v 3 (encN .i64) (List.range k), cL v_1 3 (encN .i64) ([k])] _ := hs_5
    refine RT.eff rfl rfl (OpE.appendL 1 sl22 hs_5d rfl rfl rfl Try.underlying22 (hs_5d.rdL 2 rfl) (by simp only [List.length_append, List.length_range, List.length_cons, List.length_nil]; omega) (by simp only [List.length_append, List.length_range, List.length_cons, List.length_nil]; omega) fun v_2 w_4 hs_6 hch_3 => ?_)
    have hs_6d : Sat w [cObj b_1 46 [(Value.pointer (some ⟨g, 0, none⟩))], cL v_2 3 (encN .i64) (List.range k ++ [k])] _ := hs_6.drop 2
    refine RT.ev rfl rfl (Ev.assign rfl) ?_
    refine RT.nil ?_
    refine CW.region ?_
    refine RT.ev rfl rfl (Ev.addI (b := 1) rfl rfl (by omega)) ?_
    refine RT.ev rfl rfl (Ev.move rfl) ?_
    refine RT.nil ?_
    have hs_7 : Sat w [cObj b_1 46 [(Value.pointer (some ⟨g, 0, none⟩))], cL v_2 3 (encN .i64) (List.range (k + 1))] w_4 := hs_6d.reL 1 rfl (show List.range k ++ [k] = List.range (k + 1) from List.range_succ.symm)
    exact ⟨(k + 1, v_2), ⟨rfl, rfl, rfl, rfl, rfl, trivial⟩, ⟨hs_7, by omega⟩, (show (W.length - (k + 1)) < (W.length - k) from by omega)⟩
  · refine CW.exit0 ?_
    refine CW.seq ?_
    have hs_8 : Sat w [cObj b_1 46 [(Value.pointer (some ⟨g, 0, none⟩))], cL v 3 (encN .i64) (List.range W.length)] w_2 := hs_4.reL 1 rfl (show List.range k = List.range W.length from by rw [show k = W.length by omega])
    refine CW.region ?_
    refine RT.ev rfl rfl (Ev.move rfl) ?_
    refine RT.ev rfl rfl (Ev.makeFunc1 rfl) ?_
    have hA_1 : Sat w ([cL v 3 (encN .i64) (List.range W.length)] ++ ([cObj b_1 46 [(Value.pointer (some ⟨g, 0, none⟩))]] ++ [])) _ := (Sat.order [1, 0] (by decide) hs_8.tail).cut 1
    refine RT.eff rfl rfl (OpE.call ent93 rfl ((srtIn w _ _ v (List.range W.length) (cntKey C) (fun i => i < C.length) 94 #[(Value.pointer (some ⟨b_1, 0, none⟩))] ent94 (fun _ w9 hq a b ha hb => bcmp_ok _ _ _ _ _ _ _ _ a b w9 (hq.cell (i := 1) (j := 0) rfl rfl) (h.ext hq.ext) ha hb hC) hA_1 (fun x hx => by have := List.mem_range.1 hx; show x < C.length; omega) (by rw [List.length_range]; omega)).mono fun r_1 w_5 h_1 => ?_))
    obtain ⟨rfl, hp_1⟩ := h_1
    have hs_9 : Sat w [cObj b_1 46 [(Value.pointer (some ⟨g, 0, none⟩))], cL v 3 (encN .i64) (ssort (cntKey C) (List.range W.length))] _ := (Sat.order [1, 0] (by decide) hp_1.join).untail
    refine RT.nil ?_
    refine CW.seq ?_
    refine CW.region ?_
    refine RT.ev rfl rfl (Ev.move rfl) ?_
    refine RT.ev rfl rfl (Ev.assign rfl) ?_
    refine RT.nil ?_
    refine CW.ret ?_
    show PostK _ _ _ _ _ _
    refine post1 rfl rfl ?_
    have hs_10 : Sat w [cL v 3 (encN .i64) (ssort (cntKey C) (List.range W.length))] w_5 := hs_9.sub ((.cons _ (.cons_cons _ .slnil)))
    exact hs_10

theorem rbyCount_ok (vw vc : Value) (W : List ByteArray) (C : List Nat) (w : World) (hv : RdL w vw encTx W) (hvc : RdL w vc (encN .i64) C) (hCl : C.length = W.length) (hC : ∀ c ∈ C, c ≤ 1000000) (hn : W.length ≤ 1000000) :
    CallsV Try.prog 56 [(Value.agg #[vw, vc])] w fun r w' => Sat w [cL r 3 (encN .i64) (ssort (cntKey C) (List.range W.length))] w' := by
  have hs0 := Sat.start w
  refine callsV_of Try.func56 rfl rfl ?_
  refine CW.seq ?_
  refine CW.region ?_
  refine RT.eff rfl rfl (OpE.box hs0 rfl fun b_1 w_1 hs_1 hch_1 hb_1 => ?_)
  have hs_1d : Sat w [cObj b_1 51 [vw, vc]] _ := hs_1
  refine RT.ev rfl rfl (Ev.assign rfl) ?_
  refine RT.nil ?_
  refine CW.seq ?_
  refine CW.region ?_
  refine RT.ev rfl rfl (Ev.assign rfl) ?_
  refine RT.nil ?_
  refine CW.seq ?_
  refine CW.seq ?_
  have hs_2 : Sat w [cObj b_1 51 [vw, vc], cL (Value.slice none 0 0) 3 (encN .i64) ([])] _ := hs_1d.newNilL 3 (encN .i64)
  refine CW.region ?_
  refine RT.ev rfl rfl (Ev.fieldAddr fld51_0 rfl rfl) ?_
  refine RT.ev rfl rfl (Ev.load scal45 rfl (hs_2.cell (i := 0) (j := 0) rfl rfl)) ?_
  refine RT.ev rfl rfl (Ev.lenL Try.underlying45 rfl (hv.ext hs_2.ext)) ?_
  refine RT.ev rfl rfl (Ev.move rfl) ?_
  refine RT.nil ?_
  refine CW.block ?_
  have hs_3 : Sat w [cObj b_1 51 [vw, vc], cL (Value.slice none 0 0) 3 (encN .i64) (ssort (cntKey C) (List.range 0))] w_1 := hs_2.reL 1 rfl (show [] = ssort (cntKey C) (List.range 0) from rfl)
  refine CW.loop (α := Nat × Value) (fun (k, v) => [(1, (Value.pointer (some ⟨b_1, 0, none⟩))), (3, v), (7, vw), (8, (Value.int .i64 ((W.length : Nat) : Int))), (9, (Value.int .i64 ((k : Nat) : Int)))]) (fun (k, v) w' => Sat w [cObj b_1 51 [vw, vc], cL v 3 (encN .i64) (ssort (cntKey C) (List.range k))] w' ∧ (k ≤ W.length)) (fun (k, v) => W.length - k) (0, (Value.slice none 0 0)) ⟨rfl, rfl, rfl, rfl, rfl, trivial⟩ ⟨hs_3, Nat.zero_le _⟩ ?_
  rintro ⟨k, v⟩ w_2 ⟨hs_4, hk⟩
  show CW _ _ _ _ [(1, (Value.pointer (some ⟨b_1, 0, none⟩))), (3, v), (7, vw), (8, (Value.int .i64 ((W.length : Nat) : Int))), (9, (Value.int .i64 ((k : Nat) : Int)))] _
  refine CW.seq ?_
  refine CW.region ?_
  refine RT.ev rfl rfl (Ev.lssN rfl rfl) ?_
  refine RT.nil ?_
  refine CW.seq ?_
  refine CW.condD rfl (fun hc_1 => ?_) (fun hc_1 => ?_)
  · refine CW.skip ?_
    refine CW.seq ?_
    refine CW.block ?_
    refine CW.seq ?_
    have hol : (ssort (cntKey C) (List.range k)).length = k := by rw [← (ssort_stb (key := cntKey C) (List.range k)).length, List.length_range]
    refine CW.region ?_
    refine RT.ev rfl rfl (Ev.move rfl) ?_
    refine RT.ev rfl rfl (Ev.assign rfl) ?_
    refine RT.nil ?_
    refine CW.seq ?_
    refine CW.region ?_
    refine RT.ev rfl rfl (Ev.move rfl) ?_
    refine RT.ev rfl rfl (Ev.lenL Try.underlying22 rfl (hs_4.rdL 1 rfl)) ?_
    refine RT.ev rfl rfl (Ev.assign rfl) ?_
    refine RT.nil ?_
    refine CW.seq ?_
    refine CW.block ?_
    refine CW.loop (α := Nat) (fun j => [(1, (Value.pointer (some ⟨b_1, 0, none⟩))), (3, v), (4, (Value.int .i64 ((k : Nat) : Int))), (5, (Value.int .i64 ((j : Nat) : Int))), (7, vw), (8, (Value.int .i64 ((W.length : Nat) : Int))), (9, (Value.int .i64 ((k : Nat) : Int)))]) (fun j w' => Sat w [cObj b_1 51 [vw, vc], cL v 3 (encN .i64) (ssort (cntKey C) (List.range k))] w' ∧ (j ≤ (ssort (cntKey C) (List.range k)).length) ∧ (∀ q y, j ≤ q → (ssort (cntKey C) (List.range k))[q]? = some y → cntKey C k < cntKey C y)) (fun j => j) (ssort (cntKey C) (List.range k)).length ⟨rfl, rfl, rfl, rfl, rfl, rfl, rfl, trivial⟩ ⟨hs_4, Nat.le_refl _, fun q y hq hy => by have := (List.getElem?_eq_some_iff.1 hy).1; omega⟩ ?_
    rintro j w_3 ⟨hs_5, hj, hgt⟩
    show CW _ _ _ _ [(1, (Value.pointer (some ⟨b_1, 0, none⟩))), (3, v), (4, (Value.int .i64 ((k : Nat) : Int))), (5, (Value.int .i64 ((j : Nat) : Int))), (7, vw), (8, (Value.int .i64 ((W.length : Nat) : Int))), (9, (Value.int .i64 ((k : Nat) : Int)))] _
    refine CW.seq ?_
    refine CW.seq ?_
    rcases Nat.lt_or_ge 0 j with hj0 | hj0
    · obtain ⟨y, hy⟩ : ∃ y, (ssort (cntKey C) (List.range k))[j - 1]? = some y := ⟨_, List.getElem?_eq_getElem (by omega)⟩
      have hyk : y < k := List.mem_range.1 ((ssort_stb (key := cntKey C) (List.range k)).mem.2 (List.mem_of_getElem? hy))
      obtain ⟨c, hc⟩ : ∃ c, C[y]? = some c := ⟨_, List.getElem?_eq_getElem (by omega)⟩
      obtain ⟨d, hd⟩ : ∃ d, C[k]? = some d := ⟨_, List.getElem?_eq_getElem (by omega)⟩
      have hcc := hC c (List.mem_of_getElem? hc)
      have hdc := hC d (List.mem_of_getElem? hd)
      have hky : cntKey C y = 1000000 - c := by unfold cntKey; rw [getD_of hc]
      have hkk : cntKey C k = 1000000 - d := by unfold cntKey; rw [getD_of hd]
      refine CW.draw (fun w' => Sat w [cObj b_1 51 [vw, vc], cL v 3 (encN .i64) (ssort (cntKey C) (List.range k))] w') (.free 0 (.free 1 (.free 2 (.free 3 (.free 4 (.free 5 (.free 6 (.free 7 (.free 8 (.free 9 (.free 10 (.free 11 (.free 12 (.free 13 (.free 14 (.free 15 (.free 16 (.free 17 (.free 18 .fin))))))))))))))))))) mixed (by kernel_rfl) ?_
      have hs_6 := hs_5.drew
      refine RP.ev rfl rfl rfl (fun w' hS' => Ev.move rfl) hs_6 ?_
      refine RP.ev rfl rfl rfl (fun w' hS' => Ev.gtrN (b := 0) rfl rfl) hs_6 ?_
      refine RP.ev rfl rfl rfl (fun w' hS' => Ev.move rfl) hs_6 ?_
      refine RP.evYes rfl rfl rfl rfl (decide_eq_true hj0) rfl (fun w' hS' => Ev.fieldAddr fld51_1 rfl rfl) hs_6 ?_
      refine RP.evYes rfl rfl rfl rfl (decide_eq_true hj0) rfl (fun w' hS' => Ev.load scal22 rfl (hS'.cell (i := 0) (j := 1) rfl rfl)) hs_6 ?_
      refine RP.evYes rfl rfl rfl rfl (decide_eq_true hj0) rfl (fun w' hS' => Ev.move rfl) hs_6 ?_
      refine RP.evYes rfl rfl rfl rfl (decide_eq_true hj0) rfl (fun w' hS' => Ev.move rfl) hs_6 ?_
      refine RP.evYes rfl rfl rfl rfl (decide_eq_true hj0) rfl (fun w' hS' => Ev.subI (b := 1) rfl rfl (by omega) (by omega)) hs_6 ?_
      refine RP.evYes rfl rfl rfl rfl (decide_eq_true hj0) rfl (fun w' hS' => Ev.idxL (E := encN .i64) sl22 rfl rfl (hS'.rdL 1 rfl) (by omega)) hs_6 ?_
      refine RP.evYes rfl rfl rfl rfl (decide_eq_true hj0) rfl (fun w' hS' => Ev.ldL (E := encN .i64) scal3 rfl (hS'.rdL 1 rfl) hy (by decide) rfl) hs_6 ?_
      refine RP.evYes rfl rfl rfl rfl (decide_eq_true hj0) rfl (fun w' hS' => Ev.idxL (E := encN .i64) sl22 rfl rfl (hvc.ext hS'.ext) (by omega)) hs_6 ?_
      refine RP.evYes rfl rfl rfl rfl (decide_eq_true hj0) rfl (fun w' hS' => Ev.ldL (E := encN .i64) scal3 rfl (hvc.ext hS'.ext) hc (by decide) rfl) hs_6 ?_
      refine RP.evYes rfl rfl rfl rfl (decide_eq_true hj0) rfl (fun w' hS' => Ev.fieldAddr fld51_1 rfl rfl) hs_6 ?_
      refine RP.evYes rfl rfl rfl rfl (decide_eq_true hj0) rfl (fun w' hS' => Ev.load scal22 rfl (hS'.cell (i := 0) (j := 1) rfl rfl)) hs_6 ?_
      refine RP.evYes rfl rfl rfl rfl (decide_eq_true hj0) rfl (fun w' hS' => Ev.move rfl) hs_6 ?_
      refine RP.evYes rfl rfl rfl rfl (decide_eq_true hj0) rfl (fun w' hS' => Ev.idxL (E := encN .i64) sl22 rfl rfl (hvc.ext hS'.ext) (by omega)) hs_6 ?_
      refine RP.evYes rfl rfl rfl rfl (decide_eq_true hj0) rfl (fun w' hS' => Ev.ldL (E := encN .i64) scal3 rfl (hvc.ext hS'.ext) hd (by decide) rfl) hs_6 ?_
      refine RP.evYes rfl rfl rfl rfl (decide_eq_true hj0) rfl (fun w' hS' => Ev.lssN rfl rfl) hs_6 ?_
      refine RP.ev rfl rfl rfl (fun w' hS' => Ev.pickY rfl (decide_eq_true hj0) rfl) hs_6 ?_
      refine RP.fin ?_
      refine CW.condD rfl (fun hc_2 => ?_) (fun hc_2 => ?_)
      · refine CW.skip ?_
        refine CW.block ?_
        refine CW.region ?_
        refine RT.ev rfl rfl (Ev.move rfl) ?_
        refine RT.ev rfl rfl (Ev.subI (b := 1) rfl rfl (by omega) (by omega)) ?_
        refine RT.ev rfl rfl (Ev.assign rfl) ?_
        refine RT.nil ?_
        exact ⟨j - 1, ⟨rfl, rfl, rfl, rfl, rfl, rfl, rfl, trivial⟩, ⟨hs_6, by omega, fun q y9 hq hy9 => by
      rcases Nat.lt_or_ge q j with h9 | h9
      · rw [show q = j - 1 by omega, hy] at hy9; cases hy9; omega
      · exact hgt q y9 h9 hy9⟩, (show ((j - 1)) < (j) from by omega)⟩
      · refine CW.exit0 ?_
        have hle : ∀ q z, q < j → (ssort (cntKey C) (List.range k))[q]? = some z → cntKey C z ≤ cntKey C k := so_le (ssort_srt _) hy (by omega)
        have hok_ : ((ssort (cntKey C) (List.range k)).take j).drop 0 ++ [k] ++ ((ssort (cntKey C) (List.range k)).take (ssort (cntKey C) (List.range k)).length).drop j = ssort (cntKey C) (List.range (k + 1)) := by rw [List.range_succ, ← so_ins hgt hle, List.drop_zero, List.take_length]
        refine CW.draw (fun w' => Sat w [cObj b_1 51 [vw, vc], cL v 3 (encN .i64) (ssort (cntKey C) (List.range k))] w') (.free 0 (.free 1 (.free 2 (.free 4 (.free 7 (.free 8 (.free 9 (.two 3 5 (.one 5 (.one 6 (.one 10 (.free 11 .fin)))) (.one 3 (.one 6 (.one 10 (.free 11 .fin)))))))))))) mixed (by kernel_rfl) ?_
        have hs_7 := hs_6.drew
        refine RP.ev rfl rfl rfl (fun w' hS' => Ev.move rfl) hs_7 ?_
        refine RP.ev rfl rfl rfl (fun w' hS' => Ev.move rfl) hs_7 ?_
        refine RP.ev rfl rfl rfl (fun w' hS' => Ev.sliceL (E := encN .i64) (a := 0) (c := j) sl22 rfl (hS'.rdL 1 rfl) rfl ⟨_, rfl⟩ (by omega) (by omega)) hs_7 ?_
        refine RP.ev rfl rfl rfl (fun w' hS' => Ev.move rfl) hs_7 ?_
        refine RP.ev rfl rfl rfl (fun w' hS' => Ev.move rfl) hs_7 ?_
        refine RP.ev rfl rfl rfl (fun w' hS' => Ev.move rfl) hs_7 ?_
        refine RP.ev rfl rfl rfl (fun w' hS' => Ev.sliceL (E := encN .i64) (a := j) (c := (ssort (cntKey C) (List.range k)).length) sl22 rfl (hS'.rdL 1 rfl) ⟨_, rfl⟩ rfl (by omega) (by omega)) hs_7 ?_
        have hs_8 : Sat w [cObj b_1 51 [vw, vc], cL v 3 (encN .i64) (ssort (cntKey C) (List.range k)), cL (Value.slice none 0 0) 3 (encN .i64) ([])] _ := hs_7.newNilL 3 (encN .i64)
        refine RP.two rfl rfl rfl rfl rfl rfl (OpE.appendL 2 sl22 hs_8 rfl rfl rfl Try.underlying22 (((hs_8.rdL 1 rfl)).sub (a := 0) (b := j) (by omega) (by omega)) (by simp only [List.length_append, List.length_take, List.length_drop, List.length_cons, List.length_nil, List.length_map] at *; omega) (by simp only [List.length_append, List.length_take, List.length_drop, List.length_cons, List.length_nil, List.length_map] at *; omega) fun v_1 w_4 hs_9 hch_2 => ?_) (OpE.lit1 (encN .i64) k sl22 rfl hs_7 rfl fun v_2 w_5 hs_10 hch_3 => ?_)
        · have hs_9d : Sat w [cObj b_1 51 [vw, vc], cL v 3 (encN .i64) (ssort (cntKey C) (List.range k)), cL v_1 3 (encN .i64) (((ssort (cntKey C) (List.range k)).take j).drop 0)] _ := hs_9
          have hS_1 : Sat w [cObj b_1 51 [vw, vc], cL v 3 (encN .i64) (ssort (cntKey C) (List.range k))] _ := hs_9d.sub ((.cons_cons _ (.cons_cons _ (.cons _ .slnil))))
          refine ⟨hS_1, ?_⟩
          refine RP.eff rfl rfl rfl (OpE.lit1 (encN .i64) k sl22 rfl hs_9d rfl fun v_3 w_6 hs_11 hch_4 => ?_)
          have hs_11d : Sat w [cObj b_1 51 [vw, vc], cL v 3 (encN .i64) (ssort (cntKey C) (List.range k)), cL v_1 3 (encN .i64) (((ssort (cntKey C) (List.range k)).take j).drop 0), cL v_3 3 (encN .i64) ([k])] _ := hs_11
          have hS_2 : Sat w [cObj b_1 51 [vw, vc], cL v 3 (encN .i64) (ssort (cntKey C) (List.range k))] _ := hs_11d.sub ((.cons_cons _ (.cons_cons _ (.cons _ (.cons _ .slnil)))))
          refine ⟨hS_2, ?_⟩
          refine RP.eff rfl rfl rfl (OpE.appendL 2 sl22 hs_11d rfl rfl rfl Try.underlying22 (hs_11d.rdL 3 rfl) (by simp only [List.length_append, List.length_take, List.length_drop, List.length_cons, List.length_nil, List.length_map] at *; omega) (by simp only [List.length_append, List.length_take, List.length_drop, List.length_cons, List.length_nil, List.length_map] at *; omega) fun v_4 w_7 hs_12 hch_5 => ?_)
          have hs_12d : Sat w [cObj b_1 51 [vw, vc], cL v 3 (encN .i64) (ssort (cntKey C) (List.range k)), cL v_4 3 (encN .i64) (((ssort (cntKey C) (List.range k)).take j).drop 0 ++ [k])] _ := hs_12.drop 3
          have hS_3 : Sat w [cObj b_1 51 [vw, vc], cL v 3 (encN .i64) (ssort (cntKey C) (List.range k))] _ := hs_12d.sub ((.cons_cons _ (.cons_cons _ (.cons _ .slnil))))
          refine ⟨hS_3, ?_⟩
          refine RP.eff rfl rfl rfl (OpE.appendL 2 sl22 hs_12d rfl rfl rfl Try.underlying22 (((hs_12d.rdL 1 rfl)).sub (a := j) (b := (ssort (cntKey C) (List.range k)).length) (by omega) (by omega)) (by simp only [List.length_append, List.length_take, List.length_drop, List.length_cons, List.length_nil, List.length_map] at *; omega) (by simp only [List.length_append, List.length_take, List.length_drop, List.length_cons, List.length_nil, List.length_map] at *; omega) fun v_5 w_8 hs_13 hch_6 => ?_)
          have hs_13d : Sat w [cObj b_1 51 [vw, vc], cL v 3 (encN .i64) (ssort (cntKey C) (List.range k)), cL v_5 3 (encN .i64) (((ssort (cntKey C) (List.range k)).take j).drop 0 ++ [k] ++ ((ssort (cntKey C) (List.range k)).take ((ssort (cntKey C) (List.range k)).length)).drop j)] _ := hs_13
          have hS_4 : Sat w [cObj b_1 51 [vw, vc], cL v 3 (encN .i64) (ssort (cntKey C) (List.range k))] _ := hs_13d.sub ((.cons_cons _ (.cons_cons _ (.cons _ .slnil))))
          refine ⟨hS_4, ?_⟩
          refine RP.ev rfl rfl rfl (fun w' hS' => Ev.assign rfl) hS_4 ?_
          refine RP.fin ?_
          refine CW.region ?_
          refine RT.ev rfl rfl (Ev.addI (b := 1) rfl rfl (by omega)) ?_
          refine RT.ev rfl rfl (Ev.move rfl) ?_
          refine RT.nil ?_
          have hs_14 : Sat w [cObj b_1 51 [vw, vc], cL v 3 (encN .i64) (ssort (cntKey C) (List.range k)), cL v_5 3 (encN .i64) (ssort (cntKey C) (List.range (k + 1)))] w_8 := hs_13d.reL 2 rfl (show ((ssort (cntKey C) (List.range k)).take j).drop 0 ++ [k] ++ ((ssort (cntKey C) (List.range k)).take ((ssort (cntKey C) (List.range k)).length)).drop j = ssort (cntKey C) (List.range (k + 1)) from hok_)
          have hs_15 : Sat w [cObj b_1 51 [vw, vc], cL v_5 3 (encN .i64) (ssort (cntKey C) (List.range (k + 1)))] w_8 := hs_14.sub ((.cons_cons _ (.cons _ (.cons_cons _ .slnil))))
          exact ⟨(k + 1, v_5), ⟨rfl, rfl, rfl, rfl, rfl, trivial⟩, ⟨hs_15, by omega⟩, (show (W.length - (k + 1)) < (W.length - k) from by omega)⟩
        · have hs_10d : Sat w [cObj b_1 51 [vw, vc], cL v 3 (encN .i64) (ssort (cntKey C) (List.range k)), cL v_2 3 (encN .i64) ([k])] _ := hs_10
          have hS_5 : Sat w [cObj b_1 51 [vw, vc], cL v 3 (encN .i64) (ssort (cntKey C) (List.range k))] _ := hs_10d.sub ((.cons_cons _ (.cons_cons _ (.cons _ .slnil))))
          refine ⟨hS_5, ?_⟩
          have hs_16 : Sat w [cObj b_1 51 [vw, vc], cL v 3 (encN .i64) (ssort (cntKey C) (List.range k)), cL v_2 3 (encN .i64) ([k]), cL (Value.slice none 0 0) 3 (encN .i64) ([])] _ := hs_10d.newNilL 3 (encN .i64)
          refine RP.eff rfl rfl rfl (OpE.appendL 3 sl22 hs_16 rfl rfl rfl Try.underlying22 (((hs_16.rdL 1 rfl)).sub (a := 0) (b := j) (by omega) (by omega)) (by simp only [List.length_append, List.length_take, List.length_drop, List.length_cons, List.length_nil, List.length_map] at *; omega) (by simp only [List.length_append, List.length_take, List.length_drop, List.length_cons, List.length_nil, List.length_map] at *; omega) fun v_6 w_9 hs_17 hch_7 => ?_)
          have hs_17d : Sat w [cObj b_1 51 [vw, vc], cL v 3 (encN .i64) (ssort (cntKey C) (List.range k)), cL v_2 3 (encN .i64) ([k]), cL v_6 3 (encN .i64) (((ssort (cntKey C) (List.range k)).take j).drop 0)] _ := hs_17
          have hS_6 : Sat w [cObj b_1 51 [vw, vc], cL v 3 (encN .i64) (ssort (cntKey C) (List.range k))] _ := hs_17d.sub ((.cons_cons _ (.cons_cons _ (.cons _ (.cons _ .slnil)))))
          refine ⟨hS_6, ?_⟩
          refine RP.eff rfl rfl rfl (OpE.appendL 3 sl22 hs_17d rfl rfl rfl Try.underlying22 (hs_17d.rdL 2 rfl) (by simp only [List.length_append, List.length_take, List.length_drop, List.length_cons, List.length_nil, List.length_map] at *; omega) (by simp only [List.length_append, List.length_take, List.length_drop, List.length_cons, List.length_nil, List.length_map] at *; omega) fun v_7 w_10 hs_18 hch_8 => ?_)
          have hs_18d : Sat w [cObj b_1 51 [vw, vc], cL v 3 (encN .i64) (ssort (cntKey C) (List.range k)), cL v_2 3 (encN .i64) ([k]), cL v_7 3 (encN .i64) (((ssort (cntKey C) (List.range k)).take j).drop 0 ++ [k])] _ := hs_18
          have hS_7 : Sat w [cObj b_1 51 [vw, vc], cL v 3 (encN .i64) (ssort (cntKey C) (List.range k))] _ := hs_18d.sub ((.cons_cons _ (.cons_cons _ (.cons _ (.cons _ .slnil)))))
          refine ⟨hS_7, ?_⟩
          refine RP.eff rfl rfl rfl (OpE.appendL 3 sl22 hs_18d rfl rfl rfl Try.underlying22 (((hs_18d.rdL 1 rfl)).sub (a := j) (b := (ssort (cntKey C) (List.range k)).length) (by omega) (by omega)) (by simp only [List.length_append, List.length_take, List.length_drop, List.length_cons, List.length_nil, List.length_map] at *; omega) (by simp only [List.length_append, List.length_take, List.length_drop, List.length_cons, List.length_nil, List.length_map] at *; omega) fun v_8 w_11 hs_19 hch_9 => ?_)
          have hs_19d : Sat w [cObj b_1 51 [vw, vc], cL v 3 (encN .i64) (ssort (cntKey C) (List.range k)), cL v_2 3 (encN .i64) ([k]), cL v_8 3 (encN .i64) (((ssort (cntKey C) (List.range k)).take j).drop 0 ++ [k] ++ ((ssort (cntKey C) (List.range k)).take ((ssort (cntKey C) (List.range k)).length)).drop j)] _ := hs_19
          have hS_8 : Sat w [cObj b_1 51 [vw, vc], cL v 3 (encN .i64) (ssort (cntKey C) (List.range k))] _ := hs_19d.sub ((.cons_cons _ (.cons_cons _ (.cons _ (.cons _ .slnil)))))
          refine ⟨hS_8, ?_⟩
          refine RP.ev rfl rfl rfl (fun w' hS' => Ev.assign rfl) hS_8 ?_
          refine RP.fin ?_
          refine CW.region ?_
          refine RT.ev rfl rfl (Ev.addI (b := 1) rfl rfl (by omega)) ?_
          refine RT.ev rfl rfl (Ev.move rfl) ?_
          refine RT.nil ?_
          have hs_20 : Sat w [cObj b_1 51 [vw, vc], cL v 3 (encN .i64) (ssort (cntKey C) (List.range k)), cL v_2 3 (encN .i64) ([k]), cL v_8 3 (encN .i64) (ssort (cntKey C) (List.range (k + 1)))] w_11 := hs_19d.reL 3 rfl (show ((ssort (cntKey C) (List.range k)).take j).drop 0 ++ [k] ++ ((ssort (cntKey C) (List.range k)).take ((ssort (cntKey C) (List.range k)).length)).drop j = ssort (cntKey C) (List.range (k + 1)) from hok_)
          have hs_21 : Sat w [cObj b_1 51 [vw, vc], cL v_8 3 (encN .i64) (ssort (cntKey C) (List.range (k + 1)))] w_11 := hs_20.sub ((.cons_cons _ (.cons _ (.cons _ (.cons_cons _ .slnil)))))
          exact ⟨(k + 1, v_8), ⟨rfl, rfl, rfl, rfl, rfl, trivial⟩, ⟨hs_21, by omega⟩, (show (W.length - (k + 1)) < (W.length - k) from by omega)⟩
    · refine CW.draw (fun w' => Sat w [cObj b_1 51 [vw, vc], cL v 3 (encN .i64) (ssort (cntKey C) (List.range k))] w') (.free 0 (.free 1 (.free 2 (.free 3 (.free 4 (.free 5 (.free 6 (.free 7 (.free 8 (.free 9 (.free 10 (.free 11 (.free 12 (.free 13 (.free 14 (.free 15 (.free 16 (.free 17 (.free 18 .fin))))))))))))))))))) mixed (by kernel_rfl) ?_
      have hs_22 := hs_5.drew
      refine RP.ev rfl rfl rfl (fun w' hS' => Ev.move rfl) hs_22 ?_
      refine RP.ev rfl rfl rfl (fun w' hS' => Ev.gtrN (b := 0) rfl rfl) hs_22 ?_
      refine RP.ev rfl rfl rfl (fun w' hS' => Ev.move rfl) hs_22 ?_
      refine RP.no rfl rfl rfl rfl (decide_eq_false (by omega)) rfl hs_22 ?_
      refine RP.no rfl rfl rfl rfl (decide_eq_false (by omega)) rfl hs_22 ?_
      refine RP.no rfl rfl rfl rfl (decide_eq_false (by omega)) rfl hs_22 ?_
      refine RP.no rfl rfl rfl rfl (decide_eq_false (by omega)) rfl hs_22 ?_
      refine RP.no rfl rfl rfl rfl (decide_eq_false (by omega)) rfl hs_22 ?_
      refine RP.no rfl rfl rfl rfl (decide_eq_false (by omega)) rfl hs_22 ?_
      refine RP.no rfl rfl rfl rfl (decide_eq_false (by omega)) rfl hs_22 ?_
      refine RP.no rfl rfl rfl rfl (decide_eq_false (by omega)) rfl hs_22 ?_
      refine RP.no rfl rfl rfl rfl (decide_eq_false (by omega)) rfl hs_22 ?_
      refine RP.no rfl rfl rfl rfl (decide_eq_false (by omega)) rfl hs_22 ?_
      refine RP.no rfl rfl rfl rfl (decide_eq_false (by omega)) rfl hs_22 ?_
      refine RP.no rfl rfl rfl rfl (decide_eq_false (by omega)) rfl hs_22 ?_
      refine RP.no rfl rfl rfl rfl (decide_eq_false (by omega)) rfl hs_22 ?_
      refine RP.no rfl rfl rfl rfl (decide_eq_false (by omega)) rfl hs_22 ?_
      refine RP.no rfl rfl rfl rfl (decide_eq_false (by omega)) rfl hs_22 ?_
      refine RP.ev rfl rfl rfl (fun w' hS' => Ev.pickN rfl (decide_eq_false (by omega)) rfl) hs_22 ?_
      refine RP.fin ?_
      refine CW.condF rfl (rfl) ?_
      refine CW.exit0 ?_
      have hle : ∀ q z, q < j → (ssort (cntKey C) (List.range k))[q]? = some z → cntKey C z ≤ cntKey C k := fun q z hq _ => by omega
      have hok_ : ((ssort (cntKey C) (List.range k)).take j).drop 0 ++ [k] ++ ((ssort (cntKey C) (List.range k)).take (ssort (cntKey C) (List.range k)).length).drop j = ssort (cntKey C) (List.range (k + 1)) := by rw [List.range_succ, ← so_ins hgt hle, List.drop_zero, List.take_length]
      refine CW.draw (fun w' => Sat w [cObj b_1 51 [vw, vc], cL v 3 (encN .i64) (ssort (cntKey C) (List.range k))] w') (.free 0 (.free 1 (.free 2 (.free 4 (.free 7 (.free 8 (.free 9 (.two 3 5 (.one 5 (.one 6 (.one 10 (.free 11 .fin)))) (.one 3 (.one 6 (.one 10 (.free 11 .fin)))))))))))) mixed (by kernel_rfl) ?_
      have hs_23 := hs_22.drew
      refine RP.ev rfl rfl rfl (fun w' hS' => Ev.move rfl) hs_23 ?_
      refine RP.ev rfl rfl rfl (fun w' hS' => Ev.move rfl) hs_23 ?_
      refine RP.ev rfl rfl rfl (fun w' hS' => Ev.sliceL (E := encN .i64) (a := 0) (c := j) sl22 rfl (hS'.rdL 1 rfl) rfl ⟨_, rfl⟩ (by omega) (by omega)) hs_23 ?_
      refine RP.ev rfl rfl rfl (fun w' hS' => Ev.move rfl) hs_23 ?_
      refine RP.ev rfl rfl rfl (fun w' hS' => Ev.move rfl) hs_23 ?_
      refine RP.ev rfl rfl rfl (fun w' hS' => Ev.move rfl) hs_23 ?_
      refine RP.ev rfl rfl rfl (fun w' hS' => Ev.sliceL (E := encN .i64) (a := j) (c := (ssort (cntKey C) (List.range k)).length) sl22 rfl (hS'.rdL 1 rfl) ⟨_, rfl⟩ rfl (by omega) (by omega)) hs_23 ?_
      have hs_24 : Sat w [cObj b_1 51 [vw, vc], cL v 3 (encN .i64) (ssort (cntKey C) (List.range k)), cL (Value.slice none 0 0) 3 (encN .i64) ([])] _ := hs_23.newNilL 3 (encN .i64)
      refine RP.two rfl rfl rfl rfl rfl rfl (OpE.appendL 2 sl22 hs_24 rfl rfl rfl Try.underlying22 (((hs_24.rdL 1 rfl)).sub (a := 0) (b := j) (by omega) (by omega)) (by simp only [List.length_append, List.length_take, List.length_drop, List.length_cons, List.length_nil, List.length_map] at *; omega) (by simp only [List.length_append, List.length_take, List.length_drop, List.length_cons, List.length_nil, List.length_map] at *; omega) fun v_9 w_12 hs_25 hch_10 => ?_) (OpE.lit1 (encN .i64) k sl22 rfl hs_23 rfl fun v_10 w_13 hs_26 hch_11 => ?_)
      · have hs_25d : Sat w [cObj b_1 51 [vw, vc], cL v 3 (encN .i64) (ssort (cntKey C) (List.range k)), cL v_9 3 (encN .i64) (((ssort (cntKey C) (List.range k)).take j).drop 0)] _ := hs_25
        have hS_9 : Sat w [cObj b_1 51 [vw, vc], cL v 3 (encN .i64) (ssort (cntKey C) (List.range k))] _ := hs_25d.sub ((.cons_cons _ (.cons_cons _ (.cons _ .slnil))))
        refine ⟨hS_9, ?_⟩
        refine RP.eff rfl rfl rfl (OpE.lit1 (encN .i64) k sl22 rfl hs_25d rfl fun v_11 w_14 hs_27 hch_12 => ?_)
        have hs_27d : Sat w [cObj b_1 51 [vw, vc], cL v 3 (encN .i64) (ssort (cntKey C) (List.range k)), cL v_9 3 (encN .i64) (((ssort (cntKey C) (List.range k)).take j).drop 0), cL v_11 3 (encN .i64) ([k])] _ := hs_27
        have hS_10 : Sat w [cObj b_1 51 [vw, vc], cL v 3 (encN .i64) (ssort (cntKey C) (List.range k))] _ := hs_27d.sub ((.cons_cons _ (.cons_cons _ (.cons _ (.cons _ .slnil)))))
        refine ⟨hS_10, ?_⟩
        refine RP.eff rfl rfl rfl (OpE.appendL 2 sl22 hs_27d rfl rfl rfl Try.underlying22 (hs_27d.rdL 3 rfl) (by simp only [List.length_append, List.length_take, List.length_drop, List.length_cons, List.length_nil, List.length_map] at *; omega) (by simp only [List.length_append, List.length_take, List.length_drop, List.length_cons, List.length_nil, List.length_map] at *; omega) fun v_12 w_15 hs_28 hch_13 => ?_)
        have hs_28d : Sat w [cObj b_1 51 [vw, vc], cL v 3 (encN .i64) (ssort (cntKey C) (List.range k)), cL v_12 3 (encN .i64) (((ssort (cntKey C) (List.range k)).take j).drop 0 ++ [k])] _ := hs_28.drop 3
        have hS_11 : Sat w [cObj b_1 51 [vw, vc], cL v 3 (encN .i64) (ssort (cntKey C) (List.range k))] _ := hs_28d.sub ((.cons_cons _ (.cons_cons _ (.cons _ .slnil))))
        refine ⟨hS_11, ?_⟩
        refine RP.eff rfl rfl rfl (OpE.appendL 2 sl22 hs_28d rfl rfl rfl Try.underlying22 (((hs_28d.rdL 1 rfl)).sub (a := j) (b := (ssort (cntKey C) (List.range k)).length) (by omega) (by omega)) (by simp only [List.length_append, List.length_take, List.length_drop, List.length_cons, List.length_nil, List.length_map] at *; omega) (by simp only [List.length_append, List.length_take, List.length_drop, List.length_cons, List.length_nil, List.length_map] at *; omega) fun v_13 w_16 hs_29 hch_14 => ?_)
        have hs_29d : Sat w [cObj b_1 51 [vw, vc], cL v 3 (encN .i64) (ssort (cntKey C) (List.range k)), cL v_13 3 (encN .i64) (((ssort (cntKey C) (List.range k)).take j).drop 0 ++ [k] ++ ((ssort (cntKey C) (List.range k)).take ((ssort (cntKey C) (List.range k)).length)).drop j)] _ := hs_29
        have hS_12 : Sat w [cObj b_1 51 [vw, vc], cL v 3 (encN .i64) (ssort (cntKey C) (List.range k))] _ := hs_29d.sub ((.cons_cons _ (.cons_cons _ (.cons _ .slnil))))
        refine ⟨hS_12, ?_⟩
        refine RP.ev rfl rfl rfl (fun w' hS' => Ev.assign rfl) hS_12 ?_
        refine RP.fin ?_
        refine CW.region ?_
        refine RT.ev rfl rfl (Ev.addI (b := 1) rfl rfl (by omega)) ?_
        refine RT.ev rfl rfl (Ev.move rfl) ?_
        refine RT.nil ?_
        have hs_30 : Sat w [cObj b_1 51 [vw, vc], cL v 3 (encN .i64) (ssort (cntKey C) (List.range k)), cL v_13 3 (encN .i64) (ssort (cntKey C) (List.range (k + 1)))] w_16 := hs_29d.reL 2 rfl (show ((ssort (cntKey C) (List.range k)).take j).drop 0 ++ [k] ++ ((ssort (cntKey C) (List.range k)).take ((ssort (cntKey C) (List.range k)).length)).drop j = ssort (cntKey C) (List.range (k + 1)) from hok_)
        have hs_31 : Sat w [cObj b_1 51 [vw, vc], cL v_13 3 (encN .i64) (ssort (cntKey C) (List.range (k + 1)))] w_16 := hs_30.sub ((.cons_cons _ (.cons _ (.cons_cons _ .slnil))))
        exact ⟨(k + 1, v_13), ⟨rfl, rfl, rfl, rfl, rfl, trivial⟩, ⟨hs_31, by omega⟩, (show (W.length - (k + 1)) < (W.length - k) from by omega)⟩
      · have hs_26d : Sat w [cObj b_1 51 [vw, vc], cL v 3 (encN .i64) (ssort (cntKey C) (List.range k)), cL v_10 3 (encN .i64) ([k])] _ := hs_26
        have hS_13 : Sat w [cObj b_1 51 [vw, vc], cL v 3 (encN .i64) (ssort (cntKey C) (List.range k))] _ := hs_26d.sub ((.cons_cons _ (.cons_cons _ (.cons _ .slnil))))
        refine ⟨hS_13, ?_⟩
        have hs_32 : Sat w [cObj b_1 51 [vw, vc], cL v 3 (encN .i64) (ssort (cntKey C) (List.range k)), cL v_10 3 (encN .i64) ([k]), cL (Value.slice none 0 0) 3 (encN .i64) ([])] _ := hs_26d.newNilL 3 (encN .i64)
        refine RP.eff rfl rfl rfl (OpE.appendL 3 sl22 hs_32 rfl rfl rfl Try.underlying22 (((hs_32.rdL 1 rfl)).sub (a := 0) (b := j) (by omega) (by omega)) (by simp only [List.length_append, List.length_take, List.length_drop, List.length_cons, List.length_nil, List.length_map] at *; omega) (by simp only [List.length_append, List.length_take, List.length_drop, List.length_cons, List.length_nil, List.length_map] at *; omega) fun v_14 w_17 hs_33 hch_15 => ?_)
        have hs_33d : Sat w [cObj b_1 51 [vw, vc], cL v 3 (encN .i64) (ssort (cntKey C) (List.range k)), cL v_10 3 (encN .i64) ([k]), cL v_14 3 (encN .i64) (((ssort (cntKey C) (List.range k)).take j).drop 0)] _ := hs_33
        have hS_14 : Sat w [cObj b_1 51 [vw, vc], cL v 3 (encN .i64) (ssort (cntKey C) (List.range k))] _ := hs_33d.sub ((.cons_cons _ (.cons_cons _ (.cons _ (.cons _ .slnil)))))
        refine ⟨hS_14, ?_⟩
        refine RP.eff rfl rfl rfl (OpE.appendL 3 sl22 hs_33d rfl rfl rfl Try.underlying22 (hs_33d.rdL 2 rfl) (by simp only [List.length_append, List.length_take, List.length_drop, List.length_cons, List.length_nil, List.length_map] at *; omega) (by simp only [List.length_append, List.length_take, List.length_drop, List.length_cons, List.length_nil, List.length_map] at *; omega) fun v_15 w_18 hs_34 hch_16 => ?_)
        have hs_34d : Sat w [cObj b_1 51 [vw, vc], cL v 3 (encN .i64) (ssort (cntKey C) (List.range k)), cL v_10 3 (encN .i64) ([k]), cL v_15 3 (encN .i64) (((ssort (cntKey C) (List.range k)).take j).drop 0 ++ [k])] _ := hs_34
        have hS_15 : Sat w [cObj b_1 51 [vw, vc], cL v 3 (encN .i64) (ssort (cntKey C) (List.range k))] _ := hs_34d.sub ((.cons_cons _ (.cons_cons _ (.cons _ (.cons _ .slnil)))))
        refine ⟨hS_15, ?_⟩
        refine RP.eff rfl rfl rfl (OpE.appendL 3 sl22 hs_34d rfl rfl rfl Try.underlying22 (((hs_34d.rdL 1 rfl)).sub (a := j) (b := (ssort (cntKey C) (List.range k)).length) (by omega) (by omega)) (by simp only [List.length_append, List.length_take, List.length_drop, List.length_cons, List.length_nil, List.length_map] at *; omega) (by simp only [List.length_append, List.length_take, List.length_drop, List.length_cons, List.length_nil, List.length_map] at *; omega) fun v_16 w_19 hs_35 hch_17 => ?_)
        have hs_35d : Sat w [cObj b_1 51 [vw, vc], cL v 3 (encN .i64) (ssort (cntKey C) (List.range k)), cL v_10 3 (encN .i64) ([k]), cL v_16 3 (encN .i64) (((ssort (cntKey C) (List.range k)).take j).drop 0 ++ [k] ++ ((ssort (cntKey C) (List.range k)).take ((ssort (cntKey C) (List.range k)).length)).drop j)] _ := hs_35
        have hS_16 : Sat w [cObj b_1 51 [vw, vc], cL v 3 (encN .i64) (ssort (cntKey C) (List.range k))] _ := hs_35d.sub ((.cons_cons _ (.cons_cons _ (.cons _ (.cons _ .slnil)))))
        refine ⟨hS_16, ?_⟩
        refine RP.ev rfl rfl rfl (fun w' hS' => Ev.assign rfl) hS_16 ?_
        refine RP.fin ?_
        refine CW.region ?_
        refine RT.ev rfl rfl (Ev.addI (b := 1) rfl rfl (by omega)) ?_
        refine RT.ev rfl rfl (Ev.move rfl) ?_
        refine RT.nil ?_
        have hs_36 : Sat w [cObj b_1 51 [vw, vc], cL v 3 (encN .i64) (ssort (cntKey C) (List.range k)), cL v_10 3 (encN .i64) ([k]), cL v_16 3 (encN .i64) (ssort (cntKey C) (List.range (k + 1)))] w_19 := hs_35d.reL 3 rfl (show ((ssort (cntKey C) (List.range k)).take j).drop 0 ++ [k] ++ ((ssort (cntKey C) (List.range k)).take ((ssort (cntKey C) (List.range k)).length)).drop j = ssort (cntKey C) (List.range (k + 1)) from hok_)
        have hs_37 : Sat w [cObj b_1 51 [vw, vc], cL v_16 3 (encN .i64) (ssort (cntKey C) (List.range (k + 1)))] w_19 := hs_36.sub ((.cons_cons _ (.cons _ (.cons _ (.cons_cons _ .slnil)))))
        exact ⟨(k + 1, v_16), ⟨rfl, rfl, rfl, rfl, rfl, trivial⟩, ⟨hs_37, by omega⟩, (show (W.length - (k + 1)) < (W.length - k) from by omega)⟩
  · refine CW.exit0 ?_
    refine CW.seq ?_
    refine CW.region ?_
    refine RT.ev rfl rfl (Ev.move rfl) ?_
    refine RT.ev rfl rfl (Ev.assign rfl) ?_
    refine RT.nil ?_
    refine CW.ret ?_
    show PostK _ _ _ _ _ _
    refine post1 rfl rfl ?_
    have hs_38 : Sat w [cObj b_1 51 [vw, vc], cL v 3 (encN .i64) (ssort (cntKey C) (List.range W.length))] w_2 := hs_4.reL 1 rfl (show ssort (cntKey C) (List.range k) = ssort (cntKey C) (List.range W.length) from by rw [show k = W.length by omega])
    have hs_39 : Sat w [cL v 3 (encN .i64) (ssort (cntKey C) (List.range W.length))] w_2 := hs_38.sub ((.cons _ (.cons_cons _ .slnil)))
    exact hs_39

theorem bld_cnt {vs : List ByteArray} (h : bldE vs = 0) : ∀ c ∈ countsN vs, c ≤ 1000000 := fun c hc => by
  obtain ⟨i, hi⟩ := List.getElem?_of_mem hc
  have := counts_le hi
  have := bld_vlen h
  omega

theorem lexiconOrders_ok (v : Value) (vs : List ByteArray) (w : World) (hv : RdL w v encTx vs) (hn : vs.length ≤ 9223372036854775807) :
    CallsV Try.prog 19 [v] w fun r w' => r = .bool true ∧ Sat w [] w' := by
  have hs0 := Sat.start w
  refine callsV_of Try.func19 rfl rfl ?_
  refine CW.seq ?_
  refine CW.region ?_
  refine RT.ev rfl rfl (Ev.assign rfl) ?_
  refine RT.nil ?_
  refine CW.seq ?_
  refine CW.seq ?_
  refine CW.region ?_
  refine RT.ev rfl rfl (Ev.move rfl) ?_
  refine RT.eff rfl rfl (OpE.call ent35 rfl ((long_ok _ _ _ (hv.ext hs0.ext) (hn)).mono fun r_1 w_1 h_1 => ?_))
  obtain ⟨⟨lb_1, rfl⟩, hp_1⟩ := h_1
  have hs_1 : Sat w [] _ := hs0.adds hp_1
  refine RT.nil ?_
  refine CW.cond rfl (fun hc_1 => ?_) (fun hc_1 => ?_)
  · refine CW.seq ?_
    refine CW.region ?_
    refine RT.ev rfl rfl (Ev.assign rfl) ?_
    refine RT.nil ?_
    refine CW.ret ?_
    show PostK _ _ _ _ _ _
    refine post1 rfl rfl ?_
    have hs_2 : Sat w [] w_1 := hs_1.sub (.slnil)
    exact ⟨rfl, hs_2⟩
  · refine CW.skip ?_
    refine CW.seq ?_
    rcases Decidable.em (bldE vs = 0) with he | he
    · refine CW.region ?_
      refine RT.ev rfl rfl (Ev.move rfl) ?_
      refine RT.eff rfl rfl (OpE.call ent36 rfl ((built_good _ _ _ (hv.ext hs_1.ext) he).mono fun r_2 w_2 h_2 => ?_))
      obtain ⟨lg_1, lvw_1, lvc_1, lvo_1, rvw_1, rvc_1, rfl, hp_2⟩ := h_2
      have hs_3 : Sat w [cObj lg_1 92 [lvw_1, lvc_1, lvo_1], cL lvw_1 9 (encTx) (wordsN vs), cL lvc_1 3 (encN .i64) (countsN vs), cL lvo_1 3 (encN .i64) (ordN (wordsN vs)), cL rvw_1 9 (encTx) (wordsN vs), cL rvc_1 3 (encN .i64) (countsN vs)] _ := hs_1.adds hp_2
      refine RT.ev rfl rfl (Ev.move rfl) ?_
      refine RT.ev rfl rfl (Ev.extract rfl rfl) ?_
      refine RT.ev rfl rfl (Ev.extract rfl rfl) ?_
      refine RT.ev rfl rfl (Ev.extract rfl rfl) ?_
      refine RT.eff rfl rfl (OpE.alloc hs_3 zero51 fun b_1 w_3 hs_4 hch_1 hb_1 => ?_)
      have hs_4d : Sat w [cObj lg_1 92 [lvw_1, lvc_1, lvo_1], cL lvw_1 9 (encTx) (wordsN vs), cL lvc_1 3 (encN .i64) (countsN vs), cL lvo_1 3 (encN .i64) (ordN (wordsN vs)), cL rvw_1 9 (encTx) (wordsN vs), cL rvc_1 3 (encN .i64) (countsN vs), cObj b_1 51 [(Value.slice none 0 0), (Value.slice none 0 0)]] _ := hs_4
      refine RT.ev rfl rfl (Ev.assign rfl) ?_
      refine RT.eff rfl rfl (OpE.storeObjA (vs := [rvw_1, rvc_1]) agg51 hs_4d (i := 6) rfl rfl rfl rfl (fun v h => by simp only [List.mem_cons, List.not_mem_nil, or_false] at h; rcases h with rfl | rfl; exact (hs_4d.rdL 4 rfl).oneCell; exact (hs_4d.rdL 5 rfl).oneCell) fun w_4 hs_5 hch_2 => ?_)
      have hs_5d : Sat w [cObj lg_1 92 [lvw_1, lvc_1, lvo_1], cL lvw_1 9 (encTx) (wordsN vs), cL lvc_1 3 (encN .i64) (countsN vs), cL lvo_1 3 (encN .i64) (ordN (wordsN vs)), cL rvw_1 9 (encTx) (wordsN vs), cL rvc_1 3 (encN .i64) (countsN vs), cObj b_1 51 [rvw_1, rvc_1]] _ := hs_5
      refine RT.ev rfl rfl (Ev.assign rfl) ?_
      refine RT.nil ?_
      refine CW.seq ?_
      refine CW.seq ?_
      refine CW.region ?_
      refine RT.ev rfl rfl (Ev.move rfl) ?_
      refine RT.ev rfl rfl (Ev.notB rfl) ?_
      refine RT.ev rfl rfl (Ev.move rfl) ?_
      refine RT.yes rfl rfl rfl (rfl) ?_
      refine RT.ev rfl rfl (Ev.move rfl) ?_
      refine RT.yes rfl rfl rfl (rfl) ?_
      refine RT.ev rfl rfl (Ev.eqlPt Try.underlying46 rfl rfl) ?_
      refine RT.ev rfl rfl (Ev.pickN rfl (rfl) rfl) ?_
      refine RT.nil ?_
      refine CW.condF rfl (rfl) ?_
      refine CW.skip ?_
      refine CW.seq ?_
      refine CW.draw (fun w' => Sat w [cObj lg_1 92 [lvw_1, lvc_1, lvo_1], cL lvw_1 9 (encTx) (wordsN vs), cL lvc_1 3 (encN .i64) (countsN vs), cL lvo_1 3 (encN .i64) (ordN (wordsN vs)), cL rvw_1 9 (encTx) (wordsN vs), cL rvc_1 3 (encN .i64) (countsN vs), cObj b_1 51 [rvw_1, rvc_1]] w') (.free 0 (.free 2 (.one 1 (.one 3 (.one 4 (.free 5 (.free 6 (.free 8 (.one 7 (.one 9 (.one 10 (.free 11 (.free 12 (.one 13 (.free 14 (.free 15 .fin)))))))))))))))) mixed (by kernel_rfl) ?_
      have hs_6 := hs_5d.drew
      refine RP.ev rfl rfl rfl (fun w' hS' => Ev.move rfl) hs_6 ?_
      refine RP.ev rfl rfl rfl (fun w' hS' => Ev.ldObj agg51 rfl hS' (i := 6) rfl rfl) hs_6 ?_
      refine RP.eff rfl rfl rfl (OpE.call ent45 rfl ((byReverse_ok _ _ _ _ _ _ _ _ (hs_6.lexAt 0 1 2 3 rfl rfl rfl rfl) (ord_len he)).mono fun r_3 w_5 h_3 => ?_))
      have hp_3 := h_3
      have hs_7 : Sat w [cObj lg_1 92 [lvw_1, lvc_1, lvo_1], cL lvw_1 9 (encTx) (wordsN vs), cL lvc_1 3 (encN .i64) (countsN vs), cL lvo_1 3 (encN .i64) (ordN (wordsN vs)), cL rvw_1 9 (encTx) (wordsN vs), cL rvc_1 3 (encN .i64) (countsN vs), cObj b_1 51 [rvw_1, rvc_1], cL r_3 3 (encN .i64) (ordN (wordsN vs))] _ := hs_6.adds hp_3
      have hS_1 : Sat w [cObj lg_1 92 [lvw_1, lvc_1, lvo_1], cL lvw_1 9 (encTx) (wordsN vs), cL lvc_1 3 (encN .i64) (countsN vs), cL lvo_1 3 (encN .i64) (ordN (wordsN vs)), cL rvw_1 9 (encTx) (wordsN vs), cL rvc_1 3 (encN .i64) (countsN vs), cObj b_1 51 [rvw_1, rvc_1]] _ := hs_7.sub ((.cons_cons _ (.cons_cons _ (.cons_cons _ (.cons_cons _ (.cons_cons _ (.cons_cons _ (.cons_cons _ (.cons _ .slnil)))))))))
      refine ⟨hS_1, ?_⟩
      refine RP.eff rfl rfl rfl (OpE.call ent54 rfl ((rbyrev_ok _ _ _ _ (hs_7.rdL 4 rfl) ((hs_7.rdL 5 rfl).oneCell) (bld_sz he) (bld_len he)).mono fun r_4 w_6 h_4 => ?_))
      have hp_4 := h_4
      have hs_8 : Sat w [cObj lg_1 92 [lvw_1, lvc_1, lvo_1], cL lvw_1 9 (encTx) (wordsN vs), cL lvc_1 3 (encN .i64) (countsN vs), cL lvo_1 3 (encN .i64) (ordN (wordsN vs)), cL rvw_1 9 (encTx) (wordsN vs), cL rvc_1 3 (encN .i64) (countsN vs), cObj b_1 51 [rvw_1, rvc_1], cL r_3 3 (encN .i64) (ordN (wordsN vs)), cL r_4 3 (encN .i64) (ordN (wordsN vs))] _ := hs_7.adds hp_4
      have hS_2 : Sat w [cObj lg_1 92 [lvw_1, lvc_1, lvo_1], cL lvw_1 9 (encTx) (wordsN vs), cL lvc_1 3 (encN .i64) (countsN vs), cL lvo_1 3 (encN .i64) (ordN (wordsN vs)), cL rvw_1 9 (encTx) (wordsN vs), cL rvc_1 3 (encN .i64) (countsN vs), cObj b_1 51 [rvw_1, rvc_1]] _ := hs_8.sub ((.cons_cons _ (.cons_cons _ (.cons_cons _ (.cons_cons _ (.cons_cons _ (.cons_cons _ (.cons_cons _ (.cons _ (.cons _ .slnil))))))))))
      refine ⟨hS_2, ?_⟩
      refine RP.eff rfl rfl rfl (OpE.call ent26 rfl ((same_ok _ _ (ordN (wordsN vs)) (ordN (wordsN vs)) _ (hs_8.rdL 7 rfl) (hs_8.rdL 8 rfl) (by first | (have := ord_len he; omega) | (rw [← (ssort_stb _).length, List.length_range]; have := bld_len he; omega))).mono fun r_5 w_7 h_5 => ?_))
      obtain ⟨rfl, hp_5⟩ := h_5
      have hs_9 : Sat w [cObj lg_1 92 [lvw_1, lvc_1, lvo_1], cL lvw_1 9 (encTx) (wordsN vs), cL lvc_1 3 (encN .i64) (countsN vs), cL lvo_1 3 (encN .i64) (ordN (wordsN vs)), cL rvw_1 9 (encTx) (wordsN vs), cL rvc_1 3 (encN .i64) (countsN vs), cObj b_1 51 [rvw_1, rvc_1], cL r_3 3 (encN .i64) (ordN (wordsN vs)), cL r_4 3 (encN .i64) (ordN (wordsN vs))] _ := hs_8.adds hp_5
      have hS_3 : Sat w [cObj lg_1 92 [lvw_1, lvc_1, lvo_1], cL lvw_1 9 (encTx) (wordsN vs), cL lvc_1 3 (encN .i64) (countsN vs), cL lvo_1 3 (encN .i64) (ordN (wordsN vs)), cL rvw_1 9 (encTx) (wordsN vs), cL rvc_1 3 (encN .i64) (countsN vs), cObj b_1 51 [rvw_1, rvc_1]] _ := hs_9.sub ((.cons_cons _ (.cons_cons _ (.cons_cons _ (.cons_cons _ (.cons_cons _ (.cons_cons _ (.cons_cons _ (.cons _ (.cons _ .slnil))))))))))
      refine ⟨hS_3, ?_⟩
      refine RP.ev rfl rfl rfl (fun w' hS' => Ev.move rfl) hS_3 ?_
      refine RP.evYes rfl rfl rfl rfl (decide_eq_true rfl) rfl (fun w' hS' => Ev.move rfl) hS_3 ?_
      refine RP.evYes rfl rfl rfl rfl (decide_eq_true rfl) rfl (fun w' hS' => Ev.ldObj agg51 rfl hS' (i := 6) rfl rfl) hS_3 ?_
      refine RP.effYes rfl rfl rfl rfl (decide_eq_true rfl) rfl (OpE.call ent55 rfl ((byCount_ok _ _ _ _ _ _ _ _ (hs_9.lexAt 0 1 2 3 rfl rfl rfl rfl) (countsN_length vs) (bld_cnt he) (bld_len he)).mono fun r_6 w_8 h_6 => ?_))
      have hp_6 := h_6
      have hs_10 : Sat w [cObj lg_1 92 [lvw_1, lvc_1, lvo_1], cL lvw_1 9 (encTx) (wordsN vs), cL lvc_1 3 (encN .i64) (countsN vs), cL lvo_1 3 (encN .i64) (ordN (wordsN vs)), cL rvw_1 9 (encTx) (wordsN vs), cL rvc_1 3 (encN .i64) (countsN vs), cObj b_1 51 [rvw_1, rvc_1], cL r_3 3 (encN .i64) (ordN (wordsN vs)), cL r_4 3 (encN .i64) (ordN (wordsN vs)), cL r_6 3 (encN .i64) (ssort (cntKey (countsN vs)) (List.range (wordsN vs).length))] _ := hs_9.adds hp_6
      have hS_4 : Sat w [cObj lg_1 92 [lvw_1, lvc_1, lvo_1], cL lvw_1 9 (encTx) (wordsN vs), cL lvc_1 3 (encN .i64) (countsN vs), cL lvo_1 3 (encN .i64) (ordN (wordsN vs)), cL rvw_1 9 (encTx) (wordsN vs), cL rvc_1 3 (encN .i64) (countsN vs), cObj b_1 51 [rvw_1, rvc_1]] _ := hs_10.sub ((.cons_cons _ (.cons_cons _ (.cons_cons _ (.cons_cons _ (.cons_cons _ (.cons_cons _ (.cons_cons _ (.cons _ (.cons _ (.cons _ .slnil)))))))))))
      refine ⟨hS_4, ?_⟩
      refine RP.effYes rfl rfl rfl rfl (decide_eq_true rfl) rfl (OpE.call ent56 rfl ((rbyCount_ok _ _ _ _ _ (hs_10.rdL 4 rfl) (hs_10.rdL 5 rfl) (countsN_length vs) (bld_cnt he) (bld_len he)).mono fun r_7 w_9 h_7 => ?_))
      have hp_7 := h_7
      have hs_11 : Sat w [cObj lg_1 92 [lvw_1, lvc_1, lvo_1], cL lvw_1 9 (encTx) (wordsN vs), cL lvc_1 3 (encN .i64) (countsN vs), cL lvo_1 3 (encN .i64) (ordN (wordsN vs)), cL rvw_1 9 (encTx) (wordsN vs), cL rvc_1 3 (encN .i64) (countsN vs), cObj b_1 51 [rvw_1, rvc_1], cL r_3 3 (encN .i64) (ordN (wordsN vs)), cL r_4 3 (encN .i64) (ordN (wordsN vs)), cL r_6 3 (encN .i64) (ssort (cntKey (countsN vs)) (List.range (wordsN vs).length)), cL r_7 3 (encN .i64) (ssort (cntKey (countsN vs)) (List.range (wordsN vs).length))] _ := hs_10.adds hp_7
      have hS_5 : Sat w [cObj lg_1 92 [lvw_1, lvc_1, lvo_1], cL lvw_1 9 (encTx) (wordsN vs), cL lvc_1 3 (encN .i64) (countsN vs), cL lvo_1 3 (encN .i64) (ordN (wordsN vs)), cL rvw_1 9 (encTx) (wordsN vs), cL rvc_1 3 (encN .i64) (countsN vs), cObj b_1 51 [rvw_1, rvc_1]] _ := hs_11.sub ((.cons_cons _ (.cons_cons _ (.cons_cons _ (.cons_cons _ (.cons_cons _ (.cons_cons _ (.cons_cons _ (.cons _ (.cons _ (.cons _ (.cons _ .slnil))))))))))))
      refine ⟨hS_5, ?_⟩
      refine RP.effYes rfl rfl rfl rfl (decide_eq_true rfl) rfl (OpE.call ent26 rfl ((same_ok _ _ (ssort (cntKey (countsN vs)) (List.range (wordsN vs).length)) (ssort (cntKey (countsN vs)) (List.range (wordsN vs).length)) _ (hs_11.rdL 9 rfl) (hs_11.rdL 10 rfl) (by first | (have := ord_len he; omega) | (rw [← (ssort_stb _).length, List.length_range]; have := bld_len he; omega))).mono fun r_8 w_10 h_8 => ?_))
      obtain ⟨rfl, hp_8⟩ := h_8
      have hs_12 : Sat w [cObj lg_1 92 [lvw_1, lvc_1, lvo_1], cL lvw_1 9 (encTx) (wordsN vs), cL lvc_1 3 (encN .i64) (countsN vs), cL lvo_1 3 (encN .i64) (ordN (wordsN vs)), cL rvw_1 9 (encTx) (wordsN vs), cL rvc_1 3 (encN .i64) (countsN vs), cObj b_1 51 [rvw_1, rvc_1], cL r_3 3 (encN .i64) (ordN (wordsN vs)), cL r_4 3 (encN .i64) (ordN (wordsN vs)), cL r_6 3 (encN .i64) (ssort (cntKey (countsN vs)) (List.range (wordsN vs).length)), cL r_7 3 (encN .i64) (ssort (cntKey (countsN vs)) (List.range (wordsN vs).length))] _ := hs_11.adds hp_8
      have hS_6 : Sat w [cObj lg_1 92 [lvw_1, lvc_1, lvo_1], cL lvw_1 9 (encTx) (wordsN vs), cL lvc_1 3 (encN .i64) (countsN vs), cL lvo_1 3 (encN .i64) (ordN (wordsN vs)), cL rvw_1 9 (encTx) (wordsN vs), cL rvc_1 3 (encN .i64) (countsN vs), cObj b_1 51 [rvw_1, rvc_1]] _ := hs_12.sub ((.cons_cons _ (.cons_cons _ (.cons_cons _ (.cons_cons _ (.cons_cons _ (.cons_cons _ (.cons_cons _ (.cons _ (.cons _ (.cons _ (.cons _ .slnil))))))))))))
      refine ⟨hS_6, ?_⟩
      refine RP.ev rfl rfl rfl (fun w' hS' => Ev.pickY rfl (decide_eq_true rfl) rfl) hS_6 ?_
      refine RP.ev rfl rfl rfl (fun w' hS' => Ev.move rfl) hS_6 ?_
      refine RP.effYes rfl rfl rfl rfl (decide_eq_true rfl) rfl (OpE.call ent33 rfl ((lawake_ok _).mono fun r_9 w_11 h_9 => ?_))
      obtain ⟨rfl, hp_9⟩ := h_9
      have hs_13 : Sat w [cObj lg_1 92 [lvw_1, lvc_1, lvo_1], cL lvw_1 9 (encTx) (wordsN vs), cL lvc_1 3 (encN .i64) (countsN vs), cL lvo_1 3 (encN .i64) (ordN (wordsN vs)), cL rvw_1 9 (encTx) (wordsN vs), cL rvc_1 3 (encN .i64) (countsN vs), cObj b_1 51 [rvw_1, rvc_1], cL r_3 3 (encN .i64) (ordN (wordsN vs)), cL r_4 3 (encN .i64) (ordN (wordsN vs)), cL r_6 3 (encN .i64) (ssort (cntKey (countsN vs)) (List.range (wordsN vs).length)), cL r_7 3 (encN .i64) (ssort (cntKey (countsN vs)) (List.range (wordsN vs).length))] _ := hs_12.adds hp_9
      have hS_7 : Sat w [cObj lg_1 92 [lvw_1, lvc_1, lvo_1], cL lvw_1 9 (encTx) (wordsN vs), cL lvc_1 3 (encN .i64) (countsN vs), cL lvo_1 3 (encN .i64) (ordN (wordsN vs)), cL rvw_1 9 (encTx) (wordsN vs), cL rvc_1 3 (encN .i64) (countsN vs), cObj b_1 51 [rvw_1, rvc_1]] _ := hs_13.sub ((.cons_cons _ (.cons_cons _ (.cons_cons _ (.cons_cons _ (.cons_cons _ (.cons_cons _ (.cons_cons _ (.cons _ (.cons _ (.cons _ (.cons _ .slnil))))))))))))
      refine ⟨hS_7, ?_⟩
      refine RP.ev rfl rfl rfl (fun w' hS' => Ev.pickY rfl (decide_eq_true rfl) rfl) hS_7 ?_
      refine RP.ev rfl rfl rfl (fun w' hS' => Ev.assign rfl) hS_7 ?_
      refine RP.fin ?_
      refine CW.ret ?_
      show PostK _ _ _ _ _ _
      refine post1 rfl rfl ?_
      have hs_14 : Sat w [] w_11 := hs_13.sub ((.cons _ (.cons _ (.cons _ (.cons _ (.cons _ (.cons _ (.cons _ (.cons _ (.cons _ (.cons _ (.cons _ .slnil))))))))))))
      exact ⟨rfl, hs_14⟩
    · refine CW.region ?_
      refine RT.ev rfl rfl (Ev.move rfl) ?_
      refine RT.eff rfl rfl (OpE.call ent36 rfl ((built_err _ _ _ (hv.ext hs_1.ext) he).mono fun r_10 w_12 h_10 => ?_))
      obtain ⟨rfl, hp_10⟩ := h_10
      have hs_15 : Sat w [] _ := hs_1.adds hp_10
      refine RT.ev rfl rfl (Ev.move rfl) ?_
      refine RT.ev rfl rfl (Ev.extract rfl rfl) ?_
      refine RT.ev rfl rfl (Ev.extract rfl rfl) ?_
      refine RT.ev rfl rfl (Ev.extract rfl rfl) ?_
      refine RT.eff rfl rfl (OpE.alloc hs_15 zero51 fun b_2 w_13 hs_16 hch_3 hb_2 => ?_)
      have hs_16d : Sat w [cObj b_2 51 [(Value.slice none 0 0), (Value.slice none 0 0)]] _ := hs_16
      refine RT.ev rfl rfl (Ev.assign rfl) ?_
      refine RT.eff rfl rfl (OpE.storeObjA (vs := [(Value.slice none 0 0), (Value.slice none 0 0)]) agg51 hs_16d (i := 0) rfl rfl rfl rfl (fun v h => by simp only [List.mem_cons, List.not_mem_nil, or_false] at h; rcases h with rfl | rfl; exact rfl; exact rfl) fun w_14 hs_17 hch_4 => ?_)
      have hs_17d : Sat w [cObj b_2 51 [(Value.slice none 0 0), (Value.slice none 0 0)]] _ := hs_17
      refine RT.ev rfl rfl (Ev.assign rfl) ?_
      refine RT.nil ?_
      refine CW.seq ?_
      refine CW.seq ?_
      refine CW.region ?_
      refine RT.ev rfl rfl (Ev.move rfl) ?_
      refine RT.ev rfl rfl (Ev.notB rfl) ?_
      refine RT.ev rfl rfl (Ev.move rfl) ?_
      refine RT.yes rfl rfl rfl (rfl) ?_
      refine RT.ev rfl rfl (Ev.move rfl) ?_
      refine RT.yes rfl rfl rfl (rfl) ?_
      refine RT.ev rfl rfl (Ev.eqlPt Try.underlying46 rfl rfl) ?_
      refine RT.ev rfl rfl (Ev.pickN rfl (rfl) rfl) ?_
      refine RT.nil ?_
      refine CW.condT rfl (rfl) ?_
      refine CW.seq ?_
      refine CW.region ?_
      refine RT.ev rfl rfl (Ev.move rfl) ?_
      refine RT.ev rfl rfl (Ev.move rfl) ?_
      refine RT.yes rfl rfl rfl (rfl) ?_
      refine RT.eff rfl rfl (OpE.call ent33 rfl ((lawake_ok _).mono fun r_11 w_15 h_11 => ?_))
      obtain ⟨rfl, hp_11⟩ := h_11
      have hs_18 : Sat w [cObj b_2 51 [(Value.slice none 0 0), (Value.slice none 0 0)]] _ := hs_17d.adds hp_11
      refine RT.ev rfl rfl (Ev.pickY rfl (rfl) rfl) ?_
      refine RT.ev rfl rfl (Ev.assign rfl) ?_
      refine RT.nil ?_
      refine CW.ret ?_
      show PostK _ _ _ _ _ _
      refine post1 rfl rfl ?_
      have hs_19 : Sat w [] w_15 := hs_18.sub ((.cons _ .slnil))
      exact ⟨rfl, hs_19⟩

end Go.Proofs.Ytfhbflhnelbkfaa
