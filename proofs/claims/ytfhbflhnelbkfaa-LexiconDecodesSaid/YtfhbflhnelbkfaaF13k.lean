/- The walks of the functions of F13k, printed by our own program (kwgen.py) out of our descriptions (base.py). -/
import Derived.Test.YtfhbflhnelbkfaaF13d
import Derived.Test.YtfhbflhnelbkfaaTab
namespace Go.Proofs.Ytfhbflhnelbkfaa
open Go.RowKit Go.Kw
set_option maxRecDepth 100000
set_option linter.unusedVariables false
set_option linter.unusedSimpArgs false
theorem rcommon_ok (a b : ByteArray) (w : World) (ha : a.size ≤ 1000000) :
    CallsV Try.prog 88 [(Value.string a), (Value.string b)] w fun r w' => r = .int .i64 ((comN a b : Nat) : Int) ∧ Sat w [] w' := by
  have hs0 := Sat.start w
  refine callsV_of Try.func88 rfl rfl ?_
  refine CW.seq ?_
  refine CW.region ?_
  refine RT.ev rfl rfl (Ev.assign rfl) ?_
  refine RT.nil ?_
  refine CW.seq ?_
  refine CW.region ?_
  refine RT.ev rfl rfl (Ev.assign rfl) ?_
  refine RT.nil ?_
  refine CW.seq ?_
  refine CW.block ?_
  refine CW.loop (α := Nat) (fun k => [(0, (Value.string a)), (1, (Value.string b)), (5, (Value.int .i64 ((k : Nat) : Int)))]) (fun k w' => Sat w [] w' ∧ (k ≤ a.size) ∧ (comN a b = k + comL (a.data.toList.drop k) (b.data.toList.drop k))) (fun k => a.size - k) 0 ⟨rfl, rfl, rfl, trivial⟩ ⟨hs0, Nat.zero_le _, by rw [List.drop_zero, List.drop_zero, Nat.zero_add]; rfl⟩ ?_
  rintro k w_1 ⟨hs_1, hk, hcom⟩
  show CW _ _ _ _ [(0, (Value.string a)), (1, (Value.string b)), (5, (Value.int .i64 ((k : Nat) : Int)))] _
  refine CW.seq ?_
  refine CW.seq ?_
  rcases (show ¬ k < a.size ∨ (k < a.size ∧ ¬ k < b.size) ∨ (k < a.size ∧ k < b.size) by omega) with hcw | hcw | hcw
  · refine CW.draw (fun w' => Sat w [] w') (.free 0 (.free 1 (.free 2 (.free 3 (.free 4 (.free 5 (.free 6 (.free 7 (.free 8 (.free 9 (.free 10 (.free 11 (.free 12 (.free 13 (.free 14 (.free 15 (.free 16 (.free 17 (.free 18 .fin))))))))))))))))))) mixed (by kernel_rfl) ?_
    have hs_2 := hs_1.drew
    refine RP.ev rfl rfl rfl (fun w' hS' => Ev.move rfl) hs_2 ?_
    refine RP.ev rfl rfl rfl (fun w' hS' => Ev.move rfl) hs_2 ?_
    refine RP.ev rfl rfl rfl (fun w' hS' => Ev.lenStr Try.underlying9 rfl) hs_2 ?_
    refine RP.ev rfl rfl rfl (fun w' hS' => Ev.lssN rfl rfl) hs_2 ?_
    refine RP.ev rfl rfl rfl (fun w' hS' => Ev.move rfl) hs_2 ?_
    refine RP.no rfl rfl rfl rfl (decide_eq_false hcw) rfl hs_2 ?_
    refine RP.no rfl rfl rfl rfl (decide_eq_false hcw) rfl hs_2 ?_
    refine RP.no rfl rfl rfl rfl (decide_eq_false hcw) rfl hs_2 ?_
    refine RP.no rfl rfl rfl rfl (decide_eq_false hcw) rfl hs_2 ?_
    refine RP.ev rfl rfl rfl (fun w' hS' => Ev.pickN rfl (decide_eq_false hcw) rfl) hs_2 ?_
    refine RP.ev rfl rfl rfl (fun w' hS' => Ev.move rfl) hs_2 ?_
    refine RP.no rfl rfl rfl rfl (rfl) rfl hs_2 ?_
    refine RP.no rfl rfl rfl rfl (rfl) rfl hs_2 ?_
    refine RP.no rfl rfl rfl rfl (rfl) rfl hs_2 ?_
    refine RP.no rfl rfl rfl rfl (rfl) rfl hs_2 ?_
    refine RP.no rfl rfl rfl rfl (rfl) rfl hs_2 ?_
    refine RP.no rfl rfl rfl rfl (rfl) rfl hs_2 ?_
    refine RP.no rfl rfl rfl rfl (rfl) rfl hs_2 ?_
    refine RP.ev rfl rfl rfl (fun w' hS' => Ev.pickN rfl (rfl) rfl) hs_2 ?_
    refine RP.fin ?_
    refine CW.condF rfl (rfl) ?_
    refine CW.exit0 ?_
    refine CW.seq ?_
    refine CW.region ?_
    refine RT.ev rfl rfl (Ev.move rfl) ?_
    refine RT.ev rfl rfl (Ev.assign rfl) ?_
    refine RT.nil ?_
    refine CW.ret ?_
    show PostK _ _ _ _ _ _
    refine post1 rfl rfl ?_
    have hq : comN a b = k := com_end1 (by rw [bsz]; omega) hcom
    rw [hq]
    exact ⟨rfl, hs_2⟩
  · refine CW.draw (fun w' => Sat w [] w') (.free 0 (.free 1 (.free 2 (.free 3 (.free 4 (.free 5 (.free 6 (.free 7 (.free 8 (.free 9 (.free 10 (.free 11 (.free 12 (.free 13 (.free 14 (.free 15 (.free 16 (.free 17 (.free 18 .fin))))))))))))))))))) mixed (by kernel_rfl) ?_
    have hs_3 := hs_1.drew
    refine RP.ev rfl rfl rfl (fun w' hS' => Ev.move rfl) hs_3 ?_
    refine RP.ev rfl rfl rfl (fun w' hS' => Ev.move rfl) hs_3 ?_
    refine RP.ev rfl rfl rfl (fun w' hS' => Ev.lenStr Try.underlying9 rfl) hs_3 ?_
    refine RP.ev rfl rfl rfl (fun w' hS' => Ev.lssN rfl rfl) hs_3 ?_
    refine RP.ev rfl rfl rfl (fun w' hS' => Ev.move rfl) hs_3 ?_
    refine RP.evYes rfl rfl rfl rfl (decide_eq_true hcw.1) rfl (fun w' hS' => Ev.move rfl) hs_3 ?_
    refine RP.evYes rfl rfl rfl rfl (decide_eq_true hcw.1) rfl (fun w' hS' => Ev.move rfl) hs_3 ?_
    refine RP.evYes rfl rfl rfl rfl (decide_eq_true hcw.1) rfl (fun w' hS' => Ev.lenStr Try.underlying9 rfl) hs_3 ?_
    refine RP.evYes rfl rfl rfl rfl (decide_eq_true hcw.1) rfl (fun w' hS' => Ev.lssN rfl rfl) hs_3 ?_
    refine RP.ev rfl rfl rfl (fun w' hS' => Ev.pickY rfl (decide_eq_true hcw.1) rfl) hs_3 ?_
    refine RP.ev rfl rfl rfl (fun w' hS' => Ev.move rfl) hs_3 ?_
    refine RP.no rfl rfl rfl rfl (decide_eq_false hcw.2) rfl hs_3 ?_
    refine RP.no rfl rfl rfl rfl (decide_eq_false hcw.2) rfl hs_3 ?_
    refine RP.no rfl rfl rfl rfl (decide_eq_false hcw.2) rfl hs_3 ?_
    refine RP.no rfl rfl rfl rfl (decide_eq_false hcw.2) rfl hs_3 ?_
    refine RP.no rfl rfl rfl rfl (decide_eq_false hcw.2) rfl hs_3 ?_
    refine RP.no rfl rfl rfl rfl (decide_eq_false hcw.2) rfl hs_3 ?_
    refine RP.no rfl rfl rfl rfl (decide_eq_false hcw.2) rfl hs_3 ?_
    refine RP.ev rfl rfl rfl (fun w' hS' => Ev.pickN rfl (decide_eq_false hcw.2) rfl) hs_3 ?_
    refine RP.fin ?_
    refine CW.condF rfl (rfl) ?_
    refine CW.exit0 ?_
    refine CW.seq ?_
    refine CW.region ?_
    refine RT.ev rfl rfl (Ev.move rfl) ?_
    refine RT.ev rfl rfl (Ev.assign rfl) ?_
    refine RT.nil ?_
    refine CW.ret ?_
    show PostK _ _ _ _ _ _
    refine post1 rfl rfl ?_
    have hq : comN a b = k := com_end2 (by rw [bsz]; omega) hcom
    rw [hq]
    exact ⟨rfl, hs_3⟩
  · obtain ⟨x, hx⟩ : ∃ x, a.data.toList[k]? = some x := ⟨_, List.getElem?_eq_getElem (by rw [bsz]; omega)⟩
    obtain ⟨y, hy⟩ : ∃ y, b.data.toList[k]? = some y := ⟨_, List.getElem?_eq_getElem (by rw [bsz]; omega)⟩
    refine CW.draw (fun w' => Sat w [] w') (.free 0 (.free 1 (.free 2 (.free 3 (.free 4 (.free 5 (.free 6 (.free 7 (.free 8 (.free 9 (.free 10 (.free 11 (.free 12 (.free 13 (.free 14 (.free 15 (.free 16 (.free 17 (.free 18 .fin))))))))))))))))))) mixed (by kernel_rfl) ?_
    have hs_4 := hs_1.drew
    refine RP.ev rfl rfl rfl (fun w' hS' => Ev.move rfl) hs_4 ?_
    refine RP.ev rfl rfl rfl (fun w' hS' => Ev.move rfl) hs_4 ?_
    refine RP.ev rfl rfl rfl (fun w' hS' => Ev.lenStr Try.underlying9 rfl) hs_4 ?_
    refine RP.ev rfl rfl rfl (fun w' hS' => Ev.lssN rfl rfl) hs_4 ?_
    refine RP.ev rfl rfl rfl (fun w' hS' => Ev.move rfl) hs_4 ?_
    refine RP.evYes rfl rfl rfl rfl (decide_eq_true hcw.1) rfl (fun w' hS' => Ev.move rfl) hs_4 ?_
    refine RP.evYes rfl rfl rfl rfl (decide_eq_true hcw.1) rfl (fun w' hS' => Ev.move rfl) hs_4 ?_
    refine RP.evYes rfl rfl rfl rfl (decide_eq_true hcw.1) rfl (fun w' hS' => Ev.lenStr Try.underlying9 rfl) hs_4 ?_
    refine RP.evYes rfl rfl rfl rfl (decide_eq_true hcw.1) rfl (fun w' hS' => Ev.lssN rfl rfl) hs_4 ?_
    refine RP.ev rfl rfl rfl (fun w' hS' => Ev.pickY rfl (decide_eq_true hcw.1) rfl) hs_4 ?_
    refine RP.ev rfl rfl rfl (fun w' hS' => Ev.move rfl) hs_4 ?_
    refine RP.evYes rfl rfl rfl rfl (decide_eq_true hcw.2) rfl (fun w' hS' => Ev.move rfl) hs_4 ?_
    refine RP.evYes rfl rfl rfl rfl (decide_eq_true hcw.2) rfl (fun w' hS' => Ev.move rfl) hs_4 ?_
    refine RP.evYes rfl rfl rfl rfl (decide_eq_true hcw.2) rfl (fun w' hS' => Ev.idxStr Try.underlying9 rfl rfl hx) hs_4 ?_
    refine RP.evYes rfl rfl rfl rfl (decide_eq_true hcw.2) rfl (fun w' hS' => Ev.move rfl) hs_4 ?_
    refine RP.evYes rfl rfl rfl rfl (decide_eq_true hcw.2) rfl (fun w' hS' => Ev.move rfl) hs_4 ?_
    refine RP.evYes rfl rfl rfl rfl (decide_eq_true hcw.2) rfl (fun w' hS' => Ev.idxStr Try.underlying9 rfl rfl hy) hs_4 ?_
    refine RP.evYes rfl rfl rfl rfl (decide_eq_true hcw.2) rfl (fun w' hS' => Ev.eqlN rfl rfl) hs_4 ?_
    refine RP.ev rfl rfl rfl (fun w' hS' => Ev.pickY rfl (decide_eq_true hcw.2) rfl) hs_4 ?_
    refine RP.fin ?_
    refine CW.condD rfl (fun hc_1 => ?_) (fun hc_1 => ?_)
    · refine CW.skip ?_
      refine CW.block ?_
      refine CW.region ?_
      refine RT.ev rfl rfl (Ev.move rfl) ?_
      refine RT.ev rfl rfl (Ev.addI (b := 1) rfl rfl (by omega)) ?_
      refine RT.ev rfl rfl (Ev.assign rfl) ?_
      refine RT.nil ?_
      exact ⟨k + 1, ⟨rfl, rfl, rfl, trivial⟩, ⟨hs_4, by omega, com_go hx hy hcom hc_1⟩, (show (a.size - (k + 1)) < (a.size - k) from by omega)⟩
    · refine CW.exit0 ?_
      refine CW.seq ?_
      refine CW.region ?_
      refine RT.ev rfl rfl (Ev.move rfl) ?_
      refine RT.ev rfl rfl (Ev.assign rfl) ?_
      refine RT.nil ?_
      refine CW.ret ?_
      show PostK _ _ _ _ _ _
      refine post1 rfl rfl ?_
      have hq : comN a b = k := com_no hx hy hcom hc_1
      rw [hq]
      exact ⟨rfl, hs_4⟩

theorem com_zero {W : List ByteArray} {k : Nat} {p x : ByteArray} (hp : p = prevN W k) (hk : k = 0) : 0 = comN p x := by
  subst hk; subst hp
  simp [comN, prevN, comL]
theorem bld_okW2 {vs : List ByteArray} (h : bldE vs = 0) : okW (wordsN vs) := chk_okW (bld_chk h)
theorem bld_120b {vs : List ByteArray} (h : bldE vs = 0) : ∀ x ∈ wordsN vs, x.size ≤ 120 := fun x hx => (chk_all (bld_chk h) x (wordsN_mem.1 hx)).1
theorem bld_c4 {vs : List ByteArray} (h : bldE vs = 0) : ∀ c ∈ countsN vs, 1 ≤ c ∧ c ≤ 4096 := fun c hc => by
  obtain ⟨i, hi⟩ := List.getElem?_of_mem hc
  have := counts_le hi
  have := bld_vlen h
  exact ⟨counts_pos hi, by omega⟩
theorem bld_1024 {vs : List ByteArray} (h : bldE vs = 0) : (wordsN vs).length ≤ 1024 := by
  unfold bldE at h
  split at h
  · cases h
  · split at h
    · rename_i h1 h2; exact absurd h h2
    · split at h
      · cases h
      · omega
theorem bld_sum {vs : List ByteArray} (h : bldE vs = 0) : (countsN vs).sum ≤ 4096 := by rw [counts_sum]; exact bld_vlen h

theorem rbytes13_ok (vw vc : Value) (W : List ByteArray) (C : List Nat) (w : World) (hv : RdL w vw encTx W) (hvc : RdL w vc (encN .i64) C) (hCl : C.length = W.length) (hsz : ∀ x ∈ W, x.size ≤ 120) (hC : ∀ c ∈ C, 1 ≤ c ∧ c ≤ 4096) (hn : W.length ≤ 1024) :
    CallsV Try.prog 52 [(Value.agg #[vw, vc])] w fun r w' => Sat w [cL r 5 (encN .u8) (sealN (encA W C W.length))] w' := by
  have hs0 := Sat.start w
  refine callsV_of Try.func52 rfl rfl ?_
  refine CW.seq ?_
  refine CW.region ?_
  refine RT.eff rfl rfl (OpE.box hs0 rfl fun b_1 w_1 hs_1 hch_1 hb_1 => ?_)
  have hs_1d : Sat w [cObj b_1 51 [vw, vc]] _ := hs_1
  refine RT.ev rfl rfl (Ev.assign rfl) ?_
  refine RT.nil ?_
  refine CW.seq ?_
  refine CW.region ?_
  refine RT.ev rfl rfl (Ev.fieldAddr fld51_0 rfl rfl) ?_
  refine RT.ev rfl rfl (Ev.load scal45 rfl (hs_1d.cell (i := 0) (j := 0) rfl rfl)) ?_
  refine RT.ev rfl rfl (Ev.lenL Try.underlying45 rfl (hv.ext hs_1d.ext)) ?_
  refine RT.ev rfl rfl (Ev.convK (by rw [Try.underlying3]; rfl) Try.underlying108 rfl (wrap_u rfl (by (try simp only [IntKind.bits]); omega))) ?_
  refine RT.eff rfl rfl (OpE.call ent87 rfl ((ruv_ok (W.length) _ (by omega)).mono fun r_1 w_2 h_1 => ?_))
  have hp_1 := h_1
  have hs_2 : Sat w [cObj b_1 51 [vw, vc], cL r_1 5 (encN .u8) (uv (W.length))] _ := hs_1d.adds hp_1
  refine RT.ev rfl rfl (Ev.assign rfl) ?_
  refine RT.nil ?_
  refine CW.seq ?_
  refine CW.region ?_
  refine RT.ev rfl rfl (Ev.assign rfl) ?_
  refine RT.nil ?_
  refine CW.seq ?_
  refine CW.seq ?_
  have hs_3 : Sat w [cObj b_1 51 [vw, vc], cL r_1 5 (encN .u8) (encA W C 0)] w_2 := hs_2.reL 1 rfl (show uv (W.length) = encA W C 0 from rfl)
  refine CW.region ?_
  refine RT.ev rfl rfl (Ev.fieldAddr fld51_0 rfl rfl) ?_
  refine RT.ev rfl rfl (Ev.load scal45 rfl (hs_3.cell (i := 0) (j := 0) rfl rfl)) ?_
  refine RT.ev rfl rfl (Ev.lenL Try.underlying45 rfl (hv.ext hs_3.ext)) ?_
  refine RT.ev rfl rfl (Ev.move rfl) ?_
  refine RT.nil ?_
  refine CW.block ?_
  refine CW.loop (α := Nat × ByteArray × Value) (fun (k, p, v) => [(1, (Value.pointer (some ⟨b_1, 0, none⟩))), (3, v), (4, (Value.string p)), (14, vw), (15, (Value.int .i64 ((W.length : Nat) : Int))), (16, (Value.int .i64 ((k : Nat) : Int)))]) (fun (k, p, v) w' => Sat w [cObj b_1 51 [vw, vc], cL v 5 (encN .u8) (encA W C k)] w' ∧ (k ≤ W.length) ∧ (p = prevN W k) ∧ (p.size ≤ 120)) (fun (k, p, v) => W.length - k) (0, (ByteArray.mk #[]), r_1) ⟨rfl, rfl, rfl, rfl, rfl, rfl, trivial⟩ ⟨hs_3, Nat.zero_le _, rfl, Nat.zero_le _⟩ ?_
  rintro ⟨k, p, v⟩ w_3 ⟨hs_4, hk, hp, hpl⟩
  show CW _ _ _ _ [(1, (Value.pointer (some ⟨b_1, 0, none⟩))), (3, v), (4, (Value.string p)), (14, vw), (15, (Value.int .i64 ((W.length : Nat) : Int))), (16, (Value.int .i64 ((k : Nat) : Int)))] _
  refine CW.seq ?_
  refine CW.region ?_
  refine RT.ev rfl rfl (Ev.lssN rfl rfl) ?_
  refine RT.nil ?_
  refine CW.seq ?_
  refine CW.condD rfl (fun hc_1 => ?_) (fun hc_1 => ?_)
  · refine CW.skip ?_
    refine CW.seq ?_
    refine CW.block ?_
    refine CW.seq ?_
    obtain ⟨x, hx⟩ : ∃ x, (W)[k]? = some x := ⟨_, List.getElem?_eq_getElem hc_1⟩
    obtain ⟨c, hcc⟩ : ∃ c, C[k]? = some c := ⟨_, List.getElem?_eq_getElem (by omega)⟩
    have hxs := hsz x (List.mem_of_getElem? hx)
    have hcb := hC c (List.mem_of_getElem? hcc)
    have hcm := comN_le p x
    have hel := encA_length C hsz k (by omega)
    have hu1 := uv_le (comN p x)
    have hu2 := uv_le (x.size - comN p x)
    have hu3 := uv_le (c - 1)
    refine CW.region ?_
    refine RT.ev rfl rfl (Ev.move rfl) ?_
    refine RT.ev rfl rfl (Ev.idxL (E := encTx) sl45 rfl rfl (hv.ext hs_4.ext) (by omega)) ?_
    refine RT.ev rfl rfl (Ev.ldL (E := encTx) scal9 rfl (hv.ext hs_4.ext) hx (by decide) rfl) ?_
    refine RT.ev rfl rfl (Ev.assign rfl) ?_
    refine RT.ev rfl rfl (Ev.assign rfl) ?_
    refine RT.nil ?_
    refine CW.seq ?_
    refine CW.region ?_
    refine RT.ev rfl rfl (Ev.assign rfl) ?_
    refine RT.nil ?_
    refine CW.seq ?_
    refine CW.seq ?_
    refine CW.region ?_
    refine RT.ev rfl rfl (Ev.move rfl) ?_
    refine RT.ev rfl rfl (Ev.gtrN (b := 0) rfl rfl) ?_
    refine RT.nil ?_
    refine CW.condD rfl (fun hc_2 => ?_) (fun hc_2 => ?_)
    · refine CW.region ?_
      refine RT.ev rfl rfl (Ev.move rfl) ?_
      refine RT.ev rfl rfl (Ev.move rfl) ?_
      refine RT.eff rfl rfl (OpE.call ent88 rfl ((rcommon_ok p x _ (by omega)).mono fun r_2 w_4 h_2 => ?_))
      obtain ⟨rfl, hp_2⟩ := h_2
      have hs_5 : Sat w [cObj b_1 51 [vw, vc], cL v 5 (encN .u8) (encA W C k)] _ := hs_4.adds hp_2
      refine RT.ev rfl rfl (Ev.assign rfl) ?_
      refine RT.nil ?_
      refine CW.seq ?_
      refine CW.region ?_
      refine RT.ev rfl rfl (Ev.move rfl) ?_
      refine RT.ev rfl rfl (Ev.move rfl) ?_
      refine RT.ev rfl rfl (Ev.convK (by rw [Try.underlying3]; rfl) Try.underlying108 rfl (wrap_u rfl (by (try simp only [IntKind.bits]); omega))) ?_
      refine RT.eff rfl rfl (OpE.call ent87 rfl ((ruv_ok ((comN p x)) _ (by omega)).mono fun r_3 w_5 h_3 => ?_))
      have hp_3 := h_3
      have hs_6 : Sat w [cObj b_1 51 [vw, vc], cL v 5 (encN .u8) (encA W C k), cL r_3 5 (encN .u8) (uv ((comN p x)))] _ := hs_5.adds hp_3
      refine RT.eff rfl rfl (OpE.appendL 1 sl40 hs_6 rfl rfl rfl Try.underlying40 (hs_6.rdL 2 rfl) (by (try simp only [List.length_append, strB_length, ByteArray.size_extract]); omega) (by (try simp only [List.length_append, strB_length, ByteArray.size_extract]); omega) fun v_1 w_6 hs_7 hch_2 => ?_)
      have hs_7d : Sat w [cObj b_1 51 [vw, vc], cL v_1 5 (encN .u8) (encA W C k ++ uv ((comN p x))), cL r_3 5 (encN .u8) (uv ((comN p x)))] _ := hs_7
      refine RT.ev rfl rfl (Ev.move rfl) ?_
      refine RT.ev rfl rfl (Ev.lenStr Try.underlying9 rfl) ?_
      refine RT.ev rfl rfl (Ev.move rfl) ?_
      refine RT.ev rfl rfl (Ev.subI rfl rfl (by omega) (by omega)) ?_
      refine RT.ev rfl rfl (Ev.convK (by rw [Try.underlying3]; rfl) Try.underlying108 rfl (wrap_u rfl (by (try simp only [IntKind.bits]); omega))) ?_
      refine RT.eff rfl rfl (OpE.call ent87 rfl ((ruv_ok ((x.size - (comN p x))) _ (by omega)).mono fun r_4 w_7 h_4 => ?_))
      have hp_4 := h_4
      have hs_8 : Sat w [cObj b_1 51 [vw, vc], cL v_1 5 (encN .u8) (encA W C k ++ uv ((comN p x))), cL r_3 5 (encN .u8) (uv ((comN p x))), cL r_4 5 (encN .u8) (uv ((x.size - (comN p x))))] _ := hs_7d.adds hp_4
      refine RT.eff rfl rfl (OpE.appendL 1 sl40 hs_8 rfl rfl rfl Try.underlying40 (hs_8.rdL 3 rfl) (by (try simp only [List.length_append, strB_length, ByteArray.size_extract]); omega) (by (try simp only [List.length_append, strB_length, ByteArray.size_extract]); omega) fun v_2 w_8 hs_9 hch_3 => ?_)
      have hs_9d : Sat w [cObj b_1 51 [vw, vc], cL v_2 5 (encN .u8) (encA W C k ++ uv ((comN p x)) ++ uv ((x.size - (comN p x)))), cL r_3 5 (encN .u8) (uv ((comN p x))), cL r_4 5 (encN .u8) (uv ((x.size - (comN p x))))] _ := hs_9
      refine RT.ev rfl rfl (Ev.assign rfl) ?_
      refine RT.nil ?_
      refine CW.seq ?_
      have hshp_1 := (hs_9d.rdL (E := encN .u8) 1 rfl).shp (by decide)
      refine CW.draw (fun w' => Sat w [cObj b_1 51 [vw, vc], cL r_3 5 (encN .u8) (uv ((comN p x))), cL r_4 5 (encN .u8) (uv ((x.size - (comN p x))))] w') (.free 0 (.free 1 (.free 2 (.free 3 (.free 5 (.free 6 (.free 7 (.free 8 (.free 9 (.free 10 (.free 11 (.one 4 (.one 12 (.one 13 (.free 14 .fin))))))))))))))) mixed (by kernel_rfl) ?_
      have hs_10 := hs_9d.drew
      have hS_1 : Sat w [cObj b_1 51 [vw, vc], cL r_3 5 (encN .u8) (uv ((comN p x))), cL r_4 5 (encN .u8) (uv ((x.size - (comN p x))))] _ := hs_10.sub ((.cons_cons _ (.cons _ (.cons_cons _ (.cons_cons _ .slnil)))))
      refine RP.ev rfl rfl rfl (fun w' hS' => Ev.move rfl) hS_1 ?_
      refine RP.ev rfl rfl rfl (fun w' hS' => Ev.move rfl) hS_1 ?_
      refine RP.ev rfl rfl rfl (fun w' hS' => Ev.move rfl) hS_1 ?_
      refine RP.ev rfl rfl rfl (fun w' hS' => Ev.sliceStr (l := (comN p x)) (h := x.size) Try.underlying9 rfl ⟨_, rfl⟩ rfl (by omega) (by omega)) hS_1 ?_
      refine RP.ev rfl rfl rfl (fun w' hS' => Ev.fieldAddr fld51_1 rfl rfl) hS_1 ?_
      refine RP.ev rfl rfl rfl (fun w' hS' => Ev.load scal22 rfl (hS'.cell (i := 0) (j := 1) rfl rfl)) hS_1 ?_
      refine RP.ev rfl rfl rfl (fun w' hS' => Ev.move rfl) hS_1 ?_
      refine RP.ev rfl rfl rfl (fun w' hS' => Ev.idxL (E := encN .i64) sl22 rfl rfl (hvc.ext hS'.ext) (by omega)) hS_1 ?_
      refine RP.ev rfl rfl rfl (fun w' hS' => Ev.ldL (E := encN .i64) scal3 rfl (hvc.ext hS'.ext) hcc (by decide) rfl) hS_1 ?_
      refine RP.ev rfl rfl rfl (fun w' hS' => Ev.subI (b := 1) rfl rfl (by omega) (by omega)) hS_1 ?_
      refine RP.ev rfl rfl rfl (fun w' hS' => Ev.convK (by rw [Try.underlying3]; rfl) Try.underlying108 rfl (wrap_u rfl (by (try simp only [IntKind.bits]); omega))) hS_1 ?_
      refine RP.eff rfl rfl rfl (OpE.appendSrc 1 sl40 hs_10 rfl rfl rfl (srcStr Try.underlying9 _) (by (try simp only [List.length_append, strB_length, ByteArray.size_extract]); omega) (by (try simp only [List.length_append, strB_length, ByteArray.size_extract]); omega) fun v_3 w_9 hs_11 hch_4 => ?_)
      have hs_11d : Sat w [cObj b_1 51 [vw, vc], cL v_3 5 (encN .u8) (encA W C k ++ uv ((comN p x)) ++ uv ((x.size - (comN p x))) ++ strB (x.extract (comN p x) x.size)), cL r_3 5 (encN .u8) (uv ((comN p x))), cL r_4 5 (encN .u8) (uv ((x.size - (comN p x))))] _ := hs_11
      have hS_2 : Sat w [cObj b_1 51 [vw, vc], cL r_3 5 (encN .u8) (uv ((comN p x))), cL r_4 5 (encN .u8) (uv ((x.size - (comN p x))))] _ := hs_11d.sub ((.cons_cons _ (.cons _ (.cons_cons _ (.cons_cons _ .slnil)))))
      refine ⟨hS_2, ?_⟩
      refine RP.eff rfl rfl rfl (OpE.call ent87 rfl ((ruv_ok ((c - 1)) _ (by omega)).mono fun r_5 w_10 h_5 => ?_))
      have hp_5 := h_5
      have hs_12 : Sat w [cObj b_1 51 [vw, vc], cL v_3 5 (encN .u8) (encA W C k ++ uv ((comN p x)) ++ uv ((x.size - (comN p x))) ++ strB (x.extract (comN p x) x.size)), cL r_3 5 (encN .u8) (uv ((comN p x))), cL r_4 5 (encN .u8) (uv ((x.size - (comN p x)))), cL r_5 5 (encN .u8) (uv ((c - 1)))] _ := hs_11d.adds hp_5
      have hS_3 : Sat w [cObj b_1 51 [vw, vc], cL r_3 5 (encN .u8) (uv ((comN p x))), cL r_4 5 (encN .u8) (uv ((x.size - (comN p x))))] _ := hs_12.sub ((.cons_cons _ (.cons _ (.cons_cons _ (.cons_cons _ (.cons _ .slnil))))))
      refine ⟨hS_3, ?_⟩
      refine RP.eff rfl rfl rfl (OpE.appendL 1 sl40 hs_12 rfl rfl rfl Try.underlying40 (hs_12.rdL 4 rfl) (by (try simp only [List.length_append, strB_length, ByteArray.size_extract]); omega) (by (try simp only [List.length_append, strB_length, ByteArray.size_extract]); omega) fun v_4 w_11 hs_13 hch_5 => ?_)
      have hs_13d : Sat w [cObj b_1 51 [vw, vc], cL v_4 5 (encN .u8) (encA W C k ++ uv ((comN p x)) ++ uv ((x.size - (comN p x))) ++ strB (x.extract (comN p x) x.size) ++ uv ((c - 1))), cL r_3 5 (encN .u8) (uv ((comN p x))), cL r_4 5 (encN .u8) (uv ((x.size - (comN p x)))), cL r_5 5 (encN .u8) (uv ((c - 1)))] _ := hs_13
      have hS_4 : Sat w [cObj b_1 51 [vw, vc], cL r_3 5 (encN .u8) (uv ((comN p x))), cL r_4 5 (encN .u8) (uv ((x.size - (comN p x))))] _ := hs_13d.sub ((.cons_cons _ (.cons _ (.cons_cons _ (.cons_cons _ (.cons _ .slnil))))))
      refine ⟨hS_4, ?_⟩
      refine RP.ev rfl rfl rfl (fun w' hS' => Ev.assign rfl) hS_4 ?_
      refine RP.fin ?_
      refine CW.weaken [(1, _), (3, _), (4, _), (5, _), (6, _), (7, _), (14, _), (15, _), (16, _), (17, _), (22, _)] ⟨rfl, rfl, rfl, rfl, rfl, rfl, rfl, rfl, rfl, rfl, rfl, trivial⟩ ?_
      refine CW.region ?_
      refine RT.ev rfl rfl (Ev.move rfl) ?_
      refine RT.ev rfl rfl (Ev.assign rfl) ?_
      refine RT.nil ?_
      refine CW.region ?_
      refine RT.ev rfl rfl (Ev.addI (b := 1) rfl rfl (by omega)) ?_
      refine RT.ev rfl rfl (Ev.move rfl) ?_
      refine RT.nil ?_
      have hs_14 : Sat w [cObj b_1 51 [vw, vc], cL v_4 5 (encN .u8) (encA W C (k + 1)), cL r_3 5 (encN .u8) (uv ((comN p x))), cL r_4 5 (encN .u8) (uv ((x.size - (comN p x)))), cL r_5 5 (encN .u8) (uv ((c - 1)))] w_11 := hs_13d.reL 1 rfl (show encA W C k ++ uv ((comN p x)) ++ uv ((x.size - (comN p x))) ++ strB (x.extract (comN p x) x.size) ++ uv ((c - 1)) = encA W C (k + 1) from encA_step hx hcc hp)
      have hs_15 : Sat w [cObj b_1 51 [vw, vc], cL v_4 5 (encN .u8) (encA W C (k + 1))] w_11 := hs_14.sub ((.cons_cons _ (.cons_cons _ (.cons _ (.cons _ (.cons _ .slnil))))))
      exact ⟨(k + 1, x, v_4), ⟨rfl, rfl, rfl, rfl, rfl, rfl, trivial⟩, ⟨hs_15, by omega, (prevN_succ hx).symm, hxs⟩, (show (W.length - (k + 1)) < (W.length - k) from by omega)⟩
    · refine CW.skip ?_
      refine CW.seq ?_
      refine CW.weaken [(1, _), (3, _), (4, _), (5, _), (6, _), (7, (Value.int .i64 (((comN p x) : Nat) : Int))), (14, _), (15, _), (16, _), (17, _), (18, _), (19, _), (20, _), (21, _), (22, _)] ⟨rfl, rfl, rfl, rfl, rfl, congrArg some (congrArg (fun q : Nat => Value.int .i64 (q : Int)) (com_zero hp (by omega))), rfl, rfl, rfl, rfl, rfl, rfl, rfl, rfl, rfl, trivial⟩ ?_
      refine CW.region ?_
      refine RT.ev rfl rfl (Ev.move rfl) ?_
      refine RT.ev rfl rfl (Ev.move rfl) ?_
      refine RT.ev rfl rfl (Ev.convK (by rw [Try.underlying3]; rfl) Try.underlying108 rfl (wrap_u rfl (by (try simp only [IntKind.bits]); omega))) ?_
      refine RT.eff rfl rfl (OpE.call ent87 rfl ((ruv_ok ((comN p x)) _ (by omega)).mono fun r_6 w_12 h_6 => ?_))
      have hp_6 := h_6
      have hs_16 : Sat w [cObj b_1 51 [vw, vc], cL v 5 (encN .u8) (encA W C k), cL r_6 5 (encN .u8) (uv ((comN p x)))] _ := hs_4.adds hp_6
      refine RT.eff rfl rfl (OpE.appendL 1 sl40 hs_16 rfl rfl rfl Try.underlying40 (hs_16.rdL 2 rfl) (by (try simp only [List.length_append, strB_length, ByteArray.size_extract]); omega) (by (try simp only [List.length_append, strB_length, ByteArray.size_extract]); omega) fun v_5 w_13 hs_17 hch_6 => ?_)
      have hs_17d : Sat w [cObj b_1 51 [vw, vc], cL v_5 5 (encN .u8) (encA W C k ++ uv ((comN p x))), cL r_6 5 (encN .u8) (uv ((comN p x)))] _ := hs_17
      refine RT.ev rfl rfl (Ev.move rfl) ?_
      refine RT.ev rfl rfl (Ev.lenStr Try.underlying9 rfl) ?_
      refine RT.ev rfl rfl (Ev.move rfl) ?_
      refine RT.ev rfl rfl (Ev.subI rfl rfl (by omega) (by omega)) ?_
      refine RT.ev rfl rfl (Ev.convK (by rw [Try.underlying3]; rfl) Try.underlying108 rfl (wrap_u rfl (by (try simp only [IntKind.bits]); omega))) ?_
      refine RT.eff rfl rfl (OpE.call ent87 rfl ((ruv_ok ((x.size - (comN p x))) _ (by omega)).mono fun r_7 w_14 h_7 => ?_))
      have hp_7 := h_7
      have hs_18 : Sat w [cObj b_1 51 [vw, vc], cL v_5 5 (encN .u8) (encA W C k ++ uv ((comN p x))), cL r_6 5 (encN .u8) (uv ((comN p x))), cL r_7 5 (encN .u8) (uv ((x.size - (comN p x))))] _ := hs_17d.adds hp_7
      refine RT.eff rfl rfl (OpE.appendL 1 sl40 hs_18 rfl rfl rfl Try.underlying40 (hs_18.rdL 3 rfl) (by (try simp only [List.length_append, strB_length, ByteArray.size_extract]); omega) (by (try simp only [List.length_append, strB_length, ByteArray.size_extract]); omega) fun v_6 w_15 hs_19 hch_7 => ?_)
      have hs_19d : Sat w [cObj b_1 51 [vw, vc], cL v_6 5 (encN .u8) (encA W C k ++ uv ((comN p x)) ++ uv ((x.size - (comN p x)))), cL r_6 5 (encN .u8) (uv ((comN p x))), cL r_7 5 (encN .u8) (uv ((x.size - (comN p x))))] _ := hs_19
      refine RT.ev rfl rfl (Ev.assign rfl) ?_
      refine RT.nil ?_
      refine CW.seq ?_
      have hshp_2 := (hs_19d.rdL (E := encN .u8) 1 rfl).shp (by decide)
      refine CW.draw (fun w' => Sat w [cObj b_1 51 [vw, vc], cL r_6 5 (encN .u8) (uv ((comN p x))), cL r_7 5 (encN .u8) (uv ((x.size - (comN p x))))] w') (.free 0 (.free 1 (.free 2 (.free 3 (.free 5 (.free 6 (.free 7 (.free 8 (.free 9 (.free 10 (.free 11 (.one 4 (.one 12 (.one 13 (.free 14 .fin))))))))))))))) mixed (by kernel_rfl) ?_
      have hs_20 := hs_19d.drew
      have hS_5 : Sat w [cObj b_1 51 [vw, vc], cL r_6 5 (encN .u8) (uv ((comN p x))), cL r_7 5 (encN .u8) (uv ((x.size - (comN p x))))] _ := hs_20.sub ((.cons_cons _ (.cons _ (.cons_cons _ (.cons_cons _ .slnil)))))
      refine RP.ev rfl rfl rfl (fun w' hS' => Ev.move rfl) hS_5 ?_
      refine RP.ev rfl rfl rfl (fun w' hS' => Ev.move rfl) hS_5 ?_
      refine RP.ev rfl rfl rfl (fun w' hS' => Ev.move rfl) hS_5 ?_
      refine RP.ev rfl rfl rfl (fun w' hS' => Ev.sliceStr (l := (comN p x)) (h := x.size) Try.underlying9 rfl ⟨_, rfl⟩ rfl (by omega) (by omega)) hS_5 ?_
      refine RP.ev rfl rfl rfl (fun w' hS' => Ev.fieldAddr fld51_1 rfl rfl) hS_5 ?_
      refine RP.ev rfl rfl rfl (fun w' hS' => Ev.load scal22 rfl (hS'.cell (i := 0) (j := 1) rfl rfl)) hS_5 ?_
      refine RP.ev rfl rfl rfl (fun w' hS' => Ev.move rfl) hS_5 ?_
      refine RP.ev rfl rfl rfl (fun w' hS' => Ev.idxL (E := encN .i64) sl22 rfl rfl (hvc.ext hS'.ext) (by omega)) hS_5 ?_
      refine RP.ev rfl rfl rfl (fun w' hS' => Ev.ldL (E := encN .i64) scal3 rfl (hvc.ext hS'.ext) hcc (by decide) rfl) hS_5 ?_
      refine RP.ev rfl rfl rfl (fun w' hS' => Ev.subI (b := 1) rfl rfl (by omega) (by omega)) hS_5 ?_
      refine RP.ev rfl rfl rfl (fun w' hS' => Ev.convK (by rw [Try.underlying3]; rfl) Try.underlying108 rfl (wrap_u rfl (by (try simp only [IntKind.bits]); omega))) hS_5 ?_
      refine RP.eff rfl rfl rfl (OpE.appendSrc 1 sl40 hs_20 rfl rfl rfl (srcStr Try.underlying9 _) (by (try simp only [List.length_append, strB_length, ByteArray.size_extract]); omega) (by (try simp only [List.length_append, strB_length, ByteArray.size_extract]); omega) fun v_7 w_16 hs_21 hch_8 => ?_)
      have hs_21d : Sat w [cObj b_1 51 [vw, vc], cL v_7 5 (encN .u8) (encA W C k ++ uv ((comN p x)) ++ uv ((x.size - (comN p x))) ++ strB (x.extract (comN p x) x.size)), cL r_6 5 (encN .u8) (uv ((comN p x))), cL r_7 5 (encN .u8) (uv ((x.size - (comN p x))))] _ := hs_21
      have hS_6 : Sat w [cObj b_1 51 [vw, vc], cL r_6 5 (encN .u8) (uv ((comN p x))), cL r_7 5 (encN .u8) (uv ((x.size - (comN p x))))] _ := hs_21d.sub ((.cons_cons _ (.cons _ (.cons_cons _ (.cons_cons _ .slnil)))))
      refine ⟨hS_6, ?_⟩
      refine RP.eff rfl rfl rfl (OpE.call ent87 rfl ((ruv_ok ((c - 1)) _ (by omega)).mono fun r_8 w_17 h_8 => ?_))
      have hp_8 := h_8
      have hs_22 : Sat w [cObj b_1 51 [vw, vc], cL v_7 5 (encN .u8) (encA W C k ++ uv ((comN p x)) ++ uv ((x.size - (comN p x))) ++ strB (x.extract (comN p x) x.size)), cL r_6 5 (encN .u8) (uv ((comN p x))), cL r_7 5 (encN .u8) (uv ((x.size - (comN p x)))), cL r_8 5 (encN .u8) (uv ((c - 1)))] _ := hs_21d.adds hp_8
      have hS_7 : Sat w [cObj b_1 51 [vw, vc], cL r_6 5 (encN .u8) (uv ((comN p x))), cL r_7 5 (encN .u8) (uv ((x.size - (comN p x))))] _ := hs_22.sub ((.cons_cons _ (.cons _ (.cons_cons _ (.cons_cons _ (.cons _ .slnil))))))
      refine ⟨hS_7, ?_⟩
      refine RP.eff rfl rfl rfl (OpE.appendL 1 sl40 hs_22 rfl rfl rfl Try.underlying40 (hs_22.rdL 4 rfl) (by (try simp only [List.length_append, strB_length, ByteArray.size_extract]); omega) (by (try simp only [List.length_append, strB_length, ByteArray.size_extract]); omega) fun v_8 w_18 hs_23 hch_9 => ?_)
      have hs_23d : Sat w [cObj b_1 51 [vw, vc], cL v_8 5 (encN .u8) (encA W C k ++ uv ((comN p x)) ++ uv ((x.size - (comN p x))) ++ strB (x.extract (comN p x) x.size) ++ uv ((c - 1))), cL r_6 5 (encN .u8) (uv ((comN p x))), cL r_7 5 (encN .u8) (uv ((x.size - (comN p x)))), cL r_8 5 (encN .u8) (uv ((c - 1)))] _ := hs_23
      have hS_8 : Sat w [cObj b_1 51 [vw, vc], cL r_6 5 (encN .u8) (uv ((comN p x))), cL r_7 5 (encN .u8) (uv ((x.size - (comN p x))))] _ := hs_23d.sub ((.cons_cons _ (.cons _ (.cons_cons _ (.cons_cons _ (.cons _ .slnil))))))
      refine ⟨hS_8, ?_⟩
      refine RP.ev rfl rfl rfl (fun w' hS' => Ev.assign rfl) hS_8 ?_
      refine RP.fin ?_
      refine CW.weaken [(1, _), (3, _), (4, _), (5, _), (6, _), (7, _), (14, _), (15, _), (16, _), (17, _), (22, _)] ⟨rfl, rfl, rfl, rfl, rfl, rfl, rfl, rfl, rfl, rfl, rfl, trivial⟩ ?_
      refine CW.region ?_
      refine RT.ev rfl rfl (Ev.move rfl) ?_
      refine RT.ev rfl rfl (Ev.assign rfl) ?_
      refine RT.nil ?_
      refine CW.region ?_
      refine RT.ev rfl rfl (Ev.addI (b := 1) rfl rfl (by omega)) ?_
      refine RT.ev rfl rfl (Ev.move rfl) ?_
      refine RT.nil ?_
      have hs_24 : Sat w [cObj b_1 51 [vw, vc], cL v_8 5 (encN .u8) (encA W C (k + 1)), cL r_6 5 (encN .u8) (uv ((comN p x))), cL r_7 5 (encN .u8) (uv ((x.size - (comN p x)))), cL r_8 5 (encN .u8) (uv ((c - 1)))] w_18 := hs_23d.reL 1 rfl (show encA W C k ++ uv ((comN p x)) ++ uv ((x.size - (comN p x))) ++ strB (x.extract (comN p x) x.size) ++ uv ((c - 1)) = encA W C (k + 1) from encA_step hx hcc hp)
      have hs_25 : Sat w [cObj b_1 51 [vw, vc], cL v_8 5 (encN .u8) (encA W C (k + 1))] w_18 := hs_24.sub ((.cons_cons _ (.cons_cons _ (.cons _ (.cons _ (.cons _ .slnil))))))
      exact ⟨(k + 1, x, v_8), ⟨rfl, rfl, rfl, rfl, rfl, rfl, trivial⟩, ⟨hs_25, by omega, (prevN_succ hx).symm, hxs⟩, (show (W.length - (k + 1)) < (W.length - k) from by omega)⟩
  · refine CW.exit0 ?_
    refine CW.seq ?_
    have hs_26 : Sat w [cObj b_1 51 [vw, vc], cL v 5 (encN .u8) (encA W C W.length)] w_3 := hs_4.reL 1 rfl (show encA W C k = encA W C W.length from by rw [show k = W.length by omega])
    have hel := encA_length C hsz W.length (Nat.le_refl _)
    refine CW.region ?_
    refine RT.ev rfl rfl (Ev.move rfl) ?_
    refine RT.eff rfl rfl (OpE.call ent68 rfl ((rseal_ok _ (encA W C W.length) _ (hs_26.rdL 1 rfl) (encA_lt W C _) (by omega)).mono fun r_9 w_19 h_9 => ?_))
    have hp_9 := h_9
    have hs_27 : Sat w [cObj b_1 51 [vw, vc], cL v 5 (encN .u8) (encA W C W.length), cL r_9 5 (encN .u8) (sealN (encA W C W.length))] _ := hs_26.adds hp_9
    refine RT.ev rfl rfl (Ev.assign rfl) ?_
    refine RT.nil ?_
    refine CW.ret ?_
    show PostK _ _ _ _ _ _
    refine post1 rfl rfl ?_
    have hs_28 : Sat w [cL r_9 5 (encN .u8) (sealN (encA W C W.length))] w_19 := hs_27.sub ((.cons _ (.cons _ (.cons_cons _ .slnil))))
    exact hs_28

theorem lexiconEncodes_ok (v : Value) (vs : List ByteArray) (w : World) (hv : RdL w v encTx vs) (hn : vs.length ≤ 9223372036854775807) :
    CallsV Try.prog 17 [v] w fun r w' => r = .bool true ∧ Sat w [] w' := by
  have hs0 := Sat.start w
  refine callsV_of Try.func17 rfl rfl ?_
  refine CW.seq ?_
  refine CW.region ?_
  refine RT.ev rfl rfl (Ev.assign rfl) ?_
  refine RT.nil ?_
  refine CW.seq ?_
  refine CW.seq ?_
  refine CW.region ?_
  refine RT.ev rfl rfl (Ev.move rfl) ?_
  refine RT.eff rfl rfl (OpE.call ent35 rfl ((long_ok _ _ _ (hv.ext hs0.ext) (hn)).mono fun r_1 w_1 h_1 => ?_))
  obtain ⟨⟨lb_1, rfl⟩, hp_1⟩ := h_1
  have hs_1 : Sat w [] _ := hs0.adds hp_1
  refine RT.nil ?_
  refine CW.cond rfl (fun hc_1 => ?_) (fun hc_1 => ?_)
  · refine CW.seq ?_
    refine CW.region ?_
    refine RT.ev rfl rfl (Ev.assign rfl) ?_
    refine RT.nil ?_
    refine CW.ret ?_
    show PostK _ _ _ _ _ _
    refine post1 rfl rfl ?_
    have hs_2 : Sat w [] w_1 := hs_1.sub (.slnil)
    exact ⟨rfl, hs_2⟩
  · refine CW.skip ?_
    refine CW.seq ?_
    rcases Decidable.em (bldE vs = 0) with he | he
    · refine CW.region ?_
      refine RT.ev rfl rfl (Ev.move rfl) ?_
      refine RT.eff rfl rfl (OpE.call ent36 rfl ((built_good _ _ _ (hv.ext hs_1.ext) he).mono fun r_2 w_2 h_2 => ?_))
      obtain ⟨lg_1, lvw_1, lvc_1, lvo_1, rvw_1, rvc_1, rfl, hp_2⟩ := h_2
      have hs_3 : Sat w [cObj lg_1 92 [lvw_1, lvc_1, lvo_1], cL lvw_1 9 (encTx) (wordsN vs), cL lvc_1 3 (encN .i64) (countsN vs), cL lvo_1 3 (encN .i64) (ordN (wordsN vs)), cL rvw_1 9 (encTx) (wordsN vs), cL rvc_1 3 (encN .i64) (countsN vs)] _ := hs_1.adds hp_2
      refine RT.ev rfl rfl (Ev.move rfl) ?_
      refine RT.ev rfl rfl (Ev.extract rfl rfl) ?_
      refine RT.ev rfl rfl (Ev.extract rfl rfl) ?_
      refine RT.ev rfl rfl (Ev.extract rfl rfl) ?_
      refine RT.eff rfl rfl (OpE.alloc hs_3 zero51 fun b_1 w_3 hs_4 hch_1 hb_1 => ?_)
      have hs_4d : Sat w [cObj lg_1 92 [lvw_1, lvc_1, lvo_1], cL lvw_1 9 (encTx) (wordsN vs), cL lvc_1 3 (encN .i64) (countsN vs), cL lvo_1 3 (encN .i64) (ordN (wordsN vs)), cL rvw_1 9 (encTx) (wordsN vs), cL rvc_1 3 (encN .i64) (countsN vs), cObj b_1 51 [(Value.slice none 0 0), (Value.slice none 0 0)]] _ := hs_4
      refine RT.ev rfl rfl (Ev.assign rfl) ?_
      refine RT.eff rfl rfl (OpE.storeObjA (vs := [rvw_1, rvc_1]) agg51 hs_4d (i := 6) rfl rfl rfl rfl (fun v h => by simp only [List.mem_cons, List.not_mem_nil, or_false] at h; rcases h with rfl | rfl; exact (hs_4d.rdL 4 rfl).oneCell; exact (hs_4d.rdL 5 rfl).oneCell) fun w_4 hs_5 hch_2 => ?_)
      have hs_5d : Sat w [cObj lg_1 92 [lvw_1, lvc_1, lvo_1], cL lvw_1 9 (encTx) (wordsN vs), cL lvc_1 3 (encN .i64) (countsN vs), cL lvo_1 3 (encN .i64) (ordN (wordsN vs)), cL rvw_1 9 (encTx) (wordsN vs), cL rvc_1 3 (encN .i64) (countsN vs), cObj b_1 51 [rvw_1, rvc_1]] _ := hs_5
      refine RT.ev rfl rfl (Ev.assign rfl) ?_
      refine RT.nil ?_
      refine CW.seq ?_
      refine CW.seq ?_
      refine CW.region ?_
      refine RT.ev rfl rfl (Ev.move rfl) ?_
      refine RT.ev rfl rfl (Ev.notB rfl) ?_
      refine RT.ev rfl rfl (Ev.move rfl) ?_
      refine RT.yes rfl rfl rfl (rfl) ?_
      refine RT.ev rfl rfl (Ev.move rfl) ?_
      refine RT.yes rfl rfl rfl (rfl) ?_
      refine RT.ev rfl rfl (Ev.eqlPt Try.underlying46 rfl rfl) ?_
      refine RT.ev rfl rfl (Ev.pickN rfl (rfl) rfl) ?_
      refine RT.nil ?_
      refine CW.condF rfl (rfl) ?_
      refine CW.skip ?_
      refine CW.seq ?_
      refine CW.region ?_
      refine RT.ev rfl rfl (Ev.move rfl) ?_
      refine RT.eff rfl rfl (OpE.call ent50 rfl ((lexEnc_ok _ _ _ _ _ _ _ _ (hs_5d.lexAt 0 1 2 3 rfl rfl rfl rfl) (countsN_length _) (bld_120b he) (fun c hc => ⟨(bld_c4 he c hc).1, by have := (bld_c4 he c hc).2; omega⟩) (by have := bld_1024 he; omega)).mono fun r_3 w_5 h_3 => ?_))
      have hp_3 := h_3
      have hs_6 : Sat w [cObj lg_1 92 [lvw_1, lvc_1, lvo_1], cL lvw_1 9 (encTx) (wordsN vs), cL lvc_1 3 (encN .i64) (countsN vs), cL lvo_1 3 (encN .i64) (ordN (wordsN vs)), cL rvw_1 9 (encTx) (wordsN vs), cL rvc_1 3 (encN .i64) (countsN vs), cObj b_1 51 [rvw_1, rvc_1], cL r_3 5 (encN .u8) (sealN (encA (wordsN vs) (countsN vs) (wordsN vs).length))] _ := hs_5d.adds hp_3
      refine RT.ev rfl rfl (Ev.assign rfl) ?_
      refine RT.nil ?_
      refine CW.seq ?_
      refine CW.region ?_
      refine RT.ev rfl rfl (Ev.move rfl) ?_
      refine RT.eff rfl rfl (OpE.call ent51 rfl ((ldec_ok _ (sealN (encA (wordsN vs) (countsN vs) (wordsN vs).length)) (wordsN vs) (countsN vs) _ (hs_6.rdL 7 rfl) rfl (bld_okW2 he) (countsN_length _) (bld_120b he) (bld_c4 he) (bld_sum he) (bld_1024 he)).mono fun r_4 w_6 h_4 => ?_))
      obtain ⟨dg_1, dvw_1, dvc_1, dvo_1, rfl, hp_4⟩ := h_4
      have hs_7 : Sat w [cObj lg_1 92 [lvw_1, lvc_1, lvo_1], cL lvw_1 9 (encTx) (wordsN vs), cL lvc_1 3 (encN .i64) (countsN vs), cL lvo_1 3 (encN .i64) (ordN (wordsN vs)), cL rvw_1 9 (encTx) (wordsN vs), cL rvc_1 3 (encN .i64) (countsN vs), cObj b_1 51 [rvw_1, rvc_1], cL r_3 5 (encN .u8) (sealN (encA (wordsN vs) (countsN vs) (wordsN vs).length)), cObj dg_1 92 [dvw_1, dvc_1, dvo_1], cL dvw_1 9 (encTx) (wordsN vs), cL dvc_1 3 (encN .i64) (countsN vs), cL dvo_1 3 (encN .i64) (ordN (wordsN vs))] _ := hs_6.adds hp_4
      refine RT.ev rfl rfl (Ev.move rfl) ?_
      refine RT.ev rfl rfl (Ev.extract rfl rfl) ?_
      refine RT.ev rfl rfl (Ev.extract rfl rfl) ?_
      refine RT.ev rfl rfl (Ev.assign rfl) ?_
      refine RT.ev rfl rfl (Ev.assign rfl) ?_
      refine RT.nil ?_
      refine CW.seq ?_
      refine CW.draw (fun w' => Sat w [cObj lg_1 92 [lvw_1, lvc_1, lvo_1], cL lvw_1 9 (encTx) (wordsN vs), cL lvc_1 3 (encN .i64) (countsN vs), cL lvo_1 3 (encN .i64) (ordN (wordsN vs)), cL rvw_1 9 (encTx) (wordsN vs), cL rvc_1 3 (encN .i64) (countsN vs), cObj b_1 51 [rvw_1, rvc_1], cL r_3 5 (encN .u8) (sealN (encA (wordsN vs) (countsN vs) (wordsN vs).length)), cObj dg_1 92 [dvw_1, dvc_1, dvo_1], cL dvw_1 9 (encTx) (wordsN vs), cL dvc_1 3 (encN .i64) (countsN vs), cL dvo_1 3 (encN .i64) (ordN (wordsN vs))] w') (.free 0 (.free 1 (.free 2 (.one 3 (.one 4 (.free 5 (.free 6 (.free 7 (.free 8 (.free 9 (.free 10 (.free 11 (.free 12 (.one 13 (.free 14 (.free 15 (.free 16 (.free 18 (.one 17 (.one 19 (.one 20 (.free 21 (.free 22 (.free 23 (.free 26 (.free 27 (.one 24 (.one 25 (.free 28 (.free 29 (.free 30 (.one 31 (.free 32 (.free 33 .fin)))))))))))))))))))))))))))))))))) mixed (by kernel_rfl) ?_
      have hs_8 := hs_7.drew
      refine RP.ev rfl rfl rfl (fun w' hS' => Ev.move rfl) hs_8 ?_
      refine RP.ev rfl rfl rfl (fun w' hS' => Ev.bytesStr Try.underlying40 Try.underlying9 Try.underlying5 rfl (hS'.rdL 7 rfl)) hs_8 ?_
      refine RP.ev rfl rfl rfl (fun w' hS' => Ev.ldObj agg51 rfl hS' (i := 6) rfl rfl) hs_8 ?_
      refine RP.eff rfl rfl rfl (OpE.call ent52 rfl ((rbytes13_ok _ _ _ _ _ (hs_8.rdL 4 rfl) (hs_8.rdL 5 rfl) (countsN_length _) (bld_120b he) (bld_c4 he) (bld_1024 he)).mono fun r_5 w_7 h_5 => ?_))
      have hp_5 := h_5
      have hs_9 : Sat w [cObj lg_1 92 [lvw_1, lvc_1, lvo_1], cL lvw_1 9 (encTx) (wordsN vs), cL lvc_1 3 (encN .i64) (countsN vs), cL lvo_1 3 (encN .i64) (ordN (wordsN vs)), cL rvw_1 9 (encTx) (wordsN vs), cL rvc_1 3 (encN .i64) (countsN vs), cObj b_1 51 [rvw_1, rvc_1], cL r_3 5 (encN .u8) (sealN (encA (wordsN vs) (countsN vs) (wordsN vs).length)), cObj dg_1 92 [dvw_1, dvc_1, dvo_1], cL dvw_1 9 (encTx) (wordsN vs), cL dvc_1 3 (encN .i64) (countsN vs), cL dvo_1 3 (encN .i64) (ordN (wordsN vs)), cL r_5 5 (encN .u8) (sealN (encA (wordsN vs) (countsN vs) (wordsN vs).length))] _ := hs_8.adds hp_5
      have hS_1 : Sat w [cObj lg_1 92 [lvw_1, lvc_1, lvo_1], cL lvw_1 9 (encTx) (wordsN vs), cL lvc_1 3 (encN .i64) (countsN vs), cL lvo_1 3 (encN .i64) (ordN (wordsN vs)), cL rvw_1 9 (encTx) (wordsN vs), cL rvc_1 3 (encN .i64) (countsN vs), cObj b_1 51 [rvw_1, rvc_1], cL r_3 5 (encN .u8) (sealN (encA (wordsN vs) (countsN vs) (wordsN vs).length)), cObj dg_1 92 [dvw_1, dvc_1, dvo_1], cL dvw_1 9 (encTx) (wordsN vs), cL dvc_1 3 (encN .i64) (countsN vs), cL dvo_1 3 (encN .i64) (ordN (wordsN vs))] _ := hs_9.sub ((.cons_cons _ (.cons_cons _ (.cons_cons _ (.cons_cons _ (.cons_cons _ (.cons_cons _ (.cons_cons _ (.cons_cons _ (.cons_cons _ (.cons_cons _ (.cons_cons _ (.cons_cons _ (.cons _ .slnil))))))))))))))
      refine ⟨hS_1, ?_⟩
      refine RP.eff rfl rfl rfl (OpE.ev (Ev.bytesStr Try.underlying40 Try.underlying9 Try.underlying5 rfl (hs_9.rdL 12 rfl)) ⟨hS_1, ?_⟩)
      refine RP.ev rfl rfl rfl (fun w' hS' => Ev.strEql rfl rfl) hS_1 ?_
      refine RP.ev rfl rfl rfl (fun w' hS' => Ev.move rfl) hS_1 ?_
      refine RP.evYes rfl rfl rfl rfl (decide_eq_true (rfl)) rfl (fun w' hS' => Ev.move rfl) hS_1 ?_
      refine RP.evYes rfl rfl rfl rfl (decide_eq_true (rfl)) rfl (fun w' hS' => Ev.eqlN (a := 0) (b := 0) rfl rfl) hS_1 ?_
      refine RP.ev rfl rfl rfl (fun w' hS' => Ev.pickY rfl (decide_eq_true (rfl)) rfl) hS_1 ?_
      refine RP.ev rfl rfl rfl (fun w' hS' => Ev.move rfl) hS_1 ?_
      refine RP.evYes rfl rfl rfl rfl (rfl) rfl (fun w' hS' => Ev.move rfl) hS_1 ?_
      refine RP.evYes rfl rfl rfl rfl (rfl) rfl (fun w' hS' => Ev.ldObj agg51 rfl hS' (i := 6) rfl rfl) hS_1 ?_
      refine RP.effYes rfl rfl rfl rfl (rfl) rfl (OpE.call ent49 rfl ((lsame_ok _ _ _ _ _ _ _ _ _ _ (hs_9.lexAt 8 9 10 11 rfl rfl rfl rfl) (hs_9.rdL 4 rfl) (hs_9.rdL 5 rfl) (countsN_length vs) (bld_len he)).mono fun r_6 w_8 h_6 => ?_))
      obtain ⟨rfl, hp_6⟩ := h_6
      have hs_10 : Sat w [cObj lg_1 92 [lvw_1, lvc_1, lvo_1], cL lvw_1 9 (encTx) (wordsN vs), cL lvc_1 3 (encN .i64) (countsN vs), cL lvo_1 3 (encN .i64) (ordN (wordsN vs)), cL rvw_1 9 (encTx) (wordsN vs), cL rvc_1 3 (encN .i64) (countsN vs), cObj b_1 51 [rvw_1, rvc_1], cL r_3 5 (encN .u8) (sealN (encA (wordsN vs) (countsN vs) (wordsN vs).length)), cObj dg_1 92 [dvw_1, dvc_1, dvo_1], cL dvw_1 9 (encTx) (wordsN vs), cL dvc_1 3 (encN .i64) (countsN vs), cL dvo_1 3 (encN .i64) (ordN (wordsN vs)), cL r_5 5 (encN .u8) (sealN (encA (wordsN vs) (countsN vs) (wordsN vs).length))] _ := hs_9.adds hp_6
      have hS_2 : Sat w [cObj lg_1 92 [lvw_1, lvc_1, lvo_1], cL lvw_1 9 (encTx) (wordsN vs), cL lvc_1 3 (encN .i64) (countsN vs), cL lvo_1 3 (encN .i64) (ordN (wordsN vs)), cL rvw_1 9 (encTx) (wordsN vs), cL rvc_1 3 (encN .i64) (countsN vs), cObj b_1 51 [rvw_1, rvc_1], cL r_3 5 (encN .u8) (sealN (encA (wordsN vs) (countsN vs) (wordsN vs).length)), cObj dg_1 92 [dvw_1, dvc_1, dvo_1], cL dvw_1 9 (encTx) (wordsN vs), cL dvc_1 3 (encN .i64) (countsN vs), cL dvo_1 3 (encN .i64) (ordN (wordsN vs))] _ := hs_10.sub ((.cons_cons _ (.cons_cons _ (.cons_cons _ (.cons_cons _ (.cons_cons _ (.cons_cons _ (.cons_cons _ (.cons_cons _ (.cons_cons _ (.cons_cons _ (.cons_cons _ (.cons_cons _ (.cons _ .slnil))))))))))))))
      refine ⟨hS_2, ?_⟩
      refine RP.ev rfl rfl rfl (fun w' hS' => Ev.pickY rfl (rfl) rfl) hS_2 ?_
      refine RP.ev rfl rfl rfl (fun w' hS' => Ev.move rfl) hS_2 ?_
      refine RP.evYes rfl rfl rfl rfl (rfl) rfl (fun w' hS' => Ev.move rfl) hS_2 ?_
      refine RP.evYes rfl rfl rfl rfl (rfl) rfl (fun w' hS' => Ev.move rfl) hS_2 ?_
      refine RP.effYes rfl rfl rfl rfl (rfl) rfl (OpE.call ent45 rfl ((byReverse_ok _ _ _ _ _ _ _ _ (hs_10.lexAt 8 9 10 11 rfl rfl rfl rfl) (ord_len he)).mono fun r_7 w_9 h_7 => ?_))
      have hp_7 := h_7
      have hs_11 : Sat w [cObj lg_1 92 [lvw_1, lvc_1, lvo_1], cL lvw_1 9 (encTx) (wordsN vs), cL lvc_1 3 (encN .i64) (countsN vs), cL lvo_1 3 (encN .i64) (ordN (wordsN vs)), cL rvw_1 9 (encTx) (wordsN vs), cL rvc_1 3 (encN .i64) (countsN vs), cObj b_1 51 [rvw_1, rvc_1], cL r_3 5 (encN .u8) (sealN (encA (wordsN vs) (countsN vs) (wordsN vs).length)), cObj dg_1 92 [dvw_1, dvc_1, dvo_1], cL dvw_1 9 (encTx) (wordsN vs), cL dvc_1 3 (encN .i64) (countsN vs), cL dvo_1 3 (encN .i64) (ordN (wordsN vs)), cL r_5 5 (encN .u8) (sealN (encA (wordsN vs) (countsN vs) (wordsN vs).length)), cL r_7 3 (encN .i64) (ordN (wordsN vs))] _ := hs_10.adds hp_7
      have hS_3 : Sat w [cObj lg_1 92 [lvw_1, lvc_1, lvo_1], cL lvw_1 9 (encTx) (wordsN vs), cL lvc_1 3 (encN .i64) (countsN vs), cL lvo_1 3 (encN .i64) (ordN (wordsN vs)), cL rvw_1 9 (encTx) (wordsN vs), cL rvc_1 3 (encN .i64) (countsN vs), cObj b_1 51 [rvw_1, rvc_1], cL r_3 5 (encN .u8) (sealN (encA (wordsN vs) (countsN vs) (wordsN vs).length)), cObj dg_1 92 [dvw_1, dvc_1, dvo_1], cL dvw_1 9 (encTx) (wordsN vs), cL dvc_1 3 (encN .i64) (countsN vs), cL dvo_1 3 (encN .i64) (ordN (wordsN vs))] _ := hs_11.sub ((.cons_cons _ (.cons_cons _ (.cons_cons _ (.cons_cons _ (.cons_cons _ (.cons_cons _ (.cons_cons _ (.cons_cons _ (.cons_cons _ (.cons_cons _ (.cons_cons _ (.cons_cons _ (.cons _ (.cons _ .slnil)))))))))))))))
      refine ⟨hS_3, ?_⟩
      refine RP.effYes rfl rfl rfl rfl (rfl) rfl (OpE.call ent45 rfl ((byReverse_ok _ _ _ _ _ _ _ _ (hs_11.lexAt 0 1 2 3 rfl rfl rfl rfl) (ord_len he)).mono fun r_8 w_10 h_8 => ?_))
      have hp_8 := h_8
      have hs_12 : Sat w [cObj lg_1 92 [lvw_1, lvc_1, lvo_1], cL lvw_1 9 (encTx) (wordsN vs), cL lvc_1 3 (encN .i64) (countsN vs), cL lvo_1 3 (encN .i64) (ordN (wordsN vs)), cL rvw_1 9 (encTx) (wordsN vs), cL rvc_1 3 (encN .i64) (countsN vs), cObj b_1 51 [rvw_1, rvc_1], cL r_3 5 (encN .u8) (sealN (encA (wordsN vs) (countsN vs) (wordsN vs).length)), cObj dg_1 92 [dvw_1, dvc_1, dvo_1], cL dvw_1 9 (encTx) (wordsN vs), cL dvc_1 3 (encN .i64) (countsN vs), cL dvo_1 3 (encN .i64) (ordN (wordsN vs)), cL r_5 5 (encN .u8) (sealN (encA (wordsN vs) (countsN vs) (wordsN vs).length)), cL r_7 3 (encN .i64) (ordN (wordsN vs)), cL r_8 3 (encN .i64) (ordN (wordsN vs))] _ := hs_11.adds hp_8
      have hS_4 : Sat w [cObj lg_1 92 [lvw_1, lvc_1, lvo_1], cL lvw_1 9 (encTx) (wordsN vs), cL lvc_1 3 (encN .i64) (countsN vs), cL lvo_1 3 (encN .i64) (ordN (wordsN vs)), cL rvw_1 9 (encTx) (wordsN vs), cL rvc_1 3 (encN .i64) (countsN vs), cObj b_1 51 [rvw_1, rvc_1], cL r_3 5 (encN .u8) (sealN (encA (wordsN vs) (countsN vs) (wordsN vs).length)), cObj dg_1 92 [dvw_1, dvc_1, dvo_1], cL dvw_1 9 (encTx) (wordsN vs), cL dvc_1 3 (encN .i64) (countsN vs), cL dvo_1 3 (encN .i64) (ordN (wordsN vs))] _ := hs_12.sub ((.cons_cons _ (.cons_cons _ (.cons_cons _ (.cons_cons _ (.cons_cons _ (.cons_cons _ (.cons_cons _ (.cons_cons _ (.cons_cons _ (.cons_cons _ (.cons_cons _ (.cons_cons _ (.cons _ (.cons _ (.cons _ .slnil))))))))))))))))
      refine ⟨hS_4, ?_⟩
      refine RP.effYes rfl rfl rfl rfl (rfl) rfl (OpE.call ent26 rfl ((same_ok _ _ (ordN (wordsN vs)) (ordN (wordsN vs)) _ (hs_12.rdL 13 rfl) (hs_12.rdL 14 rfl) (by have h1 := ord_len he; omega)).mono fun r_9 w_11 h_9 => ?_))
      obtain ⟨rfl, hp_9⟩ := h_9
      have hs_13 : Sat w [cObj lg_1 92 [lvw_1, lvc_1, lvo_1], cL lvw_1 9 (encTx) (wordsN vs), cL lvc_1 3 (encN .i64) (countsN vs), cL lvo_1 3 (encN .i64) (ordN (wordsN vs)), cL rvw_1 9 (encTx) (wordsN vs), cL rvc_1 3 (encN .i64) (countsN vs), cObj b_1 51 [rvw_1, rvc_1], cL r_3 5 (encN .u8) (sealN (encA (wordsN vs) (countsN vs) (wordsN vs).length)), cObj dg_1 92 [dvw_1, dvc_1, dvo_1], cL dvw_1 9 (encTx) (wordsN vs), cL dvc_1 3 (encN .i64) (countsN vs), cL dvo_1 3 (encN .i64) (ordN (wordsN vs)), cL r_5 5 (encN .u8) (sealN (encA (wordsN vs) (countsN vs) (wordsN vs).length)), cL r_7 3 (encN .i64) (ordN (wordsN vs)), cL r_8 3 (encN .i64) (ordN (wordsN vs))] _ := hs_12.adds hp_9
      have hS_5 : Sat w [cObj lg_1 92 [lvw_1, lvc_1, lvo_1], cL lvw_1 9 (encTx) (wordsN vs), cL lvc_1 3 (encN .i64) (countsN vs), cL lvo_1 3 (encN .i64) (ordN (wordsN vs)), cL rvw_1 9 (encTx) (wordsN vs), cL rvc_1 3 (encN .i64) (countsN vs), cObj b_1 51 [rvw_1, rvc_1], cL r_3 5 (encN .u8) (sealN (encA (wordsN vs) (countsN vs) (wordsN vs).length)), cObj dg_1 92 [dvw_1, dvc_1, dvo_1], cL dvw_1 9 (encTx) (wordsN vs), cL dvc_1 3 (encN .i64) (countsN vs), cL dvo_1 3 (encN .i64) (ordN (wordsN vs))] _ := hs_13.sub ((.cons_cons _ (.cons_cons _ (.cons_cons _ (.cons_cons _ (.cons_cons _ (.cons_cons _ (.cons_cons _ (.cons_cons _ (.cons_cons _ (.cons_cons _ (.cons_cons _ (.cons_cons _ (.cons _ (.cons _ (.cons _ .slnil))))))))))))))))
      refine ⟨hS_5, ?_⟩
      refine RP.ev rfl rfl rfl (fun w' hS' => Ev.pickY rfl (rfl) rfl) hS_5 ?_
      refine RP.ev rfl rfl rfl (fun w' hS' => Ev.move rfl) hS_5 ?_
      refine RP.evYes rfl rfl rfl rfl (decide_eq_true rfl) rfl (fun w' hS' => Ev.move rfl) hS_5 ?_
      refine RP.evYes rfl rfl rfl rfl (decide_eq_true rfl) rfl (fun w' hS' => Ev.move rfl) hS_5 ?_
      refine RP.evYes rfl rfl rfl rfl (decide_eq_true rfl) rfl (fun w' hS' => Ev.bytesStr Try.underlying40 Try.underlying9 Try.underlying5 rfl (hS'.rdL 7 rfl)) hS_5 ?_
      refine RP.effYes rfl rfl rfl rfl (decide_eq_true rfl) rfl (OpE.call ent50 rfl ((lexEnc_ok _ _ _ _ _ _ _ _ (hs_13.lexAt 8 9 10 11 rfl rfl rfl rfl) (countsN_length _) (bld_120b he) (fun c hc => ⟨(bld_c4 he c hc).1, by have := (bld_c4 he c hc).2; omega⟩) (by have := bld_1024 he; omega)).mono fun r_10 w_12 h_10 => ?_))
      have hp_10 := h_10
      have hs_14 : Sat w [cObj lg_1 92 [lvw_1, lvc_1, lvo_1], cL lvw_1 9 (encTx) (wordsN vs), cL lvc_1 3 (encN .i64) (countsN vs), cL lvo_1 3 (encN .i64) (ordN (wordsN vs)), cL rvw_1 9 (encTx) (wordsN vs), cL rvc_1 3 (encN .i64) (countsN vs), cObj b_1 51 [rvw_1, rvc_1], cL r_3 5 (encN .u8) (sealN (encA (wordsN vs) (countsN vs) (wordsN vs).length)), cObj dg_1 92 [dvw_1, dvc_1, dvo_1], cL dvw_1 9 (encTx) (wordsN vs), cL dvc_1 3 (encN .i64) (countsN vs), cL dvo_1 3 (encN .i64) (ordN (wordsN vs)), cL r_5 5 (encN .u8) (sealN (encA (wordsN vs) (countsN vs) (wordsN vs).length)), cL r_7 3 (encN .i64) (ordN (wordsN vs)), cL r_8 3 (encN .i64) (ordN (wordsN vs)), cL r_10 5 (encN .u8) (sealN (encA (wordsN vs) (countsN vs) (wordsN vs).length))] _ := hs_13.adds hp_10
      have hS_6 : Sat w [cObj lg_1 92 [lvw_1, lvc_1, lvo_1], cL lvw_1 9 (encTx) (wordsN vs), cL lvc_1 3 (encN .i64) (countsN vs), cL lvo_1 3 (encN .i64) (ordN (wordsN vs)), cL rvw_1 9 (encTx) (wordsN vs), cL rvc_1 3 (encN .i64) (countsN vs), cObj b_1 51 [rvw_1, rvc_1], cL r_3 5 (encN .u8) (sealN (encA (wordsN vs) (countsN vs) (wordsN vs).length)), cObj dg_1 92 [dvw_1, dvc_1, dvo_1], cL dvw_1 9 (encTx) (wordsN vs), cL dvc_1 3 (encN .i64) (countsN vs), cL dvo_1 3 (encN .i64) (ordN (wordsN vs))] _ := hs_14.sub ((.cons_cons _ (.cons_cons _ (.cons_cons _ (.cons_cons _ (.cons_cons _ (.cons_cons _ (.cons_cons _ (.cons_cons _ (.cons_cons _ (.cons_cons _ (.cons_cons _ (.cons_cons _ (.cons _ (.cons _ (.cons _ (.cons _ .slnil)))))))))))))))))
      refine ⟨hS_6, ?_⟩
      refine RP.effYes rfl rfl rfl rfl (decide_eq_true rfl) rfl (OpE.ev (Ev.bytesStr Try.underlying40 Try.underlying9 Try.underlying5 rfl (hs_14.rdL 15 rfl)) ⟨hS_6, ?_⟩)
      refine RP.evYes rfl rfl rfl rfl (decide_eq_true rfl) rfl (fun w' hS' => Ev.strEql rfl rfl) hS_6 ?_
      refine RP.ev rfl rfl rfl (fun w' hS' => Ev.pickY rfl (decide_eq_true rfl) rfl) hS_6 ?_
      refine RP.ev rfl rfl rfl (fun w' hS' => Ev.move rfl) hS_6 ?_
      refine RP.effYes rfl rfl rfl rfl (decide_eq_true (rfl)) rfl (OpE.call ent33 rfl ((lawake_ok _).mono fun r_11 w_13 h_11 => ?_))
      obtain ⟨rfl, hp_11⟩ := h_11
      have hs_15 : Sat w [cObj lg_1 92 [lvw_1, lvc_1, lvo_1], cL lvw_1 9 (encTx) (wordsN vs), cL lvc_1 3 (encN .i64) (countsN vs), cL lvo_1 3 (encN .i64) (ordN (wordsN vs)), cL rvw_1 9 (encTx) (wordsN vs), cL rvc_1 3 (encN .i64) (countsN vs), cObj b_1 51 [rvw_1, rvc_1], cL r_3 5 (encN .u8) (sealN (encA (wordsN vs) (countsN vs) (wordsN vs).length)), cObj dg_1 92 [dvw_1, dvc_1, dvo_1], cL dvw_1 9 (encTx) (wordsN vs), cL dvc_1 3 (encN .i64) (countsN vs), cL dvo_1 3 (encN .i64) (ordN (wordsN vs)), cL r_5 5 (encN .u8) (sealN (encA (wordsN vs) (countsN vs) (wordsN vs).length)), cL r_7 3 (encN .i64) (ordN (wordsN vs)), cL r_8 3 (encN .i64) (ordN (wordsN vs)), cL r_10 5 (encN .u8) (sealN (encA (wordsN vs) (countsN vs) (wordsN vs).length))] _ := hs_14.adds hp_11
      have hS_7 : Sat w [cObj lg_1 92 [lvw_1, lvc_1, lvo_1], cL lvw_1 9 (encTx) (wordsN vs), cL lvc_1 3 (encN .i64) (countsN vs), cL lvo_1 3 (encN .i64) (ordN (wordsN vs)), cL rvw_1 9 (encTx) (wordsN vs), cL rvc_1 3 (encN .i64) (countsN vs), cObj b_1 51 [rvw_1, rvc_1], cL r_3 5 (encN .u8) (sealN (encA (wordsN vs) (countsN vs) (wordsN vs).length)), cObj dg_1 92 [dvw_1, dvc_1, dvo_1], cL dvw_1 9 (encTx) (wordsN vs), cL dvc_1 3 (encN .i64) (countsN vs), cL dvo_1 3 (encN .i64) (ordN (wordsN vs))] _ := hs_15.sub ((.cons_cons _ (.cons_cons _ (.cons_cons _ (.cons_cons _ (.cons_cons _ (.cons_cons _ (.cons_cons _ (.cons_cons _ (.cons_cons _ (.cons_cons _ (.cons_cons _ (.cons_cons _ (.cons _ (.cons _ (.cons _ (.cons _ .slnil)))))))))))))))))
      refine ⟨hS_7, ?_⟩
      refine RP.ev rfl rfl rfl (fun w' hS' => Ev.pickY rfl (decide_eq_true (rfl)) rfl) hS_7 ?_
      refine RP.ev rfl rfl rfl (fun w' hS' => Ev.assign rfl) hS_7 ?_
      refine RP.fin ?_
      refine CW.ret ?_
      show PostK _ _ _ _ _ _
      refine post1 rfl rfl ?_
      have hs_16 : Sat w [] w_13 := hs_15.sub ((.cons _ (.cons _ (.cons _ (.cons _ (.cons _ (.cons _ (.cons _ (.cons _ (.cons _ (.cons _ (.cons _ (.cons _ (.cons _ (.cons _ (.cons _ (.cons _ .slnil)))))))))))))))))
      exact ⟨rfl, hs_16⟩
    · refine CW.region ?_
      refine RT.ev rfl rfl (Ev.move rfl) ?_
      refine RT.eff rfl rfl (OpE.call ent36 rfl ((built_err _ _ _ (hv.ext hs_1.ext) he).mono fun r_12 w_14 h_12 => ?_))
      obtain ⟨rfl, hp_12⟩ := h_12
      have hs_17 : Sat w [] _ := hs_1.adds hp_12
      refine RT.ev rfl rfl (Ev.move rfl) ?_
      refine RT.ev rfl rfl (Ev.extract rfl rfl) ?_
      refine RT.ev rfl rfl (Ev.extract rfl rfl) ?_
      refine RT.ev rfl rfl (Ev.extract rfl rfl) ?_
      refine RT.eff rfl rfl (OpE.alloc hs_17 zero51 fun b_2 w_15 hs_18 hch_3 hb_2 => ?_)
      have hs_18d : Sat w [cObj b_2 51 [(Value.slice none 0 0), (Value.slice none 0 0)]] _ := hs_18
      refine RT.ev rfl rfl (Ev.assign rfl) ?_
      refine RT.eff rfl rfl (OpE.storeObjA (vs := [(Value.slice none 0 0), (Value.slice none 0 0)]) agg51 hs_18d (i := 0) rfl rfl rfl rfl (fun v h => by simp only [List.mem_cons, List.not_mem_nil, or_false] at h; rcases h with rfl | rfl; exact rfl; exact rfl) fun w_16 hs_19 hch_4 => ?_)
      have hs_19d : Sat w [cObj b_2 51 [(Value.slice none 0 0), (Value.slice none 0 0)]] _ := hs_19
      refine RT.ev rfl rfl (Ev.assign rfl) ?_
      refine RT.nil ?_
      refine CW.seq ?_
      refine CW.seq ?_
      refine CW.region ?_
      refine RT.ev rfl rfl (Ev.move rfl) ?_
      refine RT.ev rfl rfl (Ev.notB rfl) ?_
      refine RT.ev rfl rfl (Ev.move rfl) ?_
      refine RT.yes rfl rfl rfl (rfl) ?_
      refine RT.ev rfl rfl (Ev.move rfl) ?_
      refine RT.yes rfl rfl rfl (rfl) ?_
      refine RT.ev rfl rfl (Ev.eqlPt Try.underlying46 rfl rfl) ?_
      refine RT.ev rfl rfl (Ev.pickN rfl (rfl) rfl) ?_
      refine RT.nil ?_
      refine CW.condT rfl (rfl) ?_
      refine CW.seq ?_
      refine CW.region ?_
      refine RT.ev rfl rfl (Ev.move rfl) ?_
      refine RT.ev rfl rfl (Ev.move rfl) ?_
      refine RT.yes rfl rfl rfl (rfl) ?_
      refine RT.eff rfl rfl (OpE.call ent33 rfl ((lawake_ok _).mono fun r_13 w_17 h_13 => ?_))
      obtain ⟨rfl, hp_13⟩ := h_13
      have hs_20 : Sat w [cObj b_2 51 [(Value.slice none 0 0), (Value.slice none 0 0)]] _ := hs_19d.adds hp_13
      refine RT.ev rfl rfl (Ev.pickY rfl (rfl) rfl) ?_
      refine RT.ev rfl rfl (Ev.assign rfl) ?_
      refine RT.nil ?_
      refine CW.ret ?_
      show PostK _ _ _ _ _ _
      refine post1 rfl rfl ?_
      have hs_21 : Sat w [] w_17 := hs_20.sub ((.cons _ .slnil))
      exact ⟨rfl, hs_21⟩

end Go.Proofs.Ytfhbflhnelbkfaa
