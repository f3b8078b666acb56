/- The walks of the functions of F03L, printed by our own program (kwgen.py) out of our descriptions (base.py). -/
import Derived.Test.YtfhbflhnelbkfaaM03c
import Derived.Test.YtfhbflhnelbkfaaKm
import Derived.Test.YtfhbflhnelbkfaaKr
import Derived.Test.YtfhbflhnelbkfaaKt
import Derived.Test.YtfhbflhnelbkfaaKj
import Derived.Test.YtfhbflhnelbkfaaF02L
import Derived.Test.YtfhbflhnelbkfaaTab
namespace Go.Proofs.Ytfhbflhnelbkfaa
open Go.RowKit Go.Kw
set_option maxRecDepth 100000
set_option linter.unusedVariables false
set_option linter.unusedSimpArgs false
theorem step_ok (v n : Nat) (w : World) (hv : v < 4294967296) (hn : n ≤ 1000) :
    CallsV Try.prog 142 [(Value.int .u32 ((v : Nat) : Int)), (Value.int .i64 ((n : Nat) : Int))] w fun r w' => r = .int .u32 (stepN v n : Nat) ∧ Sat w [] w' := by
  have hs0 := Sat.start w
  refine callsV_of Try.func142 rfl rfl ?_
  refine CW.seq ?_
  refine CW.region ?_
  refine RT.ev rfl rfl (Ev.assign rfl) ?_
  refine RT.nil ?_
  refine CW.seq ?_
  refine CW.seq ?_
  refine CW.region ?_
  refine RT.ev rfl rfl (Ev.move rfl) ?_
  refine RT.ev rfl rfl (Ev.move rfl) ?_
  refine RT.nil ?_
  refine CW.block ?_
  refine CW.loop (α := Nat × Nat) (fun (k, u) => [(0, (Value.int .u32 ((u : Nat) : Int))), (5, (Value.int .i64 ((n : Nat) : Int))), (6, (Value.int .i64 ((k : Nat) : Int)))]) (fun (k, u) w' => Sat w [] w' ∧ (k ≤ n) ∧ (u = stepN v k) ∧ (u < 4294967296)) (fun (k, u) => n - k) (0, v) ⟨rfl, rfl, rfl, trivial⟩ ⟨hs0, Nat.zero_le _, rfl, hv⟩ ?_
  rintro ⟨k, u⟩ w_1 ⟨hs_1, hk, hu, hub⟩
  show CW _ _ _ _ [(0, (Value.int .u32 ((u : Nat) : Int))), (5, (Value.int .i64 ((n : Nat) : Int))), (6, (Value.int .i64 ((k : Nat) : Int)))] _
  refine CW.seq ?_
  refine CW.region ?_
  refine RT.ev rfl rfl (Ev.lssN rfl rfl) ?_
  refine RT.nil ?_
  refine CW.seq ?_
  refine CW.condD rfl (fun hc_1 => ?_) (fun hc_1 => ?_)
  · refine CW.skip ?_
    refine CW.seq ?_
    refine CW.block ?_
    refine CW.seq ?_
    refine CW.region ?_
    refine RT.ev rfl rfl (Ev.move rfl) ?_
    refine RT.ev rfl rfl (Ev.maskN (b := 1) 1 rfl rfl rfl (by decide) (by (try simp only [IntKind.bits]); omega) (by decide)) ?_
    refine RT.ev rfl rfl (Ev.eqlN (b := 1) rfl rfl) ?_
    refine RT.nil ?_
    refine CW.condD rfl (fun hc_2 => ?_) (fun hc_2 => ?_)
    · refine CW.region ?_
      refine RT.ev rfl rfl (Ev.move rfl) ?_
      refine RT.ev rfl rfl (Ev.shrN (b := 1) rfl rfl (by (try simp only [IntKind.bits]); omega)) ?_
      refine RT.ev rfl rfl (Ev.xorN (b := 2197175160) rfl rfl rfl (by (try simp only [IntKind.bits]); omega) (by (try simp only [IntKind.bits]); omega)) ?_
      refine RT.ev rfl rfl (Ev.assign rfl) ?_
      refine RT.nil ?_
      refine CW.region ?_
      refine RT.ev rfl rfl (Ev.addI (b := 1) rfl rfl (by omega)) ?_
      refine RT.ev rfl rfl (Ev.move rfl) ?_
      refine RT.nil ?_
      exact ⟨(k + 1, ((u / 2 ^ 1) ^^^ 2197175160)), ⟨rfl, rfl, rfl, trivial⟩, ⟨hs_1, by omega, by rw [stepN, ← hu]; simp [st1, hc_2], by have := st1_lt hub; simpa [st1, hc_2] using this⟩, (show (n - (k + 1)) < (n - k) from by omega)⟩
    · refine CW.region ?_
      refine RT.ev rfl rfl (Ev.move rfl) ?_
      refine RT.ev rfl rfl (Ev.shrN (b := 1) rfl rfl (by (try simp only [IntKind.bits]); omega)) ?_
      refine RT.ev rfl rfl (Ev.assign rfl) ?_
      refine RT.nil ?_
      refine CW.region ?_
      refine RT.ev rfl rfl (Ev.addI (b := 1) rfl rfl (by omega)) ?_
      refine RT.ev rfl rfl (Ev.move rfl) ?_
      refine RT.nil ?_
      exact ⟨(k + 1, (u / 2 ^ 1)), ⟨rfl, rfl, rfl, trivial⟩, ⟨hs_1, by omega, by rw [stepN, ← hu]; simp [st1, hc_2], by have := st1_lt hub; simpa [st1, hc_2] using this⟩, (show (n - (k + 1)) < (n - k) from by omega)⟩
  · refine CW.exit0 ?_
    refine CW.seq ?_
    refine CW.region ?_
    refine RT.ev rfl rfl (Ev.move rfl) ?_
    refine RT.ev rfl rfl (Ev.assign rfl) ?_
    refine RT.nil ?_
    refine CW.ret ?_
    show PostK _ _ _ _ _ _
    refine post1 rfl rfl ?_
    rw [show k = n by omega] at hu
    exact ⟨by rw [hu], hs_1⟩

theorem sum_ok (v : Value) (l : List Nat) (w : World) (hv : RdL w v (encN .u8) l) (hb : ∀ x ∈ l, x < 256) (hn : l.length ≤ 1000000000) :
    CallsV Try.prog 103 [v] w fun r w' => r = .int .u32 (sumN l : Nat) ∧ Sat w [] w' := by
  have hs0 := Sat.start w
  refine callsV_of Try.func103 rfl rfl ?_
  refine CW.seq ?_
  refine CW.region ?_
  refine RT.ev rfl rfl (Ev.assign rfl) ?_
  refine RT.nil ?_
  refine CW.seq ?_
  refine CW.region ?_
  refine RT.eff rfl rfl (OpE.alloc hs0 zero172 fun b_1 w_1 hs_1 hch_1 hb_1 => ?_)
  have hs_1d : Sat w [cObj b_1 172 [(Value.int .u32 ((0 : Nat) : Int)), (Value.int .u32 ((0 : Nat) : Int)), (Value.int .u32 ((0 : Nat) : Int)), (Value.int .u32 ((0 : Nat) : Int)), (Value.int .u32 ((0 : Nat) : Int)), (Value.int .u32 ((0 : Nat) : Int)), (Value.int .u32 ((0 : Nat) : Int)), (Value.int .u32 ((0 : Nat) : Int)), (Value.int .u32 ((0 : Nat) : Int)), (Value.int .u32 ((0 : Nat) : Int)), (Value.int .u32 ((0 : Nat) : Int)), (Value.int .u32 ((0 : Nat) : Int)), (Value.int .u32 ((0 : Nat) : Int)), (Value.int .u32 ((0 : Nat) : Int)), (Value.int .u32 ((0 : Nat) : Int)), (Value.int .u32 ((0 : Nat) : Int))]] _ := hs_1
  refine RT.nil ?_
  refine CW.seq ?_
  refine CW.seq ?_
  refine CW.region ?_
  refine RT.ev rfl rfl (Ev.move rfl) ?_
  refine RT.nil ?_
  refine CW.block ?_
  have hs_2 : Sat w [cObj b_1 172 ((encN .u32).all (tabU 0))] w_1 := hs_1d
  refine CW.loop (α := Nat) (fun k => [(0, v), (3, (Value.pointer (some ⟨b_1, 0, none⟩))), (8, (Value.int .i64 ((k : Nat) : Int)))]) (fun k w' => Sat w [cObj b_1 172 ((encN .u32).all (tabU k))] w' ∧ (k ≤ 16)) (fun k => 16 - k) 0 ⟨rfl, rfl, rfl, trivial⟩ ⟨hs_2, Nat.zero_le _⟩ ?_
  rintro k w_2 ⟨hs_3, hk⟩
  show CW _ _ _ _ [(0, v), (3, (Value.pointer (some ⟨b_1, 0, none⟩))), (8, (Value.int .i64 ((k : Nat) : Int)))] _
  refine CW.seq ?_
  refine CW.region ?_
  refine RT.ev rfl rfl (Ev.lssN (b := 16) rfl rfl) ?_
  refine RT.nil ?_
  refine CW.seq ?_
  refine CW.condD rfl (fun hc_1 => ?_) (fun hc_1 => ?_)
  · refine CW.skip ?_
    refine CW.seq ?_
    refine CW.block ?_
    refine CW.seq ?_
    refine CW.region ?_
    refine RT.ev rfl rfl (Ev.move rfl) ?_
    refine RT.ev rfl rfl (Ev.assign rfl) ?_
    refine RT.nil ?_
    refine CW.region ?_
    refine RT.ev rfl rfl (Ev.move rfl) ?_
    refine RT.ev rfl rfl (Ev.move rfl) ?_
    refine RT.ev rfl rfl (Ev.convN (by rw [Try.underlying3]; rfl) Try.underlying132 rfl rfl) ?_
    refine RT.eff rfl rfl (OpE.call ent142 rfl ((step_ok ((k % 2 ^ 32)) (4) _ (by omega) (by omega)).mono fun r_1 w_3 h_1 => ?_))
    obtain ⟨rfl, hp_1⟩ := h_1
    have hs_4 : Sat w [cObj b_1 172 ((encN .u32).all (tabU k))] _ := hs_3.adds hp_1
    refine RT.ev rfl rfl (Ev.idxArr arr172 rfl rfl (by omega)) ?_
    refine RT.eff rfl rfl (OpE.setArr (E := encN .u32) (a := (stepN ((k % 2 ^ 32)) (4))) 0 one132 hs_4 rfl rfl rfl rfl (by rw [tabU_length]; all_goals omega) fun w_4 hs_5 hch_2 => ?_)
    have hs_5d : Sat w [cObj b_1 172 ((encN .u32).all ((tabU k).set k (stepN ((k % 2 ^ 32)) (4))))] _ := hs_5
    refine RT.nil ?_
    refine CW.region ?_
    refine RT.ev rfl rfl (Ev.addI (b := 1) rfl rfl (by omega)) ?_
    refine RT.ev rfl rfl (Ev.move rfl) ?_
    refine RT.nil ?_
    have hs_6 : Sat w [cObj b_1 172 ((encN .u32).all (tabU (k + 1)))] w_4 := by
      have hq : (tabU k).set k (stepN ((k % 2 ^ 32)) (4)) = tabU (k + 1) := by rw [Nat.mod_eq_of_lt (show k < 2 ^ 32 by omega)]; exact tabU_set (by omega)
      rw [← hq]; exact hs_5d
    exact ⟨k + 1, ⟨rfl, rfl, rfl, trivial⟩, ⟨hs_6, by omega⟩, (show (16 - (k + 1)) < (16 - k) from by omega)⟩
  · refine CW.exit0 ?_
    refine CW.seq ?_
    have hs_7 : Sat w [cObj b_1 172 ((encN .u32).all (crcTab))] w_2 := by
      have hq : tabU k = crcTab := by rw [show k = 16 by omega]; exact tabU_all
      rw [← hq]; exact hs_3
    refine CW.region ?_
    refine RT.ev rfl rfl (Ev.assign rfl) ?_
    refine RT.nil ?_
    refine CW.seq ?_
    refine CW.seq ?_
    refine CW.region ?_
    refine RT.ev rfl rfl (Ev.move rfl) ?_
    refine RT.ev rfl rfl (Ev.lenL Try.underlying40 rfl (hv.ext hs_7.ext)) ?_
    refine RT.ev rfl rfl (Ev.move rfl) ?_
    refine RT.nil ?_
    refine CW.block ?_
    refine CW.loop (α := Nat × Nat) (fun (k, u) => [(3, (Value.pointer (some ⟨b_1, 0, none⟩))), (5, (Value.int .u32 ((u : Nat) : Int))), (17, v), (18, (Value.int .i64 ((l.length : Nat) : Int))), (19, (Value.int .i64 ((k : Nat) : Int)))]) (fun (k, u) w' => Sat w [cObj b_1 172 ((encN .u32).all (crcTab))] w' ∧ (k ≤ l.length) ∧ (u = crcF (l.take k)) ∧ (u < 4294967296)) (fun (k, u) => l.length - k) (0, 4294967295) ⟨rfl, rfl, rfl, rfl, rfl, trivial⟩ ⟨hs_7, Nat.zero_le _, rfl, by omega⟩ ?_
    rintro ⟨k, u⟩ w_5 ⟨hs_8, hk, hu, hub⟩
    show CW _ _ _ _ [(3, (Value.pointer (some ⟨b_1, 0, none⟩))), (5, (Value.int .u32 ((u : Nat) : Int))), (17, v), (18, (Value.int .i64 ((l.length : Nat) : Int))), (19, (Value.int .i64 ((k : Nat) : Int)))] _
    refine CW.seq ?_
    refine CW.region ?_
    refine RT.ev rfl rfl (Ev.lssN rfl rfl) ?_
    refine RT.nil ?_
    refine CW.seq ?_
    refine CW.condD rfl (fun hc_2 => ?_) (fun hc_2 => ?_)
    · refine CW.skip ?_
      refine CW.seq ?_
      refine CW.block ?_
      refine CW.seq ?_
      obtain ⟨x, hx⟩ : ∃ x, (l)[k]? = some x := ⟨_, List.getElem?_eq_getElem hc_2⟩
      refine CW.region ?_
      refine RT.ev rfl rfl (Ev.idxL (E := encN .u8) sl40 rfl rfl (hv.ext hs_8.ext) (by omega)) ?_
      refine RT.ev rfl rfl (Ev.ldL (E := encN .u8) scal5 rfl (hv.ext hs_8.ext) hx (by decide) rfl) ?_
      refine RT.ev rfl rfl (Ev.assign rfl) ?_
      refine RT.nil ?_
      refine CW.seq ?_
      have hxb := hb x (mem_of_get hx)
      have haa : u ^^^ x < 4294967296 := xor_lt32 hub (by omega)
      refine CW.region ?_
      refine RT.ev rfl rfl (Ev.move rfl) ?_
      refine RT.ev rfl rfl (Ev.move rfl) ?_
      refine RT.ev rfl rfl (Ev.convK (by rw [Try.underlying5]; rfl) Try.underlying132 rfl (wrap_u rfl (by (try simp only [IntKind.bits]); omega))) ?_
      refine RT.ev rfl rfl (Ev.xorN rfl rfl rfl (by (try simp only [IntKind.bits]); omega) (by (try simp only [IntKind.bits]); omega)) ?_
      refine RT.ev rfl rfl (Ev.assign rfl) ?_
      refine RT.nil ?_
      refine CW.seq ?_
      have htg1 := crcTab_get (show (u ^^^ x) % 2 ^ 4 < 16 by omega)
      have htl1 := tabE_lt (show (u ^^^ x) % 2 ^ 4 < 16 by omega)
      refine CW.region ?_
      refine RT.ev rfl rfl (Ev.move rfl) ?_
      refine RT.ev rfl rfl (Ev.shrN (b := 4) rfl rfl (by (try simp only [IntKind.bits]); omega)) ?_
      refine RT.ev rfl rfl (Ev.move rfl) ?_
      refine RT.ev rfl rfl (Ev.maskN (b := 15) 4 rfl rfl rfl (by decide) (by (try simp only [IntKind.bits]); omega) (by decide)) ?_
      refine RT.ev rfl rfl (Ev.idxArr arr172 rfl rfl (by omega)) ?_
      refine RT.ev rfl rfl (Ev.load scal132 rfl (hs_8.cellArr (E := encN .u32) 0 rfl htg1 (by decide) rfl)) ?_
      refine RT.ev rfl rfl (Ev.xorN rfl rfl rfl (by (try simp only [IntKind.bits]); omega) (by (try simp only [IntKind.bits]); omega)) ?_
      refine RT.ev rfl rfl (Ev.assign rfl) ?_
      refine RT.nil ?_
      have hba := crcB_lt haa
      unfold crcB at hba
      have htg2 := crcTab_get (show (((u ^^^ x) / 2 ^ 4) ^^^ (tabE ((u ^^^ x) % 2 ^ 4))) % 2 ^ 4 < 16 by omega)
      have htl2 := tabE_lt (show (((u ^^^ x) / 2 ^ 4) ^^^ (tabE ((u ^^^ x) % 2 ^ 4))) % 2 ^ 4 < 16 by omega)
      have hbb := crcB_lt hba
      unfold crcB at hbb
      refine CW.region ?_
      refine RT.ev rfl rfl (Ev.move rfl) ?_
      refine RT.ev rfl rfl (Ev.shrN (b := 4) rfl rfl (by (try simp only [IntKind.bits]); omega)) ?_
      refine RT.ev rfl rfl (Ev.move rfl) ?_
      refine RT.ev rfl rfl (Ev.maskN (b := 15) 4 rfl rfl rfl (by decide) (by (try simp only [IntKind.bits]); omega) (by decide)) ?_
      refine RT.ev rfl rfl (Ev.idxArr arr172 rfl rfl (by omega)) ?_
      refine RT.ev rfl rfl (Ev.load scal132 rfl (hs_8.cellArr (E := encN .u32) 0 rfl htg2 (by decide) rfl)) ?_
      refine RT.ev rfl rfl (Ev.xorN rfl rfl rfl (by (try simp only [IntKind.bits]); omega) (by (try simp only [IntKind.bits]); omega)) ?_
      refine RT.ev rfl rfl (Ev.assign rfl) ?_
      refine RT.nil ?_
      refine CW.region ?_
      refine RT.ev rfl rfl (Ev.addI (b := 1) rfl rfl (by omega)) ?_
      refine RT.ev rfl rfl (Ev.move rfl) ?_
      refine RT.nil ?_
      exact ⟨(k + 1, (((((u ^^^ x) / 2 ^ 4) ^^^ (tabE ((u ^^^ x) % 2 ^ 4))) / 2 ^ 4) ^^^ (tabE ((((u ^^^ x) / 2 ^ 4) ^^^ (tabE ((u ^^^ x) % 2 ^ 4))) % 2 ^ 4)))), ⟨rfl, rfl, rfl, rfl, rfl, trivial⟩, ⟨hs_8, by omega, by rw [take_succ_of hx, crcF_snoc, ← hu]; rfl, hbb⟩, (show (l.length - (k + 1)) < (l.length - k) from by omega)⟩
    · refine CW.exit0 ?_
      refine CW.seq ?_
      refine CW.region ?_
      refine RT.ev rfl rfl (Ev.move rfl) ?_
      refine RT.ev rfl rfl (Ev.not32 rfl (by omega)) ?_
      refine RT.ev rfl rfl (Ev.assign rfl) ?_
      refine RT.nil ?_
      refine CW.ret ?_
      show PostK _ _ _ _ _ _
      refine post1 rfl rfl ?_
      have hs_9 : Sat w [] w_5 := hs_8.sub ((.cons _ .slnil))
      rw [show k = l.length by omega, List.take_length] at hu
      exact ⟨by rw [hu]; rfl, hs_9⟩

theorem bytesOf_ok (v : Nat) (w : World) (hv : v < 4294967296) :
    CallsV Try.prog 102 [(Value.int .u32 ((v : Nat) : Int))] w fun r w' => r = .agg ((encN .u8).all (byts v)).toArray ∧ Sat w [] w' := by
  have hs0 := Sat.start w
  refine callsV_of Try.func102 rfl rfl ?_
  refine CW.seq ?_
  refine CW.region ?_
  refine RT.eff rfl rfl (OpE.alloc hs0 zero130 fun b_1 w_1 hs_1 hch_1 hb_1 => ?_)
  have hs_1d : Sat w [cObj b_1 130 [(Value.int .u8 ((0 : Nat) : Int)), (Value.int .u8 ((0 : Nat) : Int)), (Value.int .u8 ((0 : Nat) : Int)), (Value.int .u8 ((0 : Nat) : Int))]] _ := hs_1
  refine RT.nil ?_
  refine CW.seq ?_
  refine CW.region ?_
  refine RT.ev rfl rfl (Ev.move rfl) ?_
  refine RT.ev rfl rfl (Ev.convN (by rw [Try.underlying132]; rfl) Try.underlying5 rfl rfl) ?_
  refine RT.ev rfl rfl (Ev.move rfl) ?_
  refine RT.ev rfl rfl (Ev.shrN (b := 8) rfl rfl (by (try simp only [IntKind.bits]); omega)) ?_
  refine RT.ev rfl rfl (Ev.convN (by rw [Try.underlying132]; rfl) Try.underlying5 rfl rfl) ?_
  refine RT.ev rfl rfl (Ev.move rfl) ?_
  refine RT.ev rfl rfl (Ev.shrN (b := 16) rfl rfl (by (try simp only [IntKind.bits]); omega)) ?_
  refine RT.ev rfl rfl (Ev.convN (by rw [Try.underlying132]; rfl) Try.underlying5 rfl rfl) ?_
  refine RT.ev rfl rfl (Ev.move rfl) ?_
  refine RT.ev rfl rfl (Ev.shrN (b := 24) rfl rfl (by (try simp only [IntKind.bits]); omega)) ?_
  refine RT.ev rfl rfl (Ev.convN (by rw [Try.underlying132]; rfl) Try.underlying5 rfl rfl) ?_
  refine RT.ev rfl rfl (Ev.buildArr bar130 rfl ⟨rfl, rfl, rfl, rfl, trivial⟩ rfl) ?_
  refine RT.eff rfl rfl (OpE.storeObjA (vs := [(Value.int .u8 (((v % 2 ^ 8) : Nat) : Int)), (Value.int .u8 ((((v / 2 ^ 8) % 2 ^ 8) : Nat) : Int)), (Value.int .u8 ((((v / 2 ^ 16) % 2 ^ 8) : Nat) : Int)), (Value.int .u8 ((((v / 2 ^ 24) % 2 ^ 8) : Nat) : Int))]) agg130 hs_1d (i := 0) rfl rfl rfl rfl (fun v h => by simp only [List.mem_cons, List.not_mem_nil, or_false] at h; rcases h with rfl | rfl | rfl | rfl; exact rfl; exact rfl; exact rfl; exact rfl) fun w_2 hs_2 hch_2 => ?_)
  have hs_2d : Sat w [cObj b_1 130 [(Value.int .u8 (((v % 2 ^ 8) : Nat) : Int)), (Value.int .u8 ((((v / 2 ^ 8) % 2 ^ 8) : Nat) : Int)), (Value.int .u8 ((((v / 2 ^ 16) % 2 ^ 8) : Nat) : Int)), (Value.int .u8 ((((v / 2 ^ 24) % 2 ^ 8) : Nat) : Int))]] _ := hs_2
  refine RT.nil ?_
  refine CW.ret ?_
  show PostK _ _ _ _ _ _
  refine post1c (vs := [(Value.int .u8 (((v % 2 ^ 8) : Nat) : Int)), (Value.int .u8 ((((v / 2 ^ 8) % 2 ^ 8) : Nat) : Int)), (Value.int .u8 ((((v / 2 ^ 16) % 2 ^ 8) : Nat) : Int)), (Value.int .u8 ((((v / 2 ^ 24) % 2 ^ 8) : Nat) : Int))]) rfl rfl agg130 (fun j u hu => hs_2d.cell (i := 0) rfl hu) ?_
  have hs_3 : Sat w [] w_2 := hs_2d.sub ((.cons _ .slnil))
  exact ⟨rfl, hs_3⟩

theorem seal_ok (v : Value) (l : List Nat) (w : World) (hv : RdL w v (encN .u8) l) (hb : ∀ x ∈ l, x < 256) (hn : l.length ≤ 1000000000) :
    CallsV Try.prog 62 [v] w fun r w' => Sat w [cL r 5 (encN .u8) (sealN l)] w' := by
  have hs0 := Sat.start w
  refine callsV_of Try.func62 rfl rfl ?_
  refine CW.seq ?_
  refine CW.region ?_
  refine RT.ev rfl rfl (Ev.assign rfl) ?_
  refine RT.nil ?_
  refine CW.seq ?_
  refine CW.region ?_
  refine RT.ev rfl rfl (Ev.move rfl) ?_
  refine RT.eff rfl rfl (OpE.call ent103 rfl ((sum_ok _ (l) _ (hv.ext hs0.ext) (hb) (hn)).mono fun r_1 w_1 h_1 => ?_))
  obtain ⟨rfl, hp_1⟩ := h_1
  have hs_1 : Sat w [] _ := hs0.adds hp_1
  refine RT.eff rfl rfl (OpE.call ent102 rfl ((bytesOf_ok ((sumN (l))) _ (sumN_lt hb)).mono fun r_2 w_2 h_2 => ?_))
  obtain ⟨rfl, hp_2⟩ := h_2
  have hs_2 : Sat w [] _ := hs_1.adds hp_2
  refine RT.eff rfl rfl (OpE.alloc hs_2 zero130 fun b_1 w_3 hs_3 hch_1 hb_1 => ?_)
  have hs_3d : Sat w [cObj b_1 130 [(Value.int .u8 ((0 : Nat) : Int)), (Value.int .u8 ((0 : Nat) : Int)), (Value.int .u8 ((0 : Nat) : Int)), (Value.int .u8 ((0 : Nat) : Int))]] _ := hs_3
  refine RT.eff rfl rfl (OpE.storeObjA (vs := (encN .u8).all (byts (sumN (l)))) agg130 hs_3d (i := 0) rfl rfl rfl rfl ((encN .u8).all_oneCell _) fun w_4 hs_4 hch_2 => ?_)
  have hs_4d : Sat w [cObj b_1 130 ((encN .u8).all (byts (sumN (l))))] _ := hs_4
  refine RT.nil ?_
  refine CW.seq ?_
  refine CW.draw (fun w' => Sat w [cObj b_1 130 ((encN .u8).all (byts (sumN (l))))] w') (.free 0 (.free 1 (.free 2 (.free 3 (.free 4 (.free 5 (.free 6 (.one 7 (.free 8 .fin))))))))) mixed (by kernel_rfl) ?_
  have hs_5 := hs_4d.drew
  refine RP.ev rfl rfl rfl (fun w' hS' => Ev.move rfl) hs_5 ?_
  refine RP.ev rfl rfl rfl (fun w' hS' => Ev.move rfl) hs_5 ?_
  refine RP.ev rfl rfl rfl (fun w' hS' => Ev.lenL Try.underlying40 rfl (hv.ext hS'.ext)) hs_5 ?_
  refine RP.ev rfl rfl rfl (fun w' hS' => Ev.move rfl) hs_5 ?_
  refine RP.ev rfl rfl rfl (fun w' hS' => Ev.lenL Try.underlying40 rfl (hv.ext hS'.ext)) hs_5 ?_
  refine RP.ev rfl rfl rfl (fun w' hS' => Ev.sliceFull (E := encN .u8) sl40 rfl (hv.ext hS'.ext) rfl rfl) hs_5 ?_
  refine RP.ev rfl rfl rfl (fun w' hS' => Ev.sliceArr arr130 (by decide) rfl) hs_5 ?_
  refine RP.eff rfl rfl rfl (OpE.appendFull sl40 hs_5 rfl rfl ((hv.ext hs_5.ext)).full.1 (((hv.ext hs_5.ext)).full.2) Try.underlying40 (hs_5.rdArr (E := encN .u8) (l := byts (sumN (l))) 0 rfl (m := 4) (by first | rfl | simp)) (by simp [byts]) (by simp [byts]; omega) (by simp [byts]; omega) fun v_1 w_5 hs_6 hch_3 => ?_)
  have hs_6d : Sat w [cObj b_1 130 ((encN .u8).all (byts (sumN (l)))), cL v_1 5 (encN .u8) (l ++ byts (sumN (l)))] _ := hs_6
  have hS_1 : Sat w [cObj b_1 130 ((encN .u8).all (byts (sumN (l))))] _ := hs_6d.sub ((.cons_cons _ (.cons _ .slnil)))
  refine ⟨hS_1, ?_⟩
  refine RP.ev rfl rfl rfl (fun w' hS' => Ev.assign rfl) hS_1 ?_
  refine RP.fin ?_
  refine CW.ret ?_
  show PostK _ _ _ _ _ _
  refine post1 rfl rfl ?_
  have hs_7 : Sat w [cL v_1 5 (encN .u8) (l ++ byts (sumN (l)))] w_5 := hs_6d.sub ((.cons _ (.cons_cons _ .slnil)))
  exact hs_7

end Go.Proofs.Ytfhbflhnelbkfaa
