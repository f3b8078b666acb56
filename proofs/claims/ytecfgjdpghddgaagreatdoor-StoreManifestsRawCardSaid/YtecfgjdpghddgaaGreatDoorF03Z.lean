/- The walks of the functions of F03Z, printed by our own program (kwgen.py) out of our descriptions (base.py). -/
import Derived.Test.YtecfgjdpghddgaaGreatDoorM03c
import Derived.Test.YtecfgjdpghddgaaGreatDoorKp
import Derived.Test.YtecfgjdpghddgaaGreatDoorKc
import Derived.Test.YtecfgjdpghddgaaGreatDoorKv
import Derived.Test.YtecfgjdpghddgaaGreatDoorTab
set_option linter.unusedVariables false
set_option linter.unusedSimpArgs false
set_option linter.unusedSectionVars false
namespace Go.Proofs.YtecfgjdpghddgaaGreatDoor
open Go.RowKit Go.Kw
set_option maxRecDepth 100000
theorem step_ok (v n : Nat) (w : World) (hv : v < 4294967296) (hn : n ≤ 1000) :
    CallsV Tryz.prog 96 [(.int .u32 v), (.int .i64 n)] w fun r w' => r = .int .u32 (stepN v n : Nat) ∧ Sat w [] w' := by
  have hs0 := Sat.start w
  refine callsV_of Tryz.func96 rfl rfl ?_
  refine .seq <| .region <| .s rfl rfl <| .nil <| .seq <| .seq <| .region <| .m rfl rfl <| .m rfl rfl <| .nil <| .block <| .loop (α := Nat × Nat) (fun (k, u) => [(0, (.int .u32 u)), (5, (.int .i64 n)), (6, (.int .i64 k))]) (fun (k, u) w' => Sat w [] w' ∧ (k ≤ n) ∧ (u = stepN v k) ∧ (u < 4294967296)) (fun (k, u) => n - k) (0, v) ⟨rfl, rfl, rfl, trivial⟩ ⟨hs0, Nat.zero_le _, rfl, hv⟩ ?_
  rintro ⟨k, u⟩ w_1 ⟨hs_1, hk, hu, hub⟩
  show CW _ _ _ _ [(0, (.int .u32 u)), (5, (.int .i64 n)), (6, (.int .i64 k))] _
  refine .seq <| .region <| .e rfl (.lssN rfl rfl) <| .nil <| .seq <| .condD rfl (fun hc_1 => ?_) (fun hc_1 => ?_)
  · refine .skip <| .seq <| .block <| .seq <| .region <| .m rfl rfl <| .e rfl (.maskN (b := 1) 1 rfl rfl rfl (by decide) (by (try simp only [IntKind.bits]); omega) (by decide)) <| .e rfl (.eqlN (b := 1) rfl rfl) <| .nil <| .condD rfl (fun hc_2 => ?_) (fun hc_2 => ?_)
    · refine .region <| .m rfl rfl <| .e rfl (.shrN (b := 1) rfl rfl (by (try simp only [IntKind.bits]); omega)) <| .e rfl (.xorN (b := 2197175160) rfl rfl rfl (by (try simp only [IntKind.bits]); omega) (by (try simp only [IntKind.bits]); omega)) <| .s rfl rfl <| .nil <| .region <| .e rfl (.addI (b := 1) rfl rfl (by omega)) <| .m rfl rfl <| .nil ?_
      exact ⟨(k + 1, ((u / 2 ^ 1) ^^^ 2197175160)), ⟨rfl, rfl, rfl, trivial⟩, ⟨hs_1, by omega, by rw [stepN, ← hu]; simp [st1, hc_2], by have := st1_lt hub; simpa [st1, hc_2] using this⟩, (show (n - (k + 1)) < (n - k) from by omega)⟩
    · refine .region <| .m rfl rfl <| .e rfl (.shrN (b := 1) rfl rfl (by (try simp only [IntKind.bits]); omega)) <| .s rfl rfl <| .nil <| .region <| .e rfl (.addI (b := 1) rfl rfl (by omega)) <| .m rfl rfl <| .nil ?_
      exact ⟨(k + 1, (u / 2 ^ 1)), ⟨rfl, rfl, rfl, trivial⟩, ⟨hs_1, by omega, by rw [stepN, ← hu]; simp [st1, hc_2], by have := st1_lt hub; simpa [st1, hc_2] using this⟩, (show (n - (k + 1)) < (n - k) from by omega)⟩
  · refine .exit0 <| .seq <| .region <| .m rfl rfl <| .s rfl rfl <| .nil <| .ret ?_
    show PostK _ _ _ _ _ _
    refine post1 rfl rfl ?_
    rw [show k = n by omega] at hu
    exact ⟨by rw [hu], hs_1⟩
theorem sum_ok (v : Value) (l : List Nat) (w : World) (hv : RdL w v (encN .u8) l) (hb : ∀ x ∈ l, x < 256) (hn : l.length ≤ 1000000000) :
    CallsV Tryz.prog 56 [v] w fun r w' => r = .int .u32 (sumN l : Nat) ∧ Sat w [] w' := by
  have hs0 := Sat.start w
  refine callsV_of Tryz.func56 rfl rfl ?_
  refine .seq <| .region <| .s rfl rfl <| .nil <| .seq <| .region <| .f rfl (.alloc hs0 zero158 fun b_1 w_1 hs_1 hch_1 hb_1 => ?_)
  refine .nil <| .seq <| .seq <| .region <| .m rfl rfl <| .nil <| .block ?_
  have hs_2 : Sat w [cObj b_1 158 ((encN .u32).all (tabU 0))] w_1 := hs_1
  refine .loop (α := Nat) (fun k => [(0, v), (3, (.pointer (some ⟨b_1, 0, none⟩))), (8, (.int .i64 k))]) (fun k w' => Sat w [cObj b_1 158 ((encN .u32).all (tabU k))] w' ∧ (k ≤ 16)) (fun k => 16 - k) 0 ⟨rfl, rfl, rfl, trivial⟩ ⟨hs_2, Nat.zero_le _⟩ ?_
  rintro k w_2 ⟨hs_3, hk⟩
  show CW _ _ _ _ [(0, v), (3, (.pointer (some ⟨b_1, 0, none⟩))), (8, (.int .i64 k))] _
  refine .seq <| .region <| .e rfl (.lssN (b := 16) rfl rfl) <| .nil <| .seq <| .condD rfl (fun hc_1 => ?_) (fun hc_1 => ?_)
  · refine .skip <| .seq <| .block <| .seq <| .region <| .m rfl rfl <| .s rfl rfl <| .nil <| .region <| .m rfl rfl <| .m rfl rfl <| .e rfl (.convN (by rw [Tryz.underlying3]; rfl) Tryz.underlying106 rfl rfl) <| .f rfl (.call ent96 rfl ((step_ok ((k % 2 ^ 32)) (4) _ (by omega) (by omega)).mono fun r_1 w_3 h_1 => ?_))
    obtain ⟨rfl, hp_1⟩ := h_1
    have hs_4 := hs_3.adds hp_1
    refine .e rfl (.idxArr arr158 rfl rfl (by omega)) <| .f rfl (.setArr (E := encN .u32) (a := (stepN ((k % 2 ^ 32)) (4))) 0 one106 hs_4 rfl rfl rfl rfl (by rw [tabU_length]; all_goals omega) fun w_4 hs_5 hch_2 => ?_)
    refine .nil <| .region <| .e rfl (.addI (b := 1) rfl rfl (by omega)) <| .m rfl rfl <| .nil ?_
    have hs_6 : Sat w [cObj b_1 158 ((encN .u32).all (tabU (k + 1)))] w_4 := by
      have hq : (tabU k).set k (stepN ((k % 2 ^ 32)) (4)) = tabU (k + 1) := by rw [Nat.mod_eq_of_lt (show k < 2 ^ 32 by omega)]; exact tabU_set (by omega)
      rw [← hq]; exact hs_5
    exact ⟨k + 1, ⟨rfl, rfl, rfl, trivial⟩, ⟨hs_6, by omega⟩, (show (16 - (k + 1)) < (16 - k) from by omega)⟩
  · refine .exit0 <| .seq ?_
    have hs_7 : Sat w [cObj b_1 158 ((encN .u32).all (crcTab))] w_2 := by
      have hq : tabU k = crcTab := by rw [show k = 16 by omega]; exact tabU_all
      rw [← hq]; exact hs_3
    refine .region <| .s rfl rfl <| .nil <| .seq <| .seq <| .region <| .m rfl rfl <| .e rfl (.lenL Tryz.underlying43 rfl (hv.ext hs_7.ext)) <| .m rfl rfl <| .nil <| .block <| .loop (α := Nat × Nat) (fun (k, u) => [(3, (.pointer (some ⟨b_1, 0, none⟩))), (5, (.int .u32 u)), (17, v), (18, (.int .i64 l.length)), (19, (.int .i64 k))]) (fun (k, u) w' => Sat w [cObj b_1 158 ((encN .u32).all (crcTab))] w' ∧ (k ≤ l.length) ∧ (u = crcF (l.take k)) ∧ (u < 4294967296)) (fun (k, u) => l.length - k) (0, 4294967295) ⟨rfl, rfl, rfl, rfl, rfl, trivial⟩ ⟨hs_7, Nat.zero_le _, rfl, by omega⟩ ?_
    rintro ⟨k, u⟩ w_5 ⟨hs_8, hk, hu, hub⟩
    show CW _ _ _ _ [(3, (.pointer (some ⟨b_1, 0, none⟩))), (5, (.int .u32 u)), (17, v), (18, (.int .i64 l.length)), (19, (.int .i64 k))] _
    refine .seq <| .region <| .e rfl (.lssN rfl rfl) <| .nil <| .seq <| .condD rfl (fun hc_2 => ?_) (fun hc_2 => ?_)
    · refine .skip <| .seq <| .block <| .seq ?_
      obtain ⟨x, hx⟩ : ∃ x, (l)[k]? = some x := ⟨_, List.getElem?_eq_getElem hc_2⟩
      refine .region <| .e rfl (.idxL (E := encN .u8) sl43 rfl rfl (hv.ext hs_8.ext) (by omega)) <| .e rfl (.ldL (E := encN .u8) scal5 rfl (hv.ext hs_8.ext) hx (by decide) rfl) <| .s rfl rfl <| .nil <| .seq ?_
      have hxb := hb x (mem_of_get hx)
      have haa : u ^^^ x < 4294967296 := xor_lt32 hub (by omega)
      refine .region <| .m rfl rfl <| .m rfl rfl <| .e rfl (.convK (by rw [Tryz.underlying5]; rfl) Tryz.underlying106 rfl (wrap_u rfl (by (try simp only [IntKind.bits]); omega))) <| .e rfl (.xorN rfl rfl rfl (by (try simp only [IntKind.bits]); omega) (by (try simp only [IntKind.bits]); omega)) <| .s rfl rfl <| .nil <| .seq ?_
      have htg1 := crcTab_get (show (u ^^^ x) % 2 ^ 4 < 16 by omega)
      have htl1 := tabE_lt (show (u ^^^ x) % 2 ^ 4 < 16 by omega)
      refine .region <| .m rfl rfl <| .e rfl (.shrN (b := 4) rfl rfl (by (try simp only [IntKind.bits]); omega)) <| .m rfl rfl <| .e rfl (.maskN (b := 15) 4 rfl rfl rfl (by decide) (by (try simp only [IntKind.bits]); omega) (by decide)) <| .e rfl (.idxArr arr158 rfl rfl (by omega)) <| .e rfl (.load scal106 rfl (hs_8.cellArr (E := encN .u32) 0 rfl htg1 (by decide) rfl)) <| .e rfl (.xorN rfl rfl rfl (by (try simp only [IntKind.bits]); omega) (by (try simp only [IntKind.bits]); omega)) <| .s rfl rfl <| .nil ?_
      have hba := crcB_lt haa
      unfold crcB at hba
      have htg2 := crcTab_get (show (((u ^^^ x) / 2 ^ 4) ^^^ (tabE ((u ^^^ x) % 2 ^ 4))) % 2 ^ 4 < 16 by omega)
      have htl2 := tabE_lt (show (((u ^^^ x) / 2 ^ 4) ^^^ (tabE ((u ^^^ x) % 2 ^ 4))) % 2 ^ 4 < 16 by omega)
      have hbb := crcB_lt hba
      unfold crcB at hbb
      refine .region <| .m rfl rfl <| .e rfl (.shrN (b := 4) rfl rfl (by (try simp only [IntKind.bits]); omega)) <| .m rfl rfl <| .e rfl (.maskN (b := 15) 4 rfl rfl rfl (by decide) (by (try simp only [IntKind.bits]); omega) (by decide)) <| .e rfl (.idxArr arr158 rfl rfl (by omega)) <| .e rfl (.load scal106 rfl (hs_8.cellArr (E := encN .u32) 0 rfl htg2 (by decide) rfl)) <| .e rfl (.xorN rfl rfl rfl (by (try simp only [IntKind.bits]); omega) (by (try simp only [IntKind.bits]); omega)) <| .s rfl rfl <| .nil <| .region <| .e rfl (.addI (b := 1) rfl rfl (by omega)) <| .m rfl rfl <| .nil ?_
      exact ⟨(k + 1, (((((u ^^^ x) / 2 ^ 4) ^^^ (tabE ((u ^^^ x) % 2 ^ 4))) / 2 ^ 4) ^^^ (tabE ((((u ^^^ x) / 2 ^ 4) ^^^ (tabE ((u ^^^ x) % 2 ^ 4))) % 2 ^ 4)))), ⟨rfl, rfl, rfl, rfl, rfl, trivial⟩, ⟨hs_8, by omega, by rw [take_succ_of hx, crcF_snoc, ← hu]; rfl, hbb⟩, (show (l.length - (k + 1)) < (l.length - k) from by omega)⟩
    · refine .exit0 <| .seq <| .region <| .m rfl rfl <| .e rfl (.not32 rfl (by omega)) <| .s rfl rfl <| .nil <| .ret ?_
      show PostK _ _ _ _ _ _
      refine post1 rfl rfl ?_
      have hs_9 : Sat w [] w_5 := hs_8.sub ((.cons _ .slnil))
      rw [show k = l.length by omega, List.take_length] at hu
      exact ⟨by rw [hu]; rfl, hs_9⟩
theorem bytesOf_ok (v : Nat) (w : World) (hv : v < 4294967296) :
    CallsV Tryz.prog 55 [(.int .u32 v)] w fun r w' => r = .agg ((encN .u8).all (byts v)).toArray ∧ Sat w [] w' := by
  have hs0 := Sat.start w
  refine callsV_of Tryz.func55 rfl rfl ?_
  refine .seq <| .region <| .f rfl (.alloc hs0 zero104 fun b_1 w_1 hs_1 hch_1 hb_1 => ?_)
  refine .nil <| .seq <| .region <| .m rfl rfl <| .e rfl (.convN (by rw [Tryz.underlying106]; rfl) Tryz.underlying5 rfl rfl) <| .m rfl rfl <| .e rfl (.shrN (b := 8) rfl rfl (by (try simp only [IntKind.bits]); omega)) <| .e rfl (.convN (by rw [Tryz.underlying106]; rfl) Tryz.underlying5 rfl rfl) <| .m rfl rfl <| .e rfl (.shrN (b := 16) rfl rfl (by (try simp only [IntKind.bits]); omega)) <| .e rfl (.convN (by rw [Tryz.underlying106]; rfl) Tryz.underlying5 rfl rfl) <| .m rfl rfl <| .e rfl (.shrN (b := 24) rfl rfl (by (try simp only [IntKind.bits]); omega)) <| .e rfl (.convN (by rw [Tryz.underlying106]; rfl) Tryz.underlying5 rfl rfl) <| .e rfl (.buildArr bar104 rfl ⟨rfl, rfl, rfl, rfl, trivial⟩ rfl) <| .f rfl (.storeObjA (vs := [(.int .u8 ((v % 2 ^ 8) : Nat)), (.int .u8 (((v / 2 ^ 8) % 2 ^ 8) : Nat)), (.int .u8 (((v / 2 ^ 16) % 2 ^ 8) : Nat)), (.int .u8 (((v / 2 ^ 24) % 2 ^ 8) : Nat))]) agg104 hs_1 (i := 0) rfl rfl rfl rfl (fun v h => by simp only [List.mem_cons, List.not_mem_nil, or_false] at h; rcases h with rfl | rfl | rfl | rfl; exact rfl; exact rfl; exact rfl; exact rfl) fun w_2 hs_2 hch_2 => ?_)
  refine .nil <| .ret ?_
  show PostK _ _ _ _ _ _
  refine post1c (vs := [(.int .u8 ((v % 2 ^ 8) : Nat)), (.int .u8 (((v / 2 ^ 8) % 2 ^ 8) : Nat)), (.int .u8 (((v / 2 ^ 16) % 2 ^ 8) : Nat)), (.int .u8 (((v / 2 ^ 24) % 2 ^ 8) : Nat))]) rfl rfl agg104 (fun j u hu => hs_2.cell (i := 0) rfl hu) ?_
  have hs_3 : Sat w [] w_2 := hs_2.sub ((.cons _ .slnil))
  exact ⟨rfl, hs_3⟩
theorem seal_ok (v : Value) (l : List Nat) (w : World) (hv : RdL w v (encN .u8) l) (hb : ∀ x ∈ l, x < 256) (hn : l.length ≤ 1000000000) :
    CallsV Tryz.prog 24 [v] w fun r w' => Sat w [cL r 5 (encN .u8) (sealN l)] w' := by
  have hs0 := Sat.start w
  refine callsV_of Tryz.func24 rfl rfl ?_
  refine .seq <| .region <| .s rfl rfl <| .nil <| .seq <| .region <| .m rfl rfl <| .f rfl (.call ent56 rfl ((sum_ok _ (l) _ (hv.ext hs0.ext) (hb) (hn)).mono fun r_1 w_1 h_1 => ?_))
  obtain ⟨rfl, hp_1⟩ := h_1
  have hs_1 := hs0.adds hp_1
  refine .f rfl (.call ent55 rfl ((bytesOf_ok ((sumN (l))) _ (sumN_lt hb)).mono fun r_2 w_2 h_2 => ?_))
  obtain ⟨rfl, hp_2⟩ := h_2
  have hs_2 := hs_1.adds hp_2
  refine .f rfl (.alloc hs_2 zero104 fun b_1 w_3 hs_3 hch_1 hb_1 => ?_)
  have hs_3d : Sat w [cObj b_1 104 [(.int .u8 (0 : Nat)), (.int .u8 (0 : Nat)), (.int .u8 (0 : Nat)), (.int .u8 (0 : Nat))]] _ := hs_3
  refine .f rfl (.storeObjA (vs := (encN .u8).all (byts (sumN (l)))) agg104 hs_3d (i := 0) rfl rfl rfl rfl ((encN .u8).all_oneCell _) fun w_4 hs_4 hch_2 => ?_)
  refine .nil <| .seq <| .drawS hs_4 (.free 0 (.free 1 (.free 2 (.free 3 (.free 4 (.free 5 (.free 6 (.one 7 (.free 8 .fin))))))))) mixed (by kernel_rfl) ?_
  have hs_5 := hs_4.drew
  refine .m rfl rfl hs_5 <| .m rfl rfl hs_5 <| .e rfl (fun w' hS' => .lenL Tryz.underlying43 rfl (hv.ext hS'.ext)) hs_5 <| .m rfl rfl hs_5 <| .e rfl (fun w' hS' => .lenL Tryz.underlying43 rfl (hv.ext hS'.ext)) hs_5 <| .e rfl (fun w' hS' => .sliceFull (E := encN .u8) sl43 rfl (hv.ext hS'.ext) rfl rfl) hs_5 <| .e rfl (fun w' hS' => .sliceArr arr104 (by decide) rfl) hs_5 <| .f rfl (.appendFull sl43 hs_5 rfl rfl ((hv.ext hs_5.ext)).full.1 (((hv.ext hs_5.ext)).full.2) Tryz.underlying43 (hs_5.rdArr (E := encN .u8) (l := byts (sumN (l))) 0 rfl (m := 4) (by first | rfl | simp)) (by simp [byts]) (by simp [byts]; omega) (by simp [byts]; omega) fun v_1 w_5 hs_6 hch_3 => ?_)
  have hS_1 : Sat w [_] _ := hs_6.sub ((.cons_cons _ (.cons _ .slnil)))
  refine ⟨hS_1, ?_⟩
  refine .e rfl (fun w' hS' => .assign rfl) hS_1 <| .fin <| .ret ?_
  show PostK _ _ _ _ _ _
  refine post1 rfl rfl ?_
  have hs_7 : Sat w [cL v_1 5 (encN .u8) (l ++ byts (sumN (l)))] w_5 := hs_6.sub ((.cons _ (.cons_cons _ .slnil)))
  exact hs_7
theorem rstep_ok (v : Nat) (w : World) (hv : v < 4294967296) :
    CallsV Tryz.prog 100 [(.int .u32 v)] w fun r w' => r = .int .u32 (stepN v 8 : Nat) ∧ Sat w [] w' := by
  have hs0 := Sat.start w
  refine callsV_of Tryz.func100 rfl rfl ?_
  refine .seq <| .region <| .s rfl rfl <| .nil <| .seq <| .seq <| .region <| .s rfl rfl <| .nil <| .block <| .loop (α := Nat × Nat) (fun (k, u) => [(0, (.int .u32 u)), (3, (.int .i64 k))]) (fun (k, u) w' => Sat w [] w' ∧ (k ≤ 8) ∧ (u = stepN v k) ∧ (u < 4294967296)) (fun (k, u) => 8 - k) (0, v) ⟨rfl, rfl, trivial⟩ ⟨hs0, Nat.zero_le _, rfl, hv⟩ ?_
  rintro ⟨k, u⟩ w_1 ⟨hs_1, hk, hu, hub⟩
  show CW _ _ _ _ [(0, (.int .u32 u)), (3, (.int .i64 k))] _
  refine .seq <| .seq <| .region <| .m rfl rfl <| .e rfl (.lssN (b := 8) rfl rfl) <| .nil <| .condD rfl (fun hc_1 => ?_) (fun hc_1 => ?_)
  · refine .skip <| .seq <| .block <| .seq <| .region <| .m rfl rfl <| .e rfl (.maskN (b := 1) 1 rfl rfl rfl (by decide) (by (try simp only [IntKind.bits]); omega) (by decide)) <| .e rfl (.eqlN (b := 1) rfl rfl) <| .nil <| .condD rfl (fun hc_2 => ?_) (fun hc_2 => ?_)
    · refine .region <| .m rfl rfl <| .e rfl (.shrN (b := 1) rfl rfl (by (try simp only [IntKind.bits]); omega)) <| .e rfl (.xorN (b := 2197175160) rfl rfl rfl (by (try simp only [IntKind.bits]); omega) (by (try simp only [IntKind.bits]); omega)) <| .s rfl rfl <| .nil <| .region <| .m rfl rfl <| .e rfl (.addI (b := 1) rfl rfl (by omega)) <| .s rfl rfl <| .nil ?_
      exact ⟨(k + 1, ((u / 2 ^ 1) ^^^ 2197175160)), ⟨rfl, rfl, trivial⟩, ⟨hs_1, by omega, by rw [stepN, ← hu]; simp [st1, hc_2], by have := st1_lt hub; simpa [st1, hc_2] using this⟩, (show (8 - (k + 1)) < (8 - k) from by omega)⟩
    · refine .region <| .m rfl rfl <| .e rfl (.shrN (b := 1) rfl rfl (by (try simp only [IntKind.bits]); omega)) <| .s rfl rfl <| .nil <| .region <| .m rfl rfl <| .e rfl (.addI (b := 1) rfl rfl (by omega)) <| .s rfl rfl <| .nil ?_
      exact ⟨(k + 1, (u / 2 ^ 1)), ⟨rfl, rfl, trivial⟩, ⟨hs_1, by omega, by rw [stepN, ← hu]; simp [st1, hc_2], by have := st1_lt hub; simpa [st1, hc_2] using this⟩, (show (8 - (k + 1)) < (8 - k) from by omega)⟩
  · refine .exit0 <| .seq <| .region <| .m rfl rfl <| .s rfl rfl <| .nil <| .ret ?_
    show PostK _ _ _ _ _ _
    refine post1 rfl rfl ?_
    rw [show k = 8 by omega] at hu
    exact ⟨by rw [hu], hs_1⟩
theorem rsum_ok (v : Value) (l : List Nat) (w : World) (hv : RdL w v (encN .u8) l) (hb : ∀ x ∈ l, x < 256) (hn : l.length ≤ 1000000000) :
    CallsV Tryz.prog 59 [v] w fun r w' => r = .int .u32 (sumN l : Nat) ∧ Sat w [] w' := by
  have hs0 := Sat.start w
  refine callsV_of Tryz.func59 rfl rfl ?_
  refine .seq <| .region <| .s rfl rfl <| .nil <| .seq <| .region <| .s rfl rfl <| .nil <| .seq <| .seq <| .region <| .m rfl rfl <| .e rfl (.lenL Tryz.underlying43 rfl (hv.ext hs0.ext)) <| .m rfl rfl <| .nil <| .block <| .loop (α := Nat × Nat) (fun (k, u) => [(3, (.int .u32 u)), (6, v), (7, (.int .i64 l.length)), (8, (.int .i64 k))]) (fun (k, u) w' => Sat w [] w' ∧ (k ≤ l.length) ∧ (u = crcF (l.take k)) ∧ (u < 4294967296)) (fun (k, u) => l.length - k) (0, 4294967295) ⟨rfl, rfl, rfl, rfl, trivial⟩ ⟨hs0, Nat.zero_le _, rfl, by omega⟩ ?_
  rintro ⟨k, u⟩ w_1 ⟨hs_1, hk, hu, hub⟩
  show CW _ _ _ _ [(3, (.int .u32 u)), (6, v), (7, (.int .i64 l.length)), (8, (.int .i64 k))] _
  refine .seq <| .region <| .e rfl (.lssN rfl rfl) <| .nil <| .seq <| .condD rfl (fun hc_1 => ?_) (fun hc_1 => ?_)
  · refine .skip <| .seq <| .block <| .seq ?_
    obtain ⟨x, hx⟩ : ∃ x, (l)[k]? = some x := ⟨_, List.getElem?_eq_getElem hc_1⟩
    refine .region <| .e rfl (.idxL (E := encN .u8) sl43 rfl rfl (hv.ext hs_1.ext) (by omega)) <| .e rfl (.ldL (E := encN .u8) scal5 rfl (hv.ext hs_1.ext) hx (by decide) rfl) <| .s rfl rfl <| .nil ?_
    have hxb := hb x (mem_of_get hx)
    have haa : u ^^^ x < 4294967296 := xor_lt32 hub (by omega)
    refine .region <| .m rfl rfl <| .m rfl rfl <| .e rfl (.convK (by rw [Tryz.underlying5]; rfl) Tryz.underlying106 rfl (wrap_u rfl (by (try simp only [IntKind.bits]); omega))) <| .e rfl (.xorN rfl rfl rfl (by (try simp only [IntKind.bits]); omega) (by (try simp only [IntKind.bits]); omega)) <| .f rfl (.call ent100 rfl ((rstep_ok ((u ^^^ x)) _ (haa)).mono fun r_1 w_2 h_1 => ?_))
    obtain ⟨rfl, hp_1⟩ := h_1
    have hs_2 := hs_1.adds hp_1
    refine .s rfl rfl <| .nil <| .region <| .e rfl (.addI (b := 1) rfl rfl (by omega)) <| .m rfl rfl <| .nil ?_
    exact ⟨(k + 1, (stepN ((u ^^^ x)) 8)), ⟨rfl, rfl, rfl, rfl, trivial⟩, ⟨hs_2, by omega, by rw [take_succ_of hx, crcF_snoc, ← hu, stepN_eight], stepN_lt haa 8⟩, (show (l.length - (k + 1)) < (l.length - k) from by omega)⟩
  · refine .exit0 <| .seq <| .region <| .m rfl rfl <| .e rfl (.not32 rfl (by omega)) <| .s rfl rfl <| .nil <| .ret ?_
    show PostK _ _ _ _ _ _
    refine post1 rfl rfl ?_
    have hs_3 : Sat w [] w_1 := hs_1.sub (.slnil)
    rw [show k = l.length by omega, List.take_length] at hu
    exact ⟨by rw [hu]; rfl, hs_3⟩
theorem rseal_ok (v : Value) (l : List Nat) (w : World) (hv : RdL w v (encN .u8) l) (hb : ∀ x ∈ l, x < 256) (hn : l.length ≤ 1000000000) :
    CallsV Tryz.prog 28 [v] w fun r w' => Sat w [cL r 5 (encN .u8) (sealN l)] w' := by
  have hs0 := Sat.start w
  refine callsV_of Tryz.func28 rfl rfl ?_
  refine .seq <| .region <| .s rfl rfl <| .nil <| .seq <| .region <| .m rfl rfl <| .f rfl (.call ent59 rfl ((rsum_ok _ (l) _ (hv.ext hs0.ext) (hb) (hn)).mono fun r_1 w_1 h_1 => ?_))
  obtain ⟨rfl, hp_1⟩ := h_1
  have hs_1 := hs0.adds hp_1
  refine .s rfl rfl <| .nil <| .seq ?_
  have hsl := sumN_lt hb
  refine .region <| .m rfl rfl ?_
  have hs_2 := hs_1.newNilL 5 (encN .u8)
  refine .f rfl (.appendL 0 sl43 hs_2 rfl rfl rfl Tryz.underlying43 (hv.ext hs_2.ext) (by simp; omega) (by simp; omega) fun v_1 w_2 hs_3 hch_1 => ?_)
  have hs_3d : Sat w [cL v_1 5 (encN .u8) (l)] _ := hs_3
  refine .m rfl rfl <| .e rfl (.convN (by rw [Tryz.underlying106]; rfl) Tryz.underlying5 rfl rfl) <| .m rfl rfl <| .e rfl (.shrN (b := 8) rfl rfl (by (try simp only [IntKind.bits]); omega)) <| .e rfl (.convN (by rw [Tryz.underlying106]; rfl) Tryz.underlying5 rfl rfl) <| .m rfl rfl <| .e rfl (.shrN (b := 16) rfl rfl (by (try simp only [IntKind.bits]); omega)) <| .e rfl (.convN (by rw [Tryz.underlying106]; rfl) Tryz.underlying5 rfl rfl) <| .m rfl rfl <| .e rfl (.shrN (b := 24) rfl rfl (by (try simp only [IntKind.bits]); omega)) <| .e rfl (.convN (by rw [Tryz.underlying106]; rfl) Tryz.underlying5 rfl rfl) <| .f rfl (.litN (encN .u8) [((sumN (l)) % 2 ^ 8), (((sumN (l)) / 2 ^ 8) % 2 ^ 8), (((sumN (l)) / 2 ^ 16) % 2 ^ 8), (((sumN (l)) / 2 ^ 24) % 2 ^ 8)] sl43 rfl ⟨rfl, rfl, rfl, rfl, trivial⟩ rfl rfl rfl rfl (by decide) (by decide) hs_3d fun v_2 w_3 hs_4 hch_2 => ?_)
  refine .f rfl (.appendL 0 sl43 hs_4 rfl rfl rfl Tryz.underlying43 (hs_4.rdL 1 rfl) (by simp; omega) (by simp; omega) fun v_3 w_4 hs_5 hch_3 => ?_)
  have hs_5d : Sat w [cL v_3 5 (encN .u8) (l ++ [((sumN (l)) % 2 ^ 8), (((sumN (l)) / 2 ^ 8) % 2 ^ 8), (((sumN (l)) / 2 ^ 16) % 2 ^ 8), (((sumN (l)) / 2 ^ 24) % 2 ^ 8)])] _ := hs_5.drop 1
  refine .s rfl rfl <| .nil <| .ret ?_
  show PostK _ _ _ _ _ _
  refine post1 rfl rfl ?_
  have hs_6 : Sat w [_] w_4 := hs_5d.sub ((.cons_cons _ .slnil))
  have hs_7 : Sat w [cL v_3 5 (encN .u8) (sealN l)] w_4 := by
    have hq : l ++ [((sumN (l)) % 2 ^ 8), (((sumN (l)) / 2 ^ 8) % 2 ^ 8), (((sumN (l)) / 2 ^ 16) % 2 ^ 8), (((sumN (l)) / 2 ^ 24) % 2 ^ 8)] = sealN l := by simp [sealN, byts]
    rw [← hq]; exact hs_6
  exact hs_7
theorem arr4_104 : arr4B Tryz.prog 104 = true := by kernel_rfl
theorem unseal_any (v : Value) (b : List Nat) (w : World) (hv : RdL w v (encN .u8) b) (hb : ∀ x ∈ b, x < 256) (hn : b.length ≤ 1000000000) :
    CallsV Tryz.prog 29 [v] w fun r w' => (∃ e : Int, e ≠ 0 ∧ r = .tuple #[.slice none 0 0, .int .i64 e] ∧ Sat w [] w') ∨ ∃ v' p, b = sealN p ∧ r = .tuple #[v', .int .i64 ((0 : Nat) : Int)] ∧ Sat w [cL v' 5 (encN .u8) p] w' := by
  have hs0 := Sat.start w
  refine callsV_of Tryz.func29 rfl rfl ?_
  refine .seq <| .region <| .s rfl rfl <| .s rfl rfl <| .nil <| .seq <| .seq <| .region <| .m rfl rfl <| .e rfl (.lenL Tryz.underlying43 rfl (hv.ext hs0.ext)) <| .e rfl (.lssN (b := 4) rfl rfl) <| .nil <| .condD rfl (fun hc_1 => ?_) (fun hc_1 => ?_)
  · refine .seq <| .region <| .s rfl rfl <| .s rfl rfl <| .nil <| .ret ?_
    show PostK _ _ _ _ _ _
    refine post2 rfl rfl rfl ?_
    have hs_1 : Sat w [] w := hs0.sub (.slnil)
    exact .inl ⟨_, by decide, rfl, hs_1⟩
  · refine .skip <| .seq <| .region <| .m rfl rfl <| .e rfl (.lenL Tryz.underlying43 rfl (hv.ext hs0.ext)) <| .e rfl (.subI (b := 4) rfl rfl (by omega) (by omega)) <| .s rfl rfl <| .nil <| .seq <| .seq <| .draw (fun w' => Sat w [] w') (.free 0 (.free 1 (.free 2 (.free 5 (.free 6 (.free 7 (.two 3 8 (.two 4 8 (.one 8 (.free 9 (.free 10 .fin))) (.free 9 (.one 4 (.free 10 .fin)))) (.free 9 (.one 3 (.one 4 (.free 10 .fin))))))))))) mixed (by kernel_rfl) ?_
    have hs_2 := hs0.drew
    refine .m rfl rfl hs_2 <| .m rfl rfl hs_2 <| .e rfl (fun w' hS' => .sliceL (E := encN .u8) (a := 0) (c := (b.length - 4)) sl43 rfl (hv.ext hS'.ext) rfl ⟨_, rfl⟩ (Nat.zero_le _) (by omega)) hs_2 <| .m rfl rfl hs_2 <| .m rfl rfl hs_2 <| .e rfl (fun w' hS' => .sliceL (E := encN .u8) (a := (b.length - 4)) (c := (b).length) sl43 rfl (hv.ext hS'.ext) ⟨_, rfl⟩ rfl (by omega) (Nat.le_refl _)) hs_2 <| .two rfl rfl rfl rfl rfl rfl (OpE.call ent56 rfl ((sum_ok _ (((b).take (b.length - 4)).drop 0) _ (((hv.ext hs_2.ext)).sub (a := 0) (b := (b.length - 4)) (Nat.zero_le _) (by omega)) (fun x hx => hb x (List.mem_of_mem_take (List.mem_of_mem_drop hx))) (by simp; omega)).mono fun r_1 w_1 h_1 => ?_)) (OpE.ev (Ev.toArr (E := encN .u8) Tryz.underlying104 rfl (((hv.ext hs_2.ext)).sub (a := (b.length - 4)) (b := (b).length) (by omega) (Nat.le_refl _)) (by simp; omega)) ⟨hs_2, ?_⟩)
    · obtain ⟨rfl, hp_1⟩ := h_1
      have hs_3 := hs_2.adds hp_1
      have hS_1 : Sat w [] _ := hs_3.sub (.slnil)
      refine ⟨hS_1, ?_⟩
      refine .two rfl rfl rfl rfl rfl rfl (OpE.call ent55 rfl ((bytesOf_ok ((sumN (((b).take (b.length - 4)).drop 0))) _ (sumN_lt (fun x hx => hb x (List.mem_of_mem_take (List.mem_of_mem_drop hx))))).mono fun r_2 w_2 h_2 => ?_)) (OpE.ev (Ev.toArr (E := encN .u8) Tryz.underlying104 rfl (((hv.ext hs_3.ext)).sub (a := (b.length - 4)) (b := (b).length) (by omega) (Nat.le_refl _)) (by simp; omega)) ⟨hS_1, ?_⟩)
      · obtain ⟨rfl, hp_2⟩ := h_2
        have hs_4 := hs_3.adds hp_2
        have hS_2 : Sat w [] _ := hs_4.sub (.slnil)
        refine ⟨hS_2, ?_⟩
        refine .f rfl (.ev (Ev.toArr (E := encN .u8) Tryz.underlying104 rfl (((hv.ext hs_4.ext)).sub (a := (b.length - 4)) (b := (b).length) (by omega) (Nat.le_refl _)) (by simp; omega)) ⟨hS_2, ?_⟩)
        refine .e rfl (fun w' hS' => .ldArr (E := encN .u8) agg104 rfl (((hv.ext hS'.ext)).sub (a := (b.length - 4)) (b := (b).length) (by omega) (Nat.le_refl _)) (by show _ * 1 = _; simp; omega) (by decide)) hS_2 <| .e rfl (fun w' hS' => .neqArr4 arr4_104 (rfl) (by simp; omega) rfl rfl) hS_2 <| .fin <| .condD rfl (fun hc_2 => ?_) (fun hc_2 => ?_)
        · refine .seq <| .region <| .s rfl rfl <| .s rfl rfl <| .nil <| .ret ?_
          show PostK _ _ _ _ _ _
          refine post2 rfl rfl rfl ?_
          have hs_5 : Sat w [] w_2 := hs_4.sub (.slnil)
          exact .inl ⟨_, by decide, rfl, hs_5⟩
        · refine .skip <| .seq <| .region <| .f rfl (.lit0 (encN .u8) sl43 hs_4 fun v_1 w_3 hs_6 hch_1 => ?_)
          refine .m rfl rfl <| .m rfl rfl <| .e rfl (.sliceL (E := encN .u8) (a := 0) (c := (b.length - 4)) sl43 rfl (hv.ext hs_6.ext) rfl ⟨_, rfl⟩ (Nat.zero_le _) (by omega)) <| .f rfl (.appendL 0 sl43 hs_6 rfl rfl rfl Tryz.underlying43 (((hv.ext hs_6.ext)).sub (a := 0) (b := (b.length - 4)) (Nat.zero_le _) (by omega)) (by simp; omega) (by simp; omega) fun v_2 w_4 hs_7 hch_2 => ?_)
          refine .s rfl rfl <| .s rfl rfl <| .nil <| .ret ?_
          show PostK _ _ _ _ _ _
          refine post2 rfl rfl rfl ?_
          have hs_8 : Sat w [_] w_4 := hs_7.sub ((.cons_cons _ .slnil))
          have hs_9 : Sat w [cL v_2 5 (encN .u8) (b.take (b.length - 4))] w_4 := by
            have hq : ((b).take (b.length - 4)).drop 0 = b.take (b.length - 4) := by simp
            rw [← hq]; exact hs_8
          have hq : b = sealN (b.take (b.length - 4)) := by
            have h9 := Decidable.not_not.1 hc_2
            rw [List.drop_zero, List.take_length] at h9
            unfold sealN
            rw [h9, List.take_append_drop]
          exact .inr ⟨_, _, hq, rfl, hs_9⟩
      · refine .e rfl (fun w' hS' => .ldArr (E := encN .u8) agg104 rfl (((hv.ext hS'.ext)).sub (a := (b.length - 4)) (b := (b).length) (by omega) (Nat.le_refl _)) (by show _ * 1 = _; simp; omega) (by decide)) hS_1 <| .f rfl (.call ent55 rfl ((bytesOf_ok ((sumN (((b).take (b.length - 4)).drop 0))) _ (sumN_lt (fun x hx => hb x (List.mem_of_mem_take (List.mem_of_mem_drop hx))))).mono fun r_3 w_5 h_3 => ?_))
        obtain ⟨rfl, hp_3⟩ := h_3
        have hs_10 := hs_3.adds hp_3
        have hS_3 : Sat w [] _ := hs_10.sub (.slnil)
        refine ⟨hS_3, ?_⟩
        refine .e rfl (fun w' hS' => .neqArr4 arr4_104 (rfl) (by simp; omega) rfl rfl) hS_3 <| .fin <| .condD rfl (fun hc_3 => ?_) (fun hc_3 => ?_)
        · refine .seq <| .region <| .s rfl rfl <| .s rfl rfl <| .nil <| .ret ?_
          show PostK _ _ _ _ _ _
          refine post2 rfl rfl rfl ?_
          have hs_11 : Sat w [] w_5 := hs_10.sub (.slnil)
          exact .inl ⟨_, by decide, rfl, hs_11⟩
        · refine .skip <| .seq <| .region <| .f rfl (.lit0 (encN .u8) sl43 hs_10 fun v_3 w_6 hs_12 hch_3 => ?_)
          refine .m rfl rfl <| .m rfl rfl <| .e rfl (.sliceL (E := encN .u8) (a := 0) (c := (b.length - 4)) sl43 rfl (hv.ext hs_12.ext) rfl ⟨_, rfl⟩ (Nat.zero_le _) (by omega)) <| .f rfl (.appendL 0 sl43 hs_12 rfl rfl rfl Tryz.underlying43 (((hv.ext hs_12.ext)).sub (a := 0) (b := (b.length - 4)) (Nat.zero_le _) (by omega)) (by simp; omega) (by simp; omega) fun v_4 w_7 hs_13 hch_4 => ?_)
          refine .s rfl rfl <| .s rfl rfl <| .nil <| .ret ?_
          show PostK _ _ _ _ _ _
          refine post2 rfl rfl rfl ?_
          have hs_14 : Sat w [_] w_7 := hs_13.sub ((.cons_cons _ .slnil))
          have hs_15 : Sat w [cL v_4 5 (encN .u8) (b.take (b.length - 4))] w_7 := by
            have hq : ((b).take (b.length - 4)).drop 0 = b.take (b.length - 4) := by simp
            rw [← hq]; exact hs_14
          have hq : b = sealN (b.take (b.length - 4)) := by
            have h9 := Decidable.not_not.1 hc_3
            rw [List.drop_zero, List.take_length] at h9
            unfold sealN
            rw [h9, List.take_append_drop]
          exact .inr ⟨_, _, hq, rfl, hs_15⟩
    · refine .e rfl (fun w' hS' => .ldArr (E := encN .u8) agg104 rfl (((hv.ext hS'.ext)).sub (a := (b.length - 4)) (b := (b).length) (by omega) (Nat.le_refl _)) (by show _ * 1 = _; simp; omega) (by decide)) hs_2 <| .f rfl (.call ent56 rfl ((sum_ok _ (((b).take (b.length - 4)).drop 0) _ (((hv.ext hs_2.ext)).sub (a := 0) (b := (b.length - 4)) (Nat.zero_le _) (by omega)) (fun x hx => hb x (List.mem_of_mem_take (List.mem_of_mem_drop hx))) (by simp; omega)).mono fun r_4 w_8 h_4 => ?_))
      obtain ⟨rfl, hp_4⟩ := h_4
      have hs_16 := hs_2.adds hp_4
      have hS_4 : Sat w [] _ := hs_16.sub (.slnil)
      refine ⟨hS_4, ?_⟩
      refine .f rfl (.call ent55 rfl ((bytesOf_ok ((sumN (((b).take (b.length - 4)).drop 0))) _ (sumN_lt (fun x hx => hb x (List.mem_of_mem_take (List.mem_of_mem_drop hx))))).mono fun r_5 w_9 h_5 => ?_))
      obtain ⟨rfl, hp_5⟩ := h_5
      have hs_17 := hs_16.adds hp_5
      have hS_5 : Sat w [] _ := hs_17.sub (.slnil)
      refine ⟨hS_5, ?_⟩
      refine .e rfl (fun w' hS' => .neqArr4 arr4_104 (rfl) (by simp; omega) rfl rfl) hS_5 <| .fin <| .condD rfl (fun hc_4 => ?_) (fun hc_4 => ?_)
      · refine .seq <| .region <| .s rfl rfl <| .s rfl rfl <| .nil <| .ret ?_
        show PostK _ _ _ _ _ _
        refine post2 rfl rfl rfl ?_
        have hs_18 : Sat w [] w_9 := hs_17.sub (.slnil)
        exact .inl ⟨_, by decide, rfl, hs_18⟩
      · refine .skip <| .seq <| .region <| .f rfl (.lit0 (encN .u8) sl43 hs_17 fun v_5 w_10 hs_19 hch_5 => ?_)
        refine .m rfl rfl <| .m rfl rfl <| .e rfl (.sliceL (E := encN .u8) (a := 0) (c := (b.length - 4)) sl43 rfl (hv.ext hs_19.ext) rfl ⟨_, rfl⟩ (Nat.zero_le _) (by omega)) <| .f rfl (.appendL 0 sl43 hs_19 rfl rfl rfl Tryz.underlying43 (((hv.ext hs_19.ext)).sub (a := 0) (b := (b.length - 4)) (Nat.zero_le _) (by omega)) (by simp; omega) (by simp; omega) fun v_6 w_11 hs_20 hch_6 => ?_)
        refine .s rfl rfl <| .s rfl rfl <| .nil <| .ret ?_
        show PostK _ _ _ _ _ _
        refine post2 rfl rfl rfl ?_
        have hs_21 : Sat w [_] w_11 := hs_20.sub ((.cons_cons _ .slnil))
        have hs_22 : Sat w [cL v_6 5 (encN .u8) (b.take (b.length - 4))] w_11 := by
          have hq : ((b).take (b.length - 4)).drop 0 = b.take (b.length - 4) := by simp
          rw [← hq]; exact hs_21
        have hq : b = sealN (b.take (b.length - 4)) := by
          have h9 := Decidable.not_not.1 hc_4
          rw [List.drop_zero, List.take_length] at h9
          unfold sealN
          rw [h9, List.take_append_drop]
        exact .inr ⟨_, _, hq, rfl, hs_22⟩
theorem unseal_ok (v : Value) (b : List Nat) (w : World) (hv : RdL w v (encN .u8) b) (hb : ∀ x ∈ b, x < 256) (hn : b.length ≤ 1000000000) (h4 : 4 ≤ b.length) (hsum : byts (sumN (b.take (b.length - 4))) = b.drop (b.length - 4)) :
    CallsV Tryz.prog 29 [v] w fun r w' => ∃ v', r = .tuple #[v', .int .i64 ((0 : Nat) : Int)] ∧ Sat w [cL v' 5 (encN .u8) (b.take (b.length - 4))] w' := by
  have hs0 := Sat.start w
  refine callsV_of Tryz.func29 rfl rfl ?_
  refine .seq <| .region <| .s rfl rfl <| .s rfl rfl <| .nil <| .seq <| .seq <| .region <| .m rfl rfl <| .e rfl (.lenL Tryz.underlying43 rfl (hv.ext hs0.ext)) <| .e rfl (.lssN (b := 4) rfl rfl) <| .nil <| .condF rfl (decide_eq_false (by omega)) <| .skip <| .seq <| .region <| .m rfl rfl <| .e rfl (.lenL Tryz.underlying43 rfl (hv.ext hs0.ext)) <| .e rfl (.subI (b := 4) rfl rfl (by omega) (by omega)) <| .s rfl rfl <| .nil <| .seq <| .seq <| .draw (fun w' => Sat w [] w') (.free 0 (.free 1 (.free 2 (.free 5 (.free 6 (.free 7 (.two 3 8 (.two 4 8 (.one 8 (.free 9 (.free 10 .fin))) (.free 9 (.one 4 (.free 10 .fin)))) (.free 9 (.one 3 (.one 4 (.free 10 .fin))))))))))) mixed (by kernel_rfl) ?_
  have hs_1 := hs0.drew
  refine .m rfl rfl hs_1 <| .m rfl rfl hs_1 <| .e rfl (fun w' hS' => .sliceL (E := encN .u8) (a := 0) (c := (b.length - 4)) sl43 rfl (hv.ext hS'.ext) rfl ⟨_, rfl⟩ (Nat.zero_le _) (by omega)) hs_1 <| .m rfl rfl hs_1 <| .m rfl rfl hs_1 <| .e rfl (fun w' hS' => .sliceL (E := encN .u8) (a := (b.length - 4)) (c := (b).length) sl43 rfl (hv.ext hS'.ext) ⟨_, rfl⟩ rfl (by omega) (Nat.le_refl _)) hs_1 <| .two rfl rfl rfl rfl rfl rfl (OpE.call ent56 rfl ((sum_ok _ (((b).take (b.length - 4)).drop 0) _ (((hv.ext hs_1.ext)).sub (a := 0) (b := (b.length - 4)) (Nat.zero_le _) (by omega)) (fun x hx => hb x (List.mem_of_mem_take (List.mem_of_mem_drop hx))) (by simp; omega)).mono fun r_1 w_1 h_1 => ?_)) (OpE.ev (Ev.toArr (E := encN .u8) Tryz.underlying104 rfl (((hv.ext hs_1.ext)).sub (a := (b.length - 4)) (b := (b).length) (by omega) (Nat.le_refl _)) (by simp; omega)) ⟨hs_1, ?_⟩)
  · obtain ⟨rfl, hp_1⟩ := h_1
    have hs_2 := hs_1.adds hp_1
    have hS_1 : Sat w [] _ := hs_2.sub (.slnil)
    refine ⟨hS_1, ?_⟩
    refine .two rfl rfl rfl rfl rfl rfl (OpE.call ent55 rfl ((bytesOf_ok ((sumN (((b).take (b.length - 4)).drop 0))) _ (sumN_lt (fun x hx => hb x (List.mem_of_mem_take (List.mem_of_mem_drop hx))))).mono fun r_2 w_2 h_2 => ?_)) (OpE.ev (Ev.toArr (E := encN .u8) Tryz.underlying104 rfl (((hv.ext hs_2.ext)).sub (a := (b.length - 4)) (b := (b).length) (by omega) (Nat.le_refl _)) (by simp; omega)) ⟨hS_1, ?_⟩)
    · obtain ⟨rfl, hp_2⟩ := h_2
      have hs_3 := hs_2.adds hp_2
      have hS_2 : Sat w [] _ := hs_3.sub (.slnil)
      refine ⟨hS_2, ?_⟩
      refine .f rfl (.ev (Ev.toArr (E := encN .u8) Tryz.underlying104 rfl (((hv.ext hs_3.ext)).sub (a := (b.length - 4)) (b := (b).length) (by omega) (Nat.le_refl _)) (by simp; omega)) ⟨hS_2, ?_⟩)
      refine .e rfl (fun w' hS' => .ldArr (E := encN .u8) agg104 rfl (((hv.ext hS'.ext)).sub (a := (b.length - 4)) (b := (b).length) (by omega) (Nat.le_refl _)) (by show _ * 1 = _; simp; omega) (by decide)) hS_2 <| .e rfl (fun w' hS' => .neqArr4 arr4_104 (rfl) (by simp; omega) rfl rfl) hS_2 <| .fin <| .condF rfl (decide_eq_false (fun h => h (by rw [List.drop_zero, List.take_length]; exact hsum))) <| .skip <| .seq <| .region <| .f rfl (.lit0 (encN .u8) sl43 hs_3 fun v_1 w_3 hs_4 hch_1 => ?_)
      refine .m rfl rfl <| .m rfl rfl <| .e rfl (.sliceL (E := encN .u8) (a := 0) (c := (b.length - 4)) sl43 rfl (hv.ext hs_4.ext) rfl ⟨_, rfl⟩ (Nat.zero_le _) (by omega)) <| .f rfl (.appendL 0 sl43 hs_4 rfl rfl rfl Tryz.underlying43 (((hv.ext hs_4.ext)).sub (a := 0) (b := (b.length - 4)) (Nat.zero_le _) (by omega)) (by simp; omega) (by simp; omega) fun v_2 w_4 hs_5 hch_2 => ?_)
      refine .s rfl rfl <| .s rfl rfl <| .nil <| .ret ?_
      show PostK _ _ _ _ _ _
      refine post2 rfl rfl rfl ?_
      have hs_6 : Sat w [_] w_4 := hs_5.sub ((.cons_cons _ .slnil))
      have hs_7 : Sat w [cL v_2 5 (encN .u8) (b.take (b.length - 4))] w_4 := by
        have hq : ((b).take (b.length - 4)).drop 0 = b.take (b.length - 4) := by simp
        rw [← hq]; exact hs_6
      exact ⟨_, rfl, hs_7⟩
    · refine .e rfl (fun w' hS' => .ldArr (E := encN .u8) agg104 rfl (((hv.ext hS'.ext)).sub (a := (b.length - 4)) (b := (b).length) (by omega) (Nat.le_refl _)) (by show _ * 1 = _; simp; omega) (by decide)) hS_1 <| .f rfl (.call ent55 rfl ((bytesOf_ok ((sumN (((b).take (b.length - 4)).drop 0))) _ (sumN_lt (fun x hx => hb x (List.mem_of_mem_take (List.mem_of_mem_drop hx))))).mono fun r_3 w_5 h_3 => ?_))
      obtain ⟨rfl, hp_3⟩ := h_3
      have hs_8 := hs_2.adds hp_3
      have hS_3 : Sat w [] _ := hs_8.sub (.slnil)
      refine ⟨hS_3, ?_⟩
      refine .e rfl (fun w' hS' => .neqArr4 arr4_104 (rfl) (by simp; omega) rfl rfl) hS_3 <| .fin <| .condF rfl (decide_eq_false (fun h => h (by rw [List.drop_zero, List.take_length]; exact hsum))) <| .skip <| .seq <| .region <| .f rfl (.lit0 (encN .u8) sl43 hs_8 fun v_3 w_6 hs_9 hch_3 => ?_)
      refine .m rfl rfl <| .m rfl rfl <| .e rfl (.sliceL (E := encN .u8) (a := 0) (c := (b.length - 4)) sl43 rfl (hv.ext hs_9.ext) rfl ⟨_, rfl⟩ (Nat.zero_le _) (by omega)) <| .f rfl (.appendL 0 sl43 hs_9 rfl rfl rfl Tryz.underlying43 (((hv.ext hs_9.ext)).sub (a := 0) (b := (b.length - 4)) (Nat.zero_le _) (by omega)) (by simp; omega) (by simp; omega) fun v_4 w_7 hs_10 hch_4 => ?_)
      refine .s rfl rfl <| .s rfl rfl <| .nil <| .ret ?_
      show PostK _ _ _ _ _ _
      refine post2 rfl rfl rfl ?_
      have hs_11 : Sat w [_] w_7 := hs_10.sub ((.cons_cons _ .slnil))
      have hs_12 : Sat w [cL v_4 5 (encN .u8) (b.take (b.length - 4))] w_7 := by
        have hq : ((b).take (b.length - 4)).drop 0 = b.take (b.length - 4) := by simp
        rw [← hq]; exact hs_11
      exact ⟨_, rfl, hs_12⟩
  · refine .e rfl (fun w' hS' => .ldArr (E := encN .u8) agg104 rfl (((hv.ext hS'.ext)).sub (a := (b.length - 4)) (b := (b).length) (by omega) (Nat.le_refl _)) (by show _ * 1 = _; simp; omega) (by decide)) hs_1 <| .f rfl (.call ent56 rfl ((sum_ok _ (((b).take (b.length - 4)).drop 0) _ (((hv.ext hs_1.ext)).sub (a := 0) (b := (b.length - 4)) (Nat.zero_le _) (by omega)) (fun x hx => hb x (List.mem_of_mem_take (List.mem_of_mem_drop hx))) (by simp; omega)).mono fun r_4 w_8 h_4 => ?_))
    obtain ⟨rfl, hp_4⟩ := h_4
    have hs_13 := hs_1.adds hp_4
    have hS_4 : Sat w [] _ := hs_13.sub (.slnil)
    refine ⟨hS_4, ?_⟩
    refine .f rfl (.call ent55 rfl ((bytesOf_ok ((sumN (((b).take (b.length - 4)).drop 0))) _ (sumN_lt (fun x hx => hb x (List.mem_of_mem_take (List.mem_of_mem_drop hx))))).mono fun r_5 w_9 h_5 => ?_))
    obtain ⟨rfl, hp_5⟩ := h_5
    have hs_14 := hs_13.adds hp_5
    have hS_5 : Sat w [] _ := hs_14.sub (.slnil)
    refine ⟨hS_5, ?_⟩
    refine .e rfl (fun w' hS' => .neqArr4 arr4_104 (rfl) (by simp; omega) rfl rfl) hS_5 <| .fin <| .condF rfl (decide_eq_false (fun h => h (by rw [List.drop_zero, List.take_length]; exact hsum))) <| .skip <| .seq <| .region <| .f rfl (.lit0 (encN .u8) sl43 hs_14 fun v_5 w_10 hs_15 hch_5 => ?_)
    refine .m rfl rfl <| .m rfl rfl <| .e rfl (.sliceL (E := encN .u8) (a := 0) (c := (b.length - 4)) sl43 rfl (hv.ext hs_15.ext) rfl ⟨_, rfl⟩ (Nat.zero_le _) (by omega)) <| .f rfl (.appendL 0 sl43 hs_15 rfl rfl rfl Tryz.underlying43 (((hv.ext hs_15.ext)).sub (a := 0) (b := (b.length - 4)) (Nat.zero_le _) (by omega)) (by simp; omega) (by simp; omega) fun v_6 w_11 hs_16 hch_6 => ?_)
    refine .s rfl rfl <| .s rfl rfl <| .nil <| .ret ?_
    show PostK _ _ _ _ _ _
    refine post2 rfl rfl rfl ?_
    have hs_17 : Sat w [_] w_11 := hs_16.sub ((.cons_cons _ .slnil))
    have hs_18 : Sat w [cL v_6 5 (encN .u8) (b.take (b.length - 4))] w_11 := by
      have hq : ((b).take (b.length - 4)).drop 0 = b.take (b.length - 4) := by simp
      rw [← hq]; exact hs_17
    exact ⟨_, rfl, hs_18⟩
theorem unseal_p (v : Value) (b p : List Nat) (w : World) (hv : RdL w v (encN .u8) b) (he : b = sealN p) (hb : ∀ x ∈ p, x < 256) (hn : p.length ≤ 10000000) :
    CallsV Tryz.prog 29 [v] w fun r w' => ∃ v', r = .tuple #[v', .int .i64 ((0 : Nat) : Int)] ∧ Sat w [cL v' 5 (encN .u8) p] w' := by
  subst he
  have hl := sealN_length p
  have ht : (sealN p).take ((sealN p).length - 4) = p := by rw [hl, Nat.add_sub_cancel, sealN, List.take_left']; rfl
  have hd : (sealN p).drop ((sealN p).length - 4) = byts (sumN p) := by rw [hl, Nat.add_sub_cancel, sealN, List.drop_left']; rfl
  have h := unseal_ok v (sealN p) w hv (fun x hx => by
    rcases List.mem_append.1 hx with hx | hx
    · exact hb x hx
    · exact byts_lt _ x hx) (by omega) (by omega) (by rw [ht, hd])
  rw [ht] at h; exact h
theorem unseal_no {v : Value} {b : List Nat} {w : World} (hv : RdL w v (encN .u8) b) (hb : ∀ x ∈ b, x < 256) (hn : b.length ≤ 1000000000) (h : ¬ ∃ p, b = sealN p) : CallsV Tryz.prog 29 [v] w fun r w' => ∃ e : Int, e ≠ 0 ∧ r = .tuple #[.slice none 0 0, .int .i64 e] ∧ Sat w [] w' :=
  (unseal_any v b w hv hb hn).mono fun r w' hq => by rcases hq with h1 | ⟨_, p, hp, _⟩; exact h1; exact absurd ⟨p, hp⟩ h
end Go.Proofs.YtecfgjdpghddgaaGreatDoor
