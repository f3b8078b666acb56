/- The walks of the functions of F02s, printed by our own program (kwgen.py) out of our descriptions (base.py). -/
import Derived.Test.YtecfgjdpghddgaaGreatM14d
import Derived.Test.YtecfgjdpghddgaaGreatF16
import Derived.Test.YtecfgjdpghddgaaGreatKu
import Derived.Test.YtecfgjdpghddgaaGreatTab
set_option linter.unusedVariables false
set_option linter.unusedSimpArgs false
set_option linter.unusedSectionVars false
namespace Go.Proofs.YtecfgjdpghddgaaGreat
open Go.RowKit Go.Kw
set_option maxRecDepth 100000
theorem ruv_ok (v : Nat) (w : World) (hv : v < 2 ^ 64) :
    CallsV Tryz.prog 83 [(.int .u64 v)] w fun r w' => Sat w [cL r 5 (encN .u8) (uv v)] w' := by
  have hs0 := Sat.start w
  refine callsV_of Tryz.func83 rfl rfl ?_
  refine .seq <| .region <| .s rfl rfl <| .nil <| .seq <| .region <| .s rfl rfl <| .nil <| .seq <| .block ?_
  have hs_1 := hs0.newNilL 5 (encN .u8)
  refine .loop (α := Nat × Value × List Nat) (fun (v2, out, acc) => [(0, (.int .u64 v2)), (3, out)]) (fun (v2, out, acc) w' => Sat w [cL out 5 (encN .u8) (acc)] w' ∧ (v2 < 2 ^ 64) ∧ (acc ++ uv v2 = uv v)) (fun (v2, out, acc) => v2) (v, (.slice none 0 0), []) ⟨rfl, rfl, trivial⟩ ⟨hs_1, hv, rfl⟩ ?_
  rintro ⟨v2, out, acc⟩ w_1 ⟨hs_2, hv2, hacc⟩
  show CW _ _ _ _ [(0, (.int .u64 v2)), (3, out)] _
  have hl2 := congrArg List.length hacc
  simp only [List.length_append] at hl2
  have hu1 := uv_le v
  have hu2 := uv_pos v2
  refine .seq <| .seq <| .region <| .m rfl rfl <| .e rfl (.geqN (b := 128) rfl rfl) <| .nil <| .condD rfl (fun hc_1 => ?_) (fun hc_1 => ?_)
  · refine .skip <| .block <| .seq <| .region <| .m rfl rfl <| .m rfl rfl <| .e rfl (.rem (b := 128) rfl rfl (by omega)) <| .e rfl (.convN (by rw [Tryz.underlying56]; rfl) Tryz.underlying5 rfl rfl) <| .e rfl (.addN (b := 128) rfl rfl rfl) <| .f rfl (.lit1 (encN .u8) ((((v2 % 128) % 2 ^ 8) + 128) % 2 ^ 8) sl22 rfl hs_2 rfl fun v_1 w_2 hs_3 hch_1 => ?_)
    refine .f rfl (.appendL 0 sl22 hs_3 rfl rfl rfl Tryz.underlying22 (hs_3.rdL 1 rfl) (by simp; omega) (by simp; omega) fun v_2 w_3 hs_4 hch_2 => ?_)
    have hs_4d : Sat w [cL v_2 5 (encN .u8) (acc ++ [((((v2 % 128) % 2 ^ 8) + 128) % 2 ^ 8)])] _ := hs_4.drop 1
    refine .s rfl rfl <| .nil <| .region <| .m rfl rfl <| .e rfl (.quoN (b := 128) rfl rfl rfl (by omega) (by (try simp only [IntKind.bits]); omega)) <| .s rfl rfl <| .nil ?_
    exact ⟨((v2 / 128), v_2, acc ++ [((((v2 % 128) % 2 ^ 8) + 128) % 2 ^ 8)]), ⟨rfl, rfl, trivial⟩, ⟨hs_4d, by omega, by rw [← hacc, uv_stepR hv2 hc_1, show ((((v2 % 128) % 2 ^ 8) + 128) % 2 ^ 8) = v2 % 128 + 128 by omega]; simp⟩, (show (((v2 / 128))) < (v2) from by omega)⟩
  · refine .exit0 <| .seq <| .region <| .m rfl rfl <| .m rfl rfl <| .e rfl (.convN (by rw [Tryz.underlying56]; rfl) Tryz.underlying5 rfl rfl) <| .f rfl (.lit1 (encN .u8) (v2 % 2 ^ 8) sl22 rfl hs_2 rfl fun v_3 w_4 hs_5 hch_3 => ?_)
    refine .f rfl (.appendL 0 sl22 hs_5 rfl rfl rfl Tryz.underlying22 (hs_5.rdL 1 rfl) (by simp; omega) (by simp; omega) fun v_4 w_5 hs_6 hch_4 => ?_)
    have hs_6d : Sat w [cL v_4 5 (encN .u8) (acc ++ [(v2 % 2 ^ 8)])] _ := hs_6.drop 1
    refine .s rfl rfl <| .nil <| .ret ?_
    show PostK _ _ _ _ _ _
    refine post1 rfl rfl ?_
    have hq : acc ++ [(v2 % 2 ^ 8)] = uv v := by rw [← hacc, uv_smallR (by omega)] <;> (first | rfl | (congr 1; simp; omega))
    rw [← hq]; exact hs_6d
theorem rlow_ok (x m : Nat) (w : World) (hx : x < 2 ^ 64) (hm : m ≤ 64) :
    CallsV Tryz.prog 116 [(.int .u64 x), (.int .i64 m)] w fun r w' => Sat w [cL r 4 encB (lowB x m)] w' := by
  have hs0 := Sat.start w
  refine callsV_of Tryz.func116 rfl rfl ?_
  refine .seq <| .region <| .s rfl rfl <| .nil <| .seq <| .region <| .s rfl rfl <| .nil <| .seq <| .seq <| .region <| .m rfl rfl <| .e rfl (.sub (b := (1 : Int)) rfl rfl (by unfold inI64; omega)) <| .s rfl rfl <| .nil <| .block ?_
  have hs_1 := hs0.newNilL 4 (encB)
  refine .loop (α := Nat × Value × List Bool) (fun (m1, out, acc) => [(0, (.int .u64 x)), (5, out), (6, (.int .i64 ((((m1 : Nat) : Int) - 1))))]) (fun (m1, out, acc) w' => Sat w [cL out 4 (encB) (acc)] w' ∧ (m1 ≤ m) ∧ (acc ++ lowB x m1 = lowB x m)) (fun (m1, out, acc) => m1) (m, (.slice none 0 0), []) ⟨rfl, rfl, rfl, trivial⟩ ⟨hs_1, Nat.le_refl _, rfl⟩ ?_
  rintro ⟨m1, out, acc⟩ w_1 ⟨hs_2, hm1, hacc⟩
  show CW _ _ _ _ [(0, (.int .u64 x)), (5, out), (6, (.int .i64 ((((m1 : Nat) : Int) - 1))))] _
  refine .seq <| .seq <| .region <| .m rfl rfl <| .e rfl (.geq rfl rfl) <| .nil <| .condD rfl (fun hc_1 => ?_) (fun hc_1 => ?_)
  · refine .skip <| .seq <| .block ?_
    obtain ⟨j, rfl⟩ : ∃ j, m1 = j + 1 := ⟨m1 - 1, by omega⟩
    refine .weaken [(0, _), (5, _), (6, (.int .i64 j)), (9, _), (10, _)] ⟨rfl, rfl, congrArg some (congrArg (Value.int .i64) (by omega)), rfl, rfl, trivial⟩ ?_
    have hl2 := congrArg List.length hacc
    simp only [List.length_append, lowB_length] at hl2
    refine .region <| .m rfl rfl <| .m rfl rfl <| .m rfl rfl <| .e rfl (.convK (by rw [Tryz.underlying3]; rfl) Tryz.underlying88 rfl (wrap_u rfl (by (try simp only [IntKind.bits]); omega))) <| .e rfl (.shrN rfl rfl (hx)) <| .e rfl (.maskN (b := 1) 1 rfl rfl rfl (by decide) (Nat.lt_of_le_of_lt (Nat.div_le_self _ _) hx) (by decide)) <| .e rfl (.eqlN (b := 1) rfl rfl) <| .f rfl (.lit1 (encB) (decide (((x / 2 ^ j) % 2 ^ 1) = 1)) sl90 rfl hs_2 rfl fun v_1 w_2 hs_3 hch_1 => ?_)
    refine .f rfl (.appendL 0 sl90 hs_3 rfl rfl rfl Tryz.underlying90 (hs_3.rdL 1 rfl) (by simp; omega) (by simp; omega) fun v_2 w_3 hs_4 hch_2 => ?_)
    have hs_4d : Sat w [cL v_2 4 (encB) (acc ++ [decide (((x / 2 ^ j) % 2 ^ 1) = 1)])] _ := hs_4.drop 1
    refine .s rfl rfl <| .nil <| .region <| .m rfl rfl <| .e rfl (.sub (b := (1 : Int)) rfl rfl (by unfold inI64; omega)) <| .s rfl rfl <| .nil ?_
    exact ⟨(j, v_2, acc ++ [decide (((x / 2 ^ j) % 2 ^ 1) = 1)]), ⟨rfl, rfl, rfl, trivial⟩, ⟨hs_4d, by omega, by rw [← hacc]; simp [lowB]⟩, (show ((j)) < (j + 1) from by omega)⟩
  · refine .exit0 <| .seq <| .region <| .m rfl rfl <| .s rfl rfl <| .nil <| .ret ?_
    show PostK _ _ _ _ _ _
    refine post1 rfl rfl ?_
    have h0 : m1 = 0 := by omega
    subst h0
    rw [show acc = lowB x m by rw [← hacc]; simp [lowB]] at hs_2
    exact hs_2
theorem rpack_ok (v : Value) (l : List Bool) (w : World) (hv : RdL w v encB l) (hn : l.length ≤ 1000000000) :
    CallsV Tryz.prog 117 [v] w fun r w' => Sat w [cL r 5 (encN .u8) (packB l)] w' := by
  have hs0 := Sat.start w
  refine callsV_of Tryz.func117 rfl rfl ?_
  refine .seq <| .region <| .s rfl rfl <| .nil <| .seq <| .region <| .m rfl rfl <| .e rfl (.lenL Tryz.underlying90 rfl (hv.ext hs0.ext)) <| .e rfl (.addI (b := 7) rfl rfl (by omega)) <| .e rfl (.quo (b := 8) rfl rfl (by omega) (by unfold inI64; omega)) <| .f rfl (.makeL (encN .u8) (0) sl22 rfl hs0 rfl rfl (by omega) (by omega) (by omega) fun v_1 w_1 hs_1 hch_1 => ?_)
  refine .s rfl rfl <| .nil <| .seq <| .seq <| .region <| .m rfl rfl <| .e rfl (.lenL Tryz.underlying90 rfl (hv.ext hs_1.ext)) <| .m rfl rfl <| .nil <| .block ?_
  have hs_2 : Sat w [cL v_1 5 (encN .u8) (pkT l 0)] w_1 := by
    have hq : List.replicate (((l.length + 7) / 8)) 0 = pkT l 0 := by rw [pkT_zero]
    rw [← hq]; exact hs_1
  refine .loop (α := Nat) (fun k => [(3, v_1), (11, v), (12, (.int .i64 l.length)), (13, (.int .i64 k))]) (fun k w' => Sat w [cL v_1 5 (encN .u8) (pkT l k)] w' ∧ (k ≤ l.length)) (fun k => l.length - k) 0 ⟨rfl, rfl, rfl, rfl, trivial⟩ ⟨hs_2, Nat.zero_le _⟩ ?_
  rintro k w_2 ⟨hs_3, hk⟩
  show CW _ _ _ _ [(3, v_1), (11, v), (12, (.int .i64 l.length)), (13, (.int .i64 k))] _
  refine .seq <| .region <| .e rfl (.lssN rfl rfl) <| .nil <| .seq <| .condD rfl (fun hc_1 => ?_) (fun hc_1 => ?_)
  · refine .skip <| .seq <| .block <| .seq ?_
    obtain ⟨x, hx⟩ : ∃ x, (l)[k]? = some x := ⟨_, List.getElem?_eq_getElem hc_1⟩
    refine .region <| .m rfl rfl <| .e rfl (.idxL (E := encB) sl90 rfl rfl (hv.ext hs_3.ext) (by omega)) <| .e rfl (.ldL (E := encB) scal4 rfl (hv.ext hs_3.ext) hx (by decide) rfl) <| .s rfl rfl <| .s rfl rfl <| .nil <| .seq <| .region <| .m rfl rfl <| .nil <| .cond rfl (fun hc_2 => ?_) (fun hc_2 => ?_)
    · have hgt := pkT_get (lt_of_get hx)
      have hbl := byteAt_lt (l.take k) (k / 8)
      have hdl := Nat.div_le_self 128 (2 ^ (k % 8))
      refine .region <| .m rfl rfl <| .m rfl rfl <| .e rfl (.quo (b := 8) rfl rfl (by omega) (by unfold inI64; omega)) <| .e rfl (.idxL (E := encN .u8) sl22 rfl rfl (hs_3.rdL 0 rfl) (by rw [pkT_length]; omega)) <| .e rfl (.ldL (E := encN .u8) scal5 rfl (hs_3.rdL 0 rfl) hgt (by decide) rfl) <| .m rfl rfl <| .e rfl (.rem (b := 8) rfl rfl (by omega)) <| .e rfl (.convK (by rw [Tryz.underlying3]; rfl) Tryz.underlying88 rfl (wrap_u rfl (by (try simp only [IntKind.bits]); omega))) <| .e rfl (.shrN (a := 128) rfl rfl (by (try simp only [IntKind.bits]); omega)) <| .e rfl (.orN rfl rfl rfl (by (try simp only [IntKind.bits]); omega) (by (try simp only [IntKind.bits]); omega)) <| .e rfl (.idxL (E := encN .u8) sl22 rfl rfl (hs_3.rdL 0 rfl) (by rw [pkT_length]; omega)) <| .f rfl (.setL (a := ((byteAt (l.take k) (k / 8)) ||| (128 / 2 ^ (k % 8)))) 0 one5 hs_3 rfl rfl rfl rfl (by rw [pkT_length]; omega) fun w_3 hs_4 hch_2 => ?_)
      refine .nil <| .region <| .e rfl (.addI (b := 1) rfl rfl (by omega)) <| .m rfl rfl <| .nil ?_
      have hs_5 : Sat w [cL v_1 5 (encN .u8) (pkT l (k + 1))] w_3 := by
        have hq : (pkT l k).set (k / 8) ((byteAt (l.take k) (k / 8)) ||| (128 / 2 ^ (k % 8))) = pkT l (k + 1) := by rw [pkT_true (by rw [hx, hc_2])]
        rw [← hq]; exact hs_4
      exact ⟨k + 1, ⟨rfl, rfl, rfl, rfl, trivial⟩, ⟨hs_5, by omega⟩, (show (l.length - (k + 1)) < (l.length - k) from by omega)⟩
    · refine .skip <| .region <| .e rfl (.addI (b := 1) rfl rfl (by omega)) <| .m rfl rfl <| .nil ?_
      have hs_6 : Sat w [cL v_1 5 (encN .u8) (pkT l (k + 1))] w_2 := by
        have hq : pkT l k = pkT l (k + 1) := by rw [pkT_false (by rw [hx]; simpa using hc_2)]
        rw [← hq]; exact hs_3
      exact ⟨k + 1, ⟨rfl, rfl, rfl, rfl, trivial⟩, ⟨hs_6, by omega⟩, (show (l.length - (k + 1)) < (l.length - k) from by omega)⟩
  · refine .exit0 <| .seq <| .region <| .m rfl rfl <| .s rfl rfl <| .nil <| .ret ?_
    show PostK _ _ _ _ _ _
    refine post1 rfl rfl ?_
    have hs_7 : Sat w [cL v_1 5 (encN .u8) (packB l)] w_2 := by
      have hq : pkT l k = packB l := by rw [show k = l.length by omega, pkT_all]
      rw [← hq]; exact hs_3
    exact hs_7
theorem rstep_ok (v : Nat) (w : World) (hv : v < 4294967296) :
    CallsV Tryz.prog 115 [(.int .u32 v)] w fun r w' => r = .int .u32 (stepN v 8 : Nat) ∧ Sat w [] w' := by
  have hs0 := Sat.start w
  refine callsV_of Tryz.func115 rfl rfl ?_
  refine .seq <| .region <| .s rfl rfl <| .nil <| .seq <| .seq <| .region <| .s rfl rfl <| .nil <| .block <| .loop (α := Nat × Nat) (fun (k, u) => [(0, (.int .u32 u)), (3, (.int .i64 k))]) (fun (k, u) w' => Sat w [] w' ∧ (k ≤ 8) ∧ (u = stepN v k) ∧ (u < 4294967296)) (fun (k, u) => 8 - k) (0, v) ⟨rfl, rfl, trivial⟩ ⟨hs0, Nat.zero_le _, rfl, hv⟩ ?_
  rintro ⟨k, u⟩ w_1 ⟨hs_1, hk, hu, hub⟩
  show CW _ _ _ _ [(0, (.int .u32 u)), (3, (.int .i64 k))] _
  refine .seq <| .seq <| .region <| .m rfl rfl <| .e rfl (.lssN (b := 8) rfl rfl) <| .nil <| .condD rfl (fun hc_1 => ?_) (fun hc_1 => ?_)
  · refine .skip <| .seq <| .block <| .seq <| .region <| .m rfl rfl <| .e rfl (.maskN (b := 1) 1 rfl rfl rfl (by decide) (by (try simp only [IntKind.bits]); omega) (by decide)) <| .e rfl (.eqlN (b := 1) rfl rfl) <| .nil <| .condD rfl (fun hc_2 => ?_) (fun hc_2 => ?_)
    · refine .region <| .m rfl rfl <| .e rfl (.shrN (b := 1) rfl rfl (by (try simp only [IntKind.bits]); omega)) <| .e rfl (.xorN (b := 2197175160) rfl rfl rfl (by (try simp only [IntKind.bits]); omega) (by (try simp only [IntKind.bits]); omega)) <| .s rfl rfl <| .nil <| .region <| .m rfl rfl <| .e rfl (.addI (b := 1) rfl rfl (by omega)) <| .s rfl rfl <| .nil ?_
      exact ⟨(k + 1, ((u / 2 ^ 1) ^^^ 2197175160)), ⟨rfl, rfl, trivial⟩, ⟨hs_1, by omega, by rw [stepN, ← hu]; simp [st1, hc_2], by have := st1_lt hub; simpa [st1, hc_2] using this⟩, (show (8 - (k + 1)) < (8 - k) from by omega)⟩
    · refine .region <| .m rfl rfl <| .e rfl (.shrN (b := 1) rfl rfl (by (try simp only [IntKind.bits]); omega)) <| .s rfl rfl <| .nil <| .region <| .m rfl rfl <| .e rfl (.addI (b := 1) rfl rfl (by omega)) <| .s rfl rfl <| .nil ?_
      exact ⟨(k + 1, (u / 2 ^ 1)), ⟨rfl, rfl, trivial⟩, ⟨hs_1, by omega, by rw [stepN, ← hu]; simp [st1, hc_2], by have := st1_lt hub; simpa [st1, hc_2] using this⟩, (show (8 - (k + 1)) < (8 - k) from by omega)⟩
  · refine .exit0 <| .seq <| .region <| .m rfl rfl <| .s rfl rfl <| .nil <| .ret ?_
    show PostK _ _ _ _ _ _
    refine post1 rfl rfl ?_
    rw [show k = 8 by omega] at hu
    exact ⟨by rw [hu], hs_1⟩
theorem rsum_ok (v : Value) (l : List Nat) (w : World) (hv : RdL w v (encN .u8) l) (hb : ∀ x ∈ l, x < 256) (hn : l.length ≤ 1000000000) :
    CallsV Tryz.prog 78 [v] w fun r w' => r = .int .u32 (sumN l : Nat) ∧ Sat w [] w' := by
  have hs0 := Sat.start w
  refine callsV_of Tryz.func78 rfl rfl ?_
  refine .seq <| .region <| .s rfl rfl <| .nil <| .seq <| .region <| .s rfl rfl <| .nil <| .seq <| .seq <| .region <| .m rfl rfl <| .e rfl (.lenL Tryz.underlying22 rfl (hv.ext hs0.ext)) <| .m rfl rfl <| .nil <| .block <| .loop (α := Nat × Nat) (fun (k, u) => [(3, (.int .u32 u)), (6, v), (7, (.int .i64 l.length)), (8, (.int .i64 k))]) (fun (k, u) w' => Sat w [] w' ∧ (k ≤ l.length) ∧ (u = crcF (l.take k)) ∧ (u < 4294967296)) (fun (k, u) => l.length - k) (0, 4294967295) ⟨rfl, rfl, rfl, rfl, trivial⟩ ⟨hs0, Nat.zero_le _, rfl, by omega⟩ ?_
  rintro ⟨k, u⟩ w_1 ⟨hs_1, hk, hu, hub⟩
  show CW _ _ _ _ [(3, (.int .u32 u)), (6, v), (7, (.int .i64 l.length)), (8, (.int .i64 k))] _
  refine .seq <| .region <| .e rfl (.lssN rfl rfl) <| .nil <| .seq <| .condD rfl (fun hc_1 => ?_) (fun hc_1 => ?_)
  · refine .skip <| .seq <| .block <| .seq ?_
    obtain ⟨x, hx⟩ : ∃ x, (l)[k]? = some x := ⟨_, List.getElem?_eq_getElem hc_1⟩
    refine .region <| .e rfl (.idxL (E := encN .u8) sl22 rfl rfl (hv.ext hs_1.ext) (by omega)) <| .e rfl (.ldL (E := encN .u8) scal5 rfl (hv.ext hs_1.ext) hx (by decide) rfl) <| .s rfl rfl <| .nil ?_
    have hxb := hb x (mem_of_get hx)
    have haa : u ^^^ x < 4294967296 := xor_lt32 hub (by omega)
    refine .region <| .m rfl rfl <| .m rfl rfl <| .e rfl (.convK (by rw [Tryz.underlying5]; rfl) Tryz.underlying83 rfl (wrap_u rfl (by (try simp only [IntKind.bits]); omega))) <| .e rfl (.xorN rfl rfl rfl (by (try simp only [IntKind.bits]); omega) (by (try simp only [IntKind.bits]); omega)) <| .f rfl (.call ent115 rfl ((rstep_ok ((u ^^^ x)) _ (haa)).mono fun r_1 w_2 h_1 => ?_))
    obtain ⟨rfl, hp_1⟩ := h_1
    have hs_2 := hs_1.adds hp_1
    refine .s rfl rfl <| .nil <| .region <| .e rfl (.addI (b := 1) rfl rfl (by omega)) <| .m rfl rfl <| .nil ?_
    exact ⟨(k + 1, (stepN ((u ^^^ x)) 8)), ⟨rfl, rfl, rfl, rfl, trivial⟩, ⟨hs_2, by omega, by rw [take_succ_of hx, crcF_snoc, ← hu, stepN_eight], stepN_lt haa 8⟩, (show (l.length - (k + 1)) < (l.length - k) from by omega)⟩
  · refine .exit0 <| .seq <| .region <| .m rfl rfl <| .e rfl (.not32 rfl (by omega)) <| .s rfl rfl <| .nil <| .ret ?_
    show PostK _ _ _ _ _ _
    refine post1 rfl rfl ?_
    have hs_3 : Sat w [] w_1 := hs_1.sub (.slnil)
    rw [show k = l.length by omega, List.take_length] at hu
    exact ⟨by rw [hu]; rfl, hs_3⟩
theorem rseal_ok (v : Value) (l : List Nat) (w : World) (hv : RdL w v (encN .u8) l) (hb : ∀ x ∈ l, x < 256) (hn : l.length ≤ 1000000000) :
    CallsV Tryz.prog 48 [v] w fun r w' => Sat w [cL r 5 (encN .u8) (sealN l)] w' := by
  have hs0 := Sat.start w
  refine callsV_of Tryz.func48 rfl rfl ?_
  refine .seq <| .region <| .s rfl rfl <| .nil <| .seq <| .region <| .m rfl rfl <| .f rfl (.call ent78 rfl ((rsum_ok _ (l) _ (hv.ext hs0.ext) (hb) (hn)).mono fun r_1 w_1 h_1 => ?_))
  obtain ⟨rfl, hp_1⟩ := h_1
  have hs_1 := hs0.adds hp_1
  refine .s rfl rfl <| .nil <| .seq ?_
  have hsl := sumN_lt hb
  refine .region <| .m rfl rfl ?_
  have hs_2 := hs_1.newNilL 5 (encN .u8)
  refine .f rfl (.appendL 0 sl22 hs_2 rfl rfl rfl Tryz.underlying22 (hv.ext hs_2.ext) (by simp; omega) (by simp; omega) fun v_1 w_2 hs_3 hch_1 => ?_)
  have hs_3d : Sat w [cL v_1 5 (encN .u8) (l)] _ := hs_3
  refine .m rfl rfl <| .e rfl (.convN (by rw [Tryz.underlying83]; rfl) Tryz.underlying5 rfl rfl) <| .m rfl rfl <| .e rfl (.shrN (b := 8) rfl rfl (by (try simp only [IntKind.bits]); omega)) <| .e rfl (.convN (by rw [Tryz.underlying83]; rfl) Tryz.underlying5 rfl rfl) <| .m rfl rfl <| .e rfl (.shrN (b := 16) rfl rfl (by (try simp only [IntKind.bits]); omega)) <| .e rfl (.convN (by rw [Tryz.underlying83]; rfl) Tryz.underlying5 rfl rfl) <| .m rfl rfl <| .e rfl (.shrN (b := 24) rfl rfl (by (try simp only [IntKind.bits]); omega)) <| .e rfl (.convN (by rw [Tryz.underlying83]; rfl) Tryz.underlying5 rfl rfl) <| .f rfl (.litN (encN .u8) [((sumN (l)) % 2 ^ 8), (((sumN (l)) / 2 ^ 8) % 2 ^ 8), (((sumN (l)) / 2 ^ 16) % 2 ^ 8), (((sumN (l)) / 2 ^ 24) % 2 ^ 8)] sl22 rfl ⟨rfl, rfl, rfl, rfl, trivial⟩ rfl rfl rfl rfl (by decide) (by decide) hs_3d fun v_2 w_3 hs_4 hch_2 => ?_)
  refine .f rfl (.appendL 0 sl22 hs_4 rfl rfl rfl Tryz.underlying22 (hs_4.rdL 1 rfl) (by simp; omega) (by simp; omega) fun v_3 w_4 hs_5 hch_3 => ?_)
  have hs_5d : Sat w [cL v_3 5 (encN .u8) (l ++ [((sumN (l)) % 2 ^ 8), (((sumN (l)) / 2 ^ 8) % 2 ^ 8), (((sumN (l)) / 2 ^ 16) % 2 ^ 8), (((sumN (l)) / 2 ^ 24) % 2 ^ 8)])] _ := hs_5.drop 1
  refine .s rfl rfl <| .nil <| .ret ?_
  show PostK _ _ _ _ _ _
  refine post1 rfl rfl ?_
  have hs_6 : Sat w [_] w_4 := hs_5d.sub ((.cons_cons _ .slnil))
  have hs_7 : Sat w [cL v_3 5 (encN .u8) (sealN l)] w_4 := by
    have hq : l ++ [((sumN (l)) % 2 ^ 8), (((sumN (l)) / 2 ^ 8) % 2 ^ 8), (((sumN (l)) / 2 ^ 16) % 2 ^ 8), (((sumN (l)) / 2 ^ 24) % 2 ^ 8)] = sealN l := by simp [sealN, byts]
    rw [← hq]; exact hs_6
  exact hs_7
end Go.Proofs.YtecfgjdpghddgaaGreat
namespace Go.Proofs.YtecfgjdpghddgaaGreat
open Go.RowKit Go.Kw
set_option maxRecDepth 100000
theorem rbcheck_ok (v : Value) (l : List Nat) (w : World) (hv : RdL w v (encN .i64) l) (hn : l.length ≤ 128) (hb : ∀ x ∈ l, x ≤ 2147483647) :
    CallsV Tryz.prog 50 [v] w fun r w' => r = .int .i64 ((0 : Nat) : Int) ∧ Sat w [] w' := by
  have hs0 := Sat.start w
  refine callsV_of Tryz.func50 rfl rfl ?_
  refine .seq <| .region <| .s rfl rfl <| .nil <| .seq <| .seq <| .region <| .m rfl rfl <| .e rfl (.lenL Tryz.underlying27 rfl (hv.ext hs0.ext)) <| .e rfl (.gtrN (b := 128) rfl rfl) <| .nil <| .condF rfl (decide_eq_false (by omega)) <| .skip <| .seq <| .seq <| .region <| .m rfl rfl <| .e rfl (.lenL Tryz.underlying27 rfl (hv.ext hs0.ext)) <| .m rfl rfl <| .nil <| .block <| .loop (α := Nat) (fun k => [(8, v), (9, (.int .i64 l.length)), (10, (.int .i64 k))]) (fun k w' => Sat w [] w' ∧ (k ≤ l.length)) (fun k => l.length - k) 0 ⟨rfl, rfl, rfl, trivial⟩ ⟨hs0, Nat.zero_le _⟩ ?_
  rintro k w_1 ⟨hs_1, hk⟩
  show CW _ _ _ _ [(8, v), (9, (.int .i64 l.length)), (10, (.int .i64 k))] _
  refine .seq <| .region <| .e rfl (.lssN rfl rfl) <| .nil <| .seq <| .condD rfl (fun hc_1 => ?_) (fun hc_1 => ?_)
  · refine .skip <| .seq <| .block <| .seq ?_
    obtain ⟨x, hx⟩ : ∃ x, (l)[k]? = some x := ⟨_, List.getElem?_eq_getElem hc_1⟩
    refine .region <| .e rfl (.idxL (E := encN .i64) sl27 rfl rfl (hv.ext hs_1.ext) (by omega)) <| .e rfl (.ldL (E := encN .i64) scal3 rfl (hv.ext hs_1.ext) hx (by decide) rfl) <| .s rfl rfl <| .nil <| .seq <| .mid (fun L' w' => Weak [(4, (.int .i64 x)), (8, v), (9, (.int .i64 l.length)), (10, (.int .i64 k)), (11, (.bool (decide (k < l.length)))), (19, (.bool (decide ((x < 0) ∨ (2147483647 < x)))))] L' ∧ Sat w [] w') ?_ ?_
    · refine .region <| .m rfl rfl <| .e rfl (.lssN (b := 0) rfl rfl) <| .m rfl rfl ?_
      by_cases hg_1 : x < 0
      · refine .no rfl rfl rfl (decide_eq_true hg_1) rfl <| .no rfl rfl rfl (decide_eq_true hg_1) rfl <| .e rfl (.pickY rfl (decide_eq_true hg_1) rfl) <| .nil ?_
        exact ⟨⟨rfl, rfl, rfl, rfl, rfl, congrArg some (congrArg Value.bool (by simp [hg_1])), trivial⟩, hs_1⟩
      · refine .yes rfl rfl rfl (decide_eq_false hg_1) <| .m rfl rfl <| .yes rfl rfl rfl (decide_eq_false hg_1) <| .e rfl (.gtrN (b := 2147483647) rfl rfl) <| .e rfl (.pickN rfl (decide_eq_false hg_1) rfl) <| .nil ?_
        exact ⟨⟨rfl, rfl, rfl, rfl, rfl, congrArg some (congrArg Value.bool (by simp [hg_1])), trivial⟩, hs_1⟩
    · rintro L' w_2 ⟨hw_1, hs_2⟩
      refine .weaken _ hw_1 <| .condF rfl (decide_eq_false (by have := hb x (mem_of_get hx); omega)) <| .skip <| .region <| .e rfl (.addI (b := 1) rfl rfl (by omega)) <| .m rfl rfl <| .nil ?_
      exact ⟨k + 1, ⟨rfl, rfl, rfl, trivial⟩, ⟨hs_2, by omega⟩, (show (l.length - (k + 1)) < (l.length - k) from by omega)⟩
  · refine .exit0 <| .seq <| .region <| .s rfl rfl <| .nil <| .ret ?_
    show PostK _ _ _ _ _ _
    refine post1 rfl rfl ?_
    exact ⟨rfl, hs_1⟩
theorem rbytes_ok (v : Value) (l : List Nat) (width : Nat) (w : World) (hv : RdL w v (encN .i64) l) (hn : l.length ≤ 4096) (hb : ∀ x ∈ l, x < 2 ^ 63) (hw : width ≤ 31) :
    CallsV Tryz.prog 79 [v, (.int .i64 width)] w fun r w' => Sat w [cL r 5 (encN .u8) (encBk width l)] w' := by
  have hs0 := Sat.start w
  refine callsV_of Tryz.func79 rfl rfl ?_
  refine .seq <| .region <| .s rfl rfl <| .nil <| .seq <| .region <| .s rfl rfl <| .nil <| .seq <| .region <| .s rfl rfl <| .nil <| .seq <| .region <| .s rfl rfl <| .s rfl rfl <| .nil <| .seq <| .seq <| .region <| .m rfl rfl <| .e rfl (.lenL Tryz.underlying27 rfl (hv.ext hs0.ext)) <| .m rfl rfl <| .nil <| .block ?_
  have hs_1 := hs0.newNilL 4 (encB)
  have hs_2 := hs_1.newNilL 5 (encN .u8)
  refine .loop (α := Nat × Value × List Bool × Value × List Nat × Nat × Nat) (fun (k, wv, bits, ev, ex, c, b) => [(0, v), (1, (.int .i64 width)), (5, wv), (6, ev), (7, (.int .i64 c)), (8, (.int .i64 ((((b : Nat) : Int) - 1)))), (12, v), (13, (.int .i64 l.length)), (14, (.int .i64 k))]) (fun (k, wv, bits, ev, ex, c, b) w' => Sat w [cL wv 4 (encB) (bits), cL ev 5 (encN .u8) (ex)] w' ∧ (k ≤ l.length) ∧ (encSt width (l.take k) = (k, bits, ex, c, b)) ∧ (bits.length ≤ 31 * k) ∧ (ex.length ≤ 20 * k) ∧ (c ≤ k) ∧ (b ≤ k)) (fun (k, wv, bits, ev, ex, c, b) => l.length - k) (0, (.slice none 0 0), [], (.slice none 0 0), [], 0, 0) ⟨rfl, rfl, rfl, rfl, rfl, rfl, rfl, rfl, rfl, trivial⟩ ⟨hs_2, Nat.zero_le _, rfl, by simp, by simp, Nat.le_refl _, Nat.le_refl _⟩ ?_
  rintro ⟨k, wv, bits, ev, ex, c, b⟩ w_1 ⟨hs_3, hk, hst, hbl, hel, hcb, hbb⟩
  show CW _ _ _ _ [(0, v), (1, (.int .i64 width)), (5, wv), (6, ev), (7, (.int .i64 c)), (8, (.int .i64 ((((b : Nat) : Int) - 1)))), (12, v), (13, (.int .i64 l.length)), (14, (.int .i64 k))] _
  refine .seq <| .region <| .e rfl (.lssN rfl rfl) <| .nil <| .seq <| .condD rfl (fun hc_1 => ?_) (fun hc_1 => ?_)
  · refine .skip <| .seq <| .block <| .seq ?_
    obtain ⟨x, hx⟩ : ∃ x, (l)[k]? = some x := ⟨_, List.getElem?_eq_getElem hc_1⟩
    refine .region <| .m rfl rfl <| .e rfl (.idxL (E := encN .i64) sl27 rfl rfl (hv.ext hs_3.ext) (by omega)) <| .e rfl (.ldL (E := encN .i64) scal3 rfl (hv.ext hs_3.ext) hx (by decide) rfl) <| .s rfl rfl <| .s rfl rfl <| .nil <| .seq ?_
    have hx64 := hb x (mem_of_get hx)
    have hxd := Nat.div_le_self x (2 ^ width)
    have h8 := uv_le (k + 1 - b)
    have h9 := uv_le (x / 2 ^ width)
    refine .region <| .m rfl rfl <| .m rfl rfl <| .e rfl (.convK (by rw [Tryz.underlying3]; rfl) Tryz.underlying56 rfl (wrap_u rfl (by (try simp only [IntKind.bits]); omega))) <| .m rfl rfl <| .f rfl (.call ent116 rfl ((rlow_ok (x) (width) _ (by omega) (by omega)).mono fun r_1 w_2 h_1 => ?_))
    have hp_1 := h_1
    have hs_4 : Sat w [cL wv 4 (encB) (bits), cL ev 5 (encN .u8) (ex), cL r_1 4 (encB) (lowB x width)] _ := hs_3.adds hp_1
    refine .f rfl (.appendL 0 sl90 hs_4 rfl rfl rfl Tryz.underlying90 (hs_4.rdL 2 rfl) (by (try simp only [List.length_append, lowB_length]); omega) (by (try simp only [List.length_append, lowB_length]); omega) fun v_1 w_3 hs_5 hch_1 => ?_)
    refine .s rfl rfl <| .nil <| .seq <| .region <| .m rfl rfl <| .m rfl rfl <| .e rfl (.convK (by rw [Tryz.underlying3]; rfl) Tryz.underlying88 rfl (wrap_u rfl (by (try simp only [IntKind.bits]); omega))) <| .e rfl (.shrN rfl rfl (by (try simp only [IntKind.bits]); omega)) <| .e rfl (.neqN (b := 0) rfl rfl) <| .nil <| .condD rfl (fun hc_2 => ?_) (fun hc_2 => ?_)
    · refine .seq <| .region <| .m rfl rfl <| .e rfl (.addI (b := 1) rfl rfl (by omega)) <| .s rfl rfl <| .nil <| .seq <| .region <| .m rfl rfl <| .m rfl rfl <| .m rfl rfl <| .e rfl (.subPred rfl rfl (by omega) (by omega)) <| .e rfl (.convK (by rw [Tryz.underlying3]; rfl) Tryz.underlying56 rfl (wrap_u rfl (by (try simp only [IntKind.bits]); omega))) <| .f rfl (.call ent83 rfl ((ruv_ok ((k + 1 - b)) _ (by omega)).mono fun r_2 w_4 h_2 => ?_))
      have hp_2 := h_2
      have hs_6 := hs_5.adds hp_2
      refine .f rfl (.appendL 1 sl22 hs_6 rfl rfl rfl Tryz.underlying22 (hs_6.rdL 3 rfl) (by (try simp only [List.length_append]); omega) (by (try simp only [List.length_append]); omega) fun v_2 w_5 hs_7 hch_2 => ?_)
      have hs_7d : Sat w [_, cL v_2 5 (encN .u8) (ex ++ uv ((k + 1 - b))), _, _] _ := hs_7
      refine .m rfl rfl <| .m rfl rfl <| .e rfl (.convK (by rw [Tryz.underlying3]; rfl) Tryz.underlying88 rfl (wrap_u rfl (by (try simp only [IntKind.bits]); omega))) <| .e rfl (.shrN rfl rfl (by (try simp only [IntKind.bits]); omega)) <| .e rfl (.convK (by rw [Tryz.underlying3]; rfl) Tryz.underlying56 rfl (wrap_u rfl (by (try simp only [IntKind.bits]); omega))) <| .f rfl (.call ent83 rfl ((ruv_ok ((x / 2 ^ width)) _ (by omega)).mono fun r_3 w_6 h_3 => ?_))
      have hp_3 := h_3
      have hs_8 := hs_7d.adds hp_3
      refine .f rfl (.appendL 1 sl22 hs_8 rfl rfl rfl Tryz.underlying22 (hs_8.rdL 4 rfl) (by (try simp only [List.length_append]); omega) (by (try simp only [List.length_append]); omega) fun v_3 w_7 hs_9 hch_3 => ?_)
      refine .s rfl rfl <| .nil <| .weaken [(0, _), (1, _), (5, _), (6, _), (7, _), (8, _), (9, _), (10, _), (12, _), (13, _), (14, _), (15, _), (29, _)] ⟨rfl, rfl, rfl, rfl, rfl, rfl, rfl, rfl, rfl, rfl, rfl, rfl, rfl, trivial⟩ <| .region <| .m rfl rfl <| .s rfl rfl <| .nil <| .region <| .e rfl (.addI (b := 1) rfl rfl (by omega)) <| .m rfl rfl <| .nil ?_
      have hs_10 : Sat w [_, _] w_7 := hs_9.sub ((.cons_cons _ (.cons_cons _ (.cons _ (.cons _ (.cons _ .slnil))))))
      exact ⟨(k + 1, v_1, bits ++ lowB x width, v_3, ex ++ uv ((k + 1 - b)) ++ uv ((x / 2 ^ width)), (c + 1), k + 1), ⟨rfl, rfl, rfl, rfl, rfl, congrArg some (congrArg (Value.int .i64) (by omega)), rfl, rfl, rfl, trivial⟩, ⟨hs_10, by omega, by rw [take_succ_of hx, encSt_snoc, hst, encStep, if_pos (Nat.pos_of_ne_zero hc_2), lowB_mod _ _ _ (Nat.le_refl _)], by simp only [List.length_append, lowB_length]; omega, by have h8 := uv_le (k + 1 - b); have h9 := uv_le (x / 2 ^ width); (try simp only [List.length_append]); omega, by omega, by omega⟩, (show (l.length - (k + 1)) < (l.length - k) from by omega)⟩
    · refine .skip <| .region <| .e rfl (.addI (b := 1) rfl rfl (by omega)) <| .m rfl rfl <| .nil ?_
      have hs_11 : Sat w [_, _] w_3 := hs_5.sub ((.cons_cons _ (.cons_cons _ (.cons _ .slnil))))
      exact ⟨(k + 1, v_1, bits ++ lowB x width, ev, ex, c, b), ⟨rfl, rfl, rfl, rfl, rfl, rfl, rfl, rfl, rfl, trivial⟩, ⟨hs_11, by omega, by rw [take_succ_of hx, encSt_snoc, hst, encStep, if_neg (fun h => hc_2 (Nat.ne_of_gt h)), lowB_mod _ _ _ (Nat.le_refl _)], by simp only [List.length_append, lowB_length]; omega, by have h8 := uv_le (k + 1 - b); have h9 := uv_le (x / 2 ^ width); (try simp only [List.length_append]); omega, by omega, by omega⟩, (show (l.length - (k + 1)) < (l.length - k) from by omega)⟩
  · refine .exit0 <| .seq ?_
    have hpl := packB_length bits
    have h1 := uv_le l.length
    have h2 := uv_le width
    have h3 := uv_le c
    refine .region <| .m rfl rfl <| .e rfl (.lenL Tryz.underlying27 rfl (hv.ext hs_3.ext)) <| .e rfl (.convK (by rw [Tryz.underlying3]; rfl) Tryz.underlying56 rfl (wrap_u rfl (by (try simp only [IntKind.bits]); omega))) <| .f rfl (.call ent83 rfl ((ruv_ok (l.length) _ (by omega)).mono fun r_4 w_8 h_4 => ?_))
    have hp_4 := h_4
    have hs_12 := hs_3.adds hp_4
    refine .m rfl rfl <| .e rfl (.convK (by rw [Tryz.underlying3]; rfl) Tryz.underlying56 rfl (wrap_u rfl (by (try simp only [IntKind.bits]); omega))) <| .f rfl (.call ent83 rfl ((ruv_ok (width) _ (by omega)).mono fun r_5 w_9 h_5 => ?_))
    have hp_5 := h_5
    have hs_13 := hs_12.adds hp_5
    refine .f rfl (.appendL 2 sl22 hs_13 rfl rfl rfl Tryz.underlying22 (hs_13.rdL 3 rfl) (by (try simp only [List.length_append]); omega) (by (try simp only [List.length_append]); omega) fun v_4 w_10 hs_14 hch_4 => ?_)
    have hs_14d : Sat w [_, _, cL v_4 5 (encN .u8) (uv (l.length) ++ uv (width)), _] _ := hs_14
    refine .s rfl rfl <| .nil <| .seq <| .region <| .m rfl rfl <| .m rfl rfl <| .e rfl (.convK (by rw [Tryz.underlying3]; rfl) Tryz.underlying56 rfl (wrap_u rfl (by (try simp only [IntKind.bits]); omega))) <| .f rfl (.call ent83 rfl ((ruv_ok (c) _ (by omega)).mono fun r_6 w_11 h_6 => ?_))
    have hp_6 := h_6
    have hs_15 := hs_14d.adds hp_6
    refine .f rfl (.appendL 2 sl22 hs_15 rfl rfl rfl Tryz.underlying22 (hs_15.rdL 4 rfl) (by (try simp only [List.length_append]); omega) (by (try simp only [List.length_append]); omega) fun v_5 w_12 hs_16 hch_5 => ?_)
    refine .m rfl rfl <| .f rfl (.call ent117 rfl ((rpack_ok _ (bits) _ (hs_16.rdL 0 rfl) (by omega)).mono fun r_7 w_13 h_7 => ?_))
    have hp_7 := h_7
    have hs_17 : Sat w [_, _, _, _, _, cL r_7 5 (encN .u8) (packB (bits))] _ := hs_16.adds hp_7
    refine .f rfl (.appendL 2 sl22 hs_17 rfl rfl rfl Tryz.underlying22 (hs_17.rdL 5 rfl) (by (try simp only [List.length_append]); omega) (by (try simp only [List.length_append]); omega) fun v_6 w_14 hs_18 hch_6 => ?_)
    refine .s rfl rfl <| .nil <| .seq <| .region <| .m rfl rfl <| .m rfl rfl <| .f rfl (.appendL 2 sl22 hs_18 rfl rfl rfl Tryz.underlying22 (hs_18.rdL 1 rfl) (by (try simp only [List.length_append]); omega) (by (try simp only [List.length_append]); omega) fun v_7 w_15 hs_19 hch_7 => ?_)
    refine .s rfl rfl <| .nil <| .ret ?_
    show PostK _ _ _ _ _ _
    refine post1 rfl rfl ?_
    have hs_20 : Sat w [_] w_15 := hs_19.sub ((.cons _ (.cons _ (.cons_cons _ (.cons _ (.cons _ (.cons _ .slnil)))))))
    have hs_21 : Sat w [cL v_7 5 (encN .u8) (encBk width l)] w_15 := by
      have hq : uv (l.length) ++ uv (width) ++ uv (c) ++ packB (bits) ++ ex = encBk width l := by unfold encBk; rw [show encSt width l = (k, bits, ex, c, b) by rw [← hst, show k = l.length by omega, List.take_length]]
      rw [← hq]; exact hs_20
    exact hs_21
theorem rwidth_ok (v : Value) (l : List Nat) (w : World) (hv : RdL w v (encN .i64) l) (hn : l.length ≤ 128) (hb : ∀ x ∈ l, x ≤ 2147483647) :
    CallsV Tryz.prog 80 [v] w fun r w' => r = .int .i64 ((bestW l 32 : Nat) : Int) ∧ Sat w [] w' := by
  have hs0 := Sat.start w
  refine callsV_of Tryz.func80 rfl rfl ?_
  refine .seq ?_
  have hb63 : ∀ x ∈ l, x < 2 ^ 63 := fun x hx => by have := hb x hx; omega
  refine .region <| .s rfl rfl <| .nil <| .seq <| .seq <| .region <| .m rfl rfl <| .f rfl (.call ent50 rfl ((rbcheck_ok _ (l) _ (hv.ext hs0.ext) (hn) (hb)).mono fun r_1 w_1 h_1 => ?_))
  obtain ⟨rfl, hp_1⟩ := h_1
  have hs_1 := hs0.adds hp_1
  refine .e rfl (.neqN (a := 0) (b := 0) rfl rfl) <| .nil <| .condF rfl (rfl) <| .skip <| .seq <| .region <| .s rfl rfl <| .nil <| .seq <| .seq <| .region <| .s rfl rfl <| .nil <| .block <| .loop (α := Nat × Nat) (fun (m, bw) => [(0, v), (3, (.int .i64 bw)), (4, (.int .i64 m))]) (fun (m, bw) w' => Sat w [] w' ∧ (1 ≤ m) ∧ (m ≤ 32) ∧ (bw = bestW l m) ∧ (bw ≤ 31)) (fun (m, bw) => 32 - m) (1, 0) ⟨rfl, rfl, rfl, trivial⟩ ⟨hs_1, Nat.le_refl _, by omega, by simp [bestW], by omega⟩ ?_
  rintro ⟨m, bw⟩ w_2 ⟨hs_2, hm1, hm, hbw, hbl⟩
  show CW _ _ _ _ [(0, v), (3, (.int .i64 bw)), (4, (.int .i64 m))] _
  refine .seq <| .seq <| .region <| .m rfl rfl <| .e rfl (.leqN (b := 31) rfl rfl) <| .nil <| .condD rfl (fun hc_1 => ?_) (fun hc_1 => ?_)
  · refine .skip <| .seq <| .block <| .seq <| .region <| .m rfl rfl <| .m rfl rfl <| .f rfl (.call ent79 rfl ((rbytes_ok _ (l) (m) _ (hv.ext hs_2.ext) (by omega) (hb63) (by omega)).mono fun r_2 w_3 h_2 => ?_))
    have hp_2 := h_2
    have hs_3 := hs_2.adds hp_2
    refine .e rfl (.lenL Tryz.underlying22 rfl (hs_3.rdL 0 rfl)) <| .m rfl rfl <| .m rfl rfl <| .f rfl (.call ent79 rfl ((rbytes_ok _ (l) (bw) _ (hv.ext hs_3.ext) (by omega) (hb63) (by omega)).mono fun r_3 w_4 h_3 => ?_))
    have hp_3 := h_3
    have hs_4 : Sat w [_, cL r_3 5 (encN .u8) (encBk bw l)] _ := hs_3.adds hp_3
    refine .e rfl (.lenL Tryz.underlying22 rfl (hs_4.rdL 1 rfl)) <| .e rfl (.lssN rfl rfl) <| .nil <| .condD rfl (fun hc_2 => ?_) (fun hc_2 => ?_)
    · refine .region <| .m rfl rfl <| .s rfl rfl <| .nil <| .region <| .m rfl rfl <| .e rfl (.addI (b := 1) rfl rfl (by omega)) <| .s rfl rfl <| .nil ?_
      have hs_5 : Sat w [] w_4 := hs_4.sub ((.cons _ (.cons _ .slnil)))
      exact ⟨(m + 1, m), ⟨rfl, rfl, rfl, trivial⟩, ⟨hs_5, by omega, by omega, by rw [bestW, ← hbw, costB_len (by omega) (by omega) hb63, costB_len (by omega) (by omega) hb63, if_pos hc_2], by omega⟩, (show (32 - (m + 1)) < (32 - m) from by omega)⟩
    · refine .skip <| .region <| .m rfl rfl <| .e rfl (.addI (b := 1) rfl rfl (by omega)) <| .s rfl rfl <| .nil ?_
      have hs_6 : Sat w [] w_4 := hs_4.sub ((.cons _ (.cons _ .slnil)))
      exact ⟨(m + 1, bw), ⟨rfl, rfl, rfl, trivial⟩, ⟨hs_6, by omega, by omega, by rw [bestW, ← hbw, costB_len (by omega) (by omega) hb63, costB_len (by omega) (by omega) hb63, if_neg hc_2], by omega⟩, (show (32 - (m + 1)) < (32 - m) from by omega)⟩
  · refine .exit0 <| .seq <| .region <| .m rfl rfl <| .s rfl rfl <| .nil <| .ret ?_
    show PostK _ _ _ _ _ _
    refine post1 rfl rfl ?_
    rw [show m = 32 by omega] at hbw
    exact ⟨by rw [hbw], hs_2⟩
theorem rbpack_ok (v : Value) (l : List Nat) (w : World) (hv : RdL w v (encN .i64) l) (hn : l.length ≤ 128) (hb : ∀ x ∈ l, x ≤ 2147483647) :
    CallsV Tryz.prog 51 [v] w fun r w' => Sat w [cL r 5 (encN .u8) (packBk l)] w' := by
  have hs0 := Sat.start w
  refine callsV_of Tryz.func51 rfl rfl ?_
  refine .seq ?_
  have hb63 : ∀ x ∈ l, x < 2 ^ 63 := fun x hx => by have := hb x hx; omega
  refine .region <| .s rfl rfl <| .nil <| .seq <| .region <| .m rfl rfl <| .m rfl rfl <| .f rfl (.call ent80 rfl ((rwidth_ok _ (l) _ (hv.ext hs0.ext) (hn) (hb)).mono fun r_1 w_1 h_1 => ?_))
  obtain ⟨rfl, hp_1⟩ := h_1
  have hs_1 := hs0.adds hp_1
  refine .f rfl (.call ent79 rfl ((rbytes_ok _ (l) ((bestW l 32)) _ (hv.ext hs_1.ext) (by omega) (hb63) (by have := bestW_le l 32; omega)).mono fun r_2 w_2 h_2 => ?_))
  have hp_2 := h_2
  have hs_2 := hs_1.adds hp_2
  refine .s rfl rfl <| .nil <| .ret ?_
  show PostK _ _ _ _ _ _
  refine post1 rfl rfl ?_
  exact hs_2
end Go.Proofs.YtecfgjdpghddgaaGreat
