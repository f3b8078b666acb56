/- The walks of the functions of F02, printed by our own program (kwgen.py) out of our descriptions (base.py). -/
import Derived.Test.YtecfgjdpghddgaaGreatMst
import Derived.Test.YtecfgjdpghddgaaGreatKp
import Derived.Test.YtecfgjdpghddgaaGreatShelf
import Derived.Test.YtecfgjdpghddgaaGreatTab
import Derived.Test.YtecfgjdpghddgaaGreatM14d
set_option linter.unusedVariables false
set_option linter.unusedSimpArgs false
set_option linter.unusedSectionVars false
namespace Go.Proofs.YtecfgjdpghddgaaGreat
open Go.RowKit Go.Kw
set_option maxRecDepth 100000
theorem put_ok (bv : Value) (l : List Nat) (v : Nat) (w : World) (hb : RdL w bv (encN .u8) l) (hn : l.length ≤ 1000000000000) (hv : v < 2 ^ 64) :
    CallsV Tryz.prog 39 [bv, (.int .u64 v)] w fun r w' => Sat w [cL r 5 (encN .u8) (l ++ uv v)] w' := by
  have hs0 := Sat.start w
  refine callsV_of Tryz.func39 rfl rfl ?_
  refine .seq <| .region <| .s rfl rfl <| .nil <| .seq <| .region <| .m rfl rfl <| .e rfl (.lenL Tryz.underlying22 rfl (hb.ext hs0.ext)) <| .m rfl rfl <| .e rfl (.lenL Tryz.underlying22 rfl (hb.ext hs0.ext)) <| .e rfl (.addI (b := 10) rfl rfl (by omega)) <| .f rfl (.makeL (encN .u8) (0) sl22 rfl hs0 rfl rfl (by omega) (by omega) (by omega) fun v_1 w_1 hs_1 hch_1 => ?_)
  refine .s rfl rfl <| .nil <| .seq <| .region <| .m rfl rfl <| .m rfl rfl <| .f rfl (.copyL 0 sl22 rfl hs_1 rfl rfl rfl (hb.ext hs_1.ext) fun w_2 hs_2 hch_2 => ?_)
  have hs_2d : Sat w [cL v_1 5 (encN .u8) (l)] w_2 := by
    have hq : (l).take (List.replicate (l.length) 0).length ++ (List.replicate (l.length) 0).drop (l).length = l := by simp
    rw [← hq]; exact hs_2
  refine .nil <| .seq <| .block <| .loop (α := Nat × Value × List Nat) (fun (v2, out, acc) => [(1, (.int .u64 v2)), (5, out)]) (fun (v2, out, acc) w' => Sat w [cL out 5 (encN .u8) (acc)] w' ∧ (v2 < 2 ^ 64) ∧ (acc ++ uv v2 = l ++ uv v)) (fun (v2, out, acc) => v2) (v, v_1, l) ⟨rfl, rfl, trivial⟩ ⟨hs_2d, hv, rfl⟩ ?_
  rintro ⟨v2, out, acc⟩ w_3 ⟨hs_3, hv2, hacc⟩
  show CW _ _ _ _ [(1, (.int .u64 v2)), (5, out)] _
  have hl2 := congrArg List.length hacc
  simp only [List.length_append] at hl2
  have hu1 := uv_le v
  have hu2 := uv_pos v2
  refine .seq <| .seq <| .region <| .m rfl rfl <| .e rfl (.geqN (b := 128) rfl rfl) <| .nil <| .condD rfl (fun hc_1 => ?_) (fun hc_1 => ?_)
  · refine .skip <| .block <| .seq <| .region <| .m rfl rfl <| .m rfl rfl <| .e rfl (.convN (by rw [Tryz.underlying56]; rfl) Tryz.underlying5 rfl rfl) <| .e rfl (.orN (b := 128) rfl rfl rfl (by (try simp only [IntKind.bits]); omega) (by (try simp only [IntKind.bits]); omega)) <| .f rfl (.lit1 (encN .u8) ((v2 % 2 ^ 8) ||| 128) sl22 rfl hs_3 rfl fun v_2 w_4 hs_4 hch_3 => ?_)
    refine .f rfl (.appendL 0 sl22 hs_4 rfl rfl rfl Tryz.underlying22 (hs_4.rdL 1 rfl) (by simp; omega) (by simp; omega) fun v_3 w_5 hs_5 hch_4 => ?_)
    have hs_5d : Sat w [cL v_3 5 (encN .u8) (acc ++ [((v2 % 2 ^ 8) ||| 128)])] _ := hs_5.drop 1
    refine .s rfl rfl <| .nil <| .region <| .m rfl rfl <| .e rfl (.shrN (b := 7) rfl rfl (by (try simp only [IntKind.bits]); omega)) <| .s rfl rfl <| .nil ?_
    exact ⟨((v2 / 2 ^ 7), v_3, acc ++ [((v2 % 2 ^ 8) ||| 128)]), ⟨rfl, rfl, trivial⟩, ⟨hs_5d, by omega, by rw [← hacc, uv_step v2 hv2 hc_1]; simp⟩, (show (((v2 / 2 ^ 7))) < (v2) from by omega)⟩
  · refine .exit0 <| .seq <| .region <| .m rfl rfl <| .m rfl rfl <| .e rfl (.convN (by rw [Tryz.underlying56]; rfl) Tryz.underlying5 rfl rfl) <| .f rfl (.lit1 (encN .u8) (v2 % 2 ^ 8) sl22 rfl hs_3 rfl fun v_4 w_6 hs_6 hch_5 => ?_)
    refine .f rfl (.appendL 0 sl22 hs_6 rfl rfl rfl Tryz.underlying22 (hs_6.rdL 1 rfl) (by simp; omega) (by simp; omega) fun v_5 w_7 hs_7 hch_6 => ?_)
    have hs_7d : Sat w [cL v_5 5 (encN .u8) (acc ++ [(v2 % 2 ^ 8)])] _ := hs_7.drop 1
    refine .s rfl rfl <| .nil <| .ret ?_
    show PostK _ _ _ _ _ _
    refine post1 rfl rfl ?_
    have hq : acc ++ [v2 % 2 ^ 8] = l ++ uv v := by rw [← hacc, uv_small v2 (by omega)]
    rw [← hq]; exact hs_7d
theorem len64_ok (x : Nat) (w : World) (hx : x < 2 ^ 64) : CallsV Tryz.prog 97 [.int .u64 (x : Int)] w fun r w' => r = .int .i64 ((Lib.bitLen x : Nat) : Int) ∧ Sat w [] w' := by
  refine Calls.mono (Tryz.bits_Len64 (x : Int) w (by omega) (by omega)) ?_
  rintro e w' ⟨rfl, rfl⟩
  exact ⟨_, rfl, by simp, Sat.start _⟩
theorem newWriter_ok (w : World) :
    CallsV Tryz.prog 108 [] w fun r w' => ∃ g, r = .pointer (some ⟨g, 0, none⟩) ∧ Sat w [cObj g 193 [.slice none 0 0, .int .i64 0], cL (.slice none 0 0) 5 (encN .u8) []] w' := by
  have hs0 := Sat.start w
  refine callsV_of Tryz.func108 rfl rfl ?_
  refine .seq <| .region <| .s rfl rfl <| .nil <| .seq <| .region <| .e rfl (.build bt193 rfl trivial rfl) <| .f rfl (.box hs0 rfl fun b_1 w_1 hs_1 hch_1 hb_1 => ?_)
  refine .s rfl rfl <| .nil <| .ret ?_
  show PostK _ _ _ _ _ _
  refine post1 rfl rfl ?_
  exact ⟨_, rfl, hs_1.newNilL 5 (encN .u8)⟩
theorem wput_ok (w0 w : World) (cs : List Chunk) (g : Nat) (v : Value) (bits : List Bool) (x : Nat) (hs : Sat w0 ([cObj g 193 [v, .int .i64 (((bits).length : Nat) : Int)], cL v 5 (encN .u8) (packB (bits))] ++ cs) w) (hx : x < 2 ^ 64) (hn : bits.length ≤ 1000000000000) :
    CallsV Tryz.prog 151 [(.pointer (some ⟨g, 0, none⟩)), (.int .u64 x)] w fun r w' => r = .tuple #[] ∧ ∃ v', Sat w0 ([cObj g 193 [v', .int .i64 (((bits ++ [decide (x % 2 ^ 1 = 1)]).length : Nat) : Int)], cL v' 5 (encN .u8) (packB (bits ++ [decide (x % 2 ^ 1 = 1)]))] ++ cs) w' := by
  refine callsV_of Tryz.func151 rfl rfl ?_
  refine .seqMid (fun L' w' => ∃ (v1 : Value), Weak [(0, (.pointer (some ⟨g, 0, none⟩))), (1, (.int .u64 x))] L' ∧ Sat w0 ([cObj g 193 [v1, (.int .i64 ((bits).length : Nat))], cL v1 5 (encN .u8) (roomB bits)] ++ cs) w') ?_ ?_
  · refine .seq ?_
    have hpl := packB_length bits
    refine .region <| .m rfl rfl <| .e rfl (.nilCheck rfl) <| .e rfl (.fieldAddr fld160_1 rfl rfl) <| .e rfl (.load scal3 rfl (hs.cell (i := 0) (j := 1) rfl rfl)) <| .e rfl (.maskI (b := 7) 3 rfl rfl (by decide) (by omega) (by decide)) <| .e rfl (.eqlN (b := 0) rfl rfl) <| .nil <| .condD rfl (fun hc_1 => ?_) (fun hc_1 => ?_)
    · refine .region <| .m rfl rfl <| .m rfl rfl <| .e rfl (.nilCheck rfl) <| .e rfl (.fieldAddr fld160_0 rfl rfl) <| .e rfl (.load scal22 rfl (hs.cell (i := 0) (j := 0) rfl rfl)) <| .f rfl (.lit1 (encN .u8) 0 sl22 rfl hs rfl fun v_1 w_1 hs_1 hch_1 => ?_)
      have hs_1d : Sat w0 ([cObj g 193 [v, (.int .i64 ((bits).length : Nat))], cL v 5 (encN .u8) (packB (bits)), cL v_1 5 (encN .u8) ([0])] ++ cs) _ := (hs_1).mid
      refine .f rfl (.appendL 1 sl22 hs_1d rfl rfl rfl Tryz.underlying22 (hs_1d.rdL 2 rfl) (by simp; omega) (by simp; omega) fun v_2 w_2 hs_2 hch_2 => ?_)
      have hs_2d : Sat w0 ([_, cL v_2 5 (encN .u8) (packB (bits) ++ [0])] ++ cs) _ := hs_2.drop 2
      refine .e rfl (.nilCheck rfl) <| .e rfl (.fieldAddr fld160_0 rfl rfl) <| .f rfl (.storeObj one22 hs_2d (i := 0) rfl rfl rfl ((hs_2d.rdL 1 rfl).oneCell) rfl fun w_3 hs_3 hch_3 => ?_)
      refine .nil ?_
      have hs_4 : Sat w0 ([cObj g 193 [v_2, (.int .i64 ((bits).length : Nat))], cL v_2 5 (encN .u8) (roomB bits)] ++ cs) w_3 := by
        have hq : packB (bits) ++ [0] = roomB bits := by unfold roomB; rw [if_pos hc_1]
        rw [← hq]; exact hs_3
      exact ⟨v_2, ⟨rfl, rfl, trivial⟩, hs_4⟩
    · refine .skip ?_
      have hs_5 : Sat w0 ([cObj g 193 [v, (.int .i64 ((bits).length : Nat))], cL v 5 (encN .u8) (roomB bits)] ++ cs) w := by
        have hq : packB (bits) = roomB bits := by unfold roomB; rw [if_neg hc_1]
        rw [← hq]; exact hs
      exact ⟨v, ⟨rfl, rfl, trivial⟩, hs_5⟩
  · rintro L' w_4 ⟨v1, hw_1, hs_6⟩
    refine .weaken _ hw_1 <| .seqMid (fun L' w' => Weak [(0, (.pointer (some ⟨g, 0, none⟩)))] L' ∧ Sat w0 ([cObj g 193 [v1, (.int .i64 ((bits).length : Nat))], cL v1 5 (encN .u8) (packB (bits ++ [decide (x % 2 ^ 1 = 1)]))] ++ cs) w') ?_ ?_
    · refine .seq <| .region <| .m rfl rfl <| .e rfl (.maskN (b := 1) 1 rfl rfl rfl (by decide) (by (try simp only [IntKind.bits]); omega) (by decide)) <| .e rfl (.eqlN (b := 1) rfl rfl) <| .nil <| .condD rfl (fun hc_2 => ?_) (fun hc_2 => ?_)
      · have hshp_1 := (hs_6.rdL (E := encN .u8) 1 rfl).shp (by decide)
        refine .draw (fun w' => Sat w0 ([cObj g 193 [v1, (.int .i64 ((bits).length : Nat))]] ++ cs) w') (.free 0 (.free 1 (.free 2 (.free 3 (.free 4 (.free 5 (.free 6 (.free 7 (.free 8 (.free 11 (.free 12 (.free 13 (.free 14 (.free 15 (.free 16 (.one 9 (.one 10 (.free 17 (.one 18 (.one 19 .fin)))))))))))))))))))) mixed (by kernel_rfl) ?_
        have hs_7 := hs_6.drew
        have hS_1 : Sat w0 ([cObj g 193 [v1, (.int .i64 ((bits).length : Nat))]] ++ cs) _ := hs_7.sub ((.cons_cons _ (.cons _ (.refl _))))
        refine .m rfl rfl hS_1 <| .e rfl (fun w' hS' => .nilCheck rfl) hS_1 <| .e rfl (fun w' hS' => .fieldAddr fld160_0 rfl rfl) hS_1 <| .e rfl (fun w' hS' => .load scal22 rfl (hS'.cell (i := 0) (j := 0) rfl rfl)) hS_1 <| .m rfl rfl hS_1 <| .e rfl (fun w' hS' => .nilCheck rfl) hS_1 <| .e rfl (fun w' hS' => .fieldAddr fld160_1 rfl rfl) hS_1 <| .e rfl (fun w' hS' => .load scal3 rfl (hS'.cell (i := 0) (j := 1) rfl rfl)) hS_1 <| .e rfl (fun w' hS' => .shrN (b := 3) rfl rfl (by (try simp only [IntKind.bits]); omega)) hS_1 <| .m rfl rfl hS_1 <| .e rfl (fun w' hS' => .nilCheck rfl) hS_1 <| .e rfl (fun w' hS' => .fieldAddr fld160_1 rfl rfl) hS_1 <| .e rfl (fun w' hS' => .load scal3 rfl (hS'.cell (i := 0) (j := 1) rfl rfl)) hS_1 <| .e rfl (fun w' hS' => .maskI (b := 7) 3 rfl rfl (by decide) (by omega) (by decide)) hS_1 <| .e rfl (fun w' hS' => .shrN (a := 128) rfl rfl (by (try simp only [IntKind.bits]); omega)) hS_1 <| .f rfl (.ev (Ev.idxL (E := encN .u8) sl22 rfl rfl (hs_7.rdL 1 rfl) (by rw [roomB_length]; omega)) ⟨hS_1, ?_⟩)
        refine .f rfl (.ev (Ev.ldL (E := encN .u8) scal5 rfl (hs_7.rdL 1 rfl) (roomB_get bits) (by decide) rfl) ⟨hS_1, ?_⟩)
        refine .e rfl (fun w' hS' => .orN rfl rfl rfl (by first | exact byteAt_lt _ _ | (simp only [IntKind.bits]; have := Nat.div_le_self 128 (2 ^ (bits.length % 2 ^ 3)); omega)) (by first | exact byteAt_lt _ _ | (simp only [IntKind.bits]; have := Nat.div_le_self 128 (2 ^ (bits.length % 2 ^ 3)); omega))) hS_1 <| .f rfl (.ev (Ev.idxL (E := encN .u8) sl22 rfl rfl (hs_7.rdL 1 rfl) (by rw [roomB_length]; omega)) ⟨hS_1, ?_⟩)
        refine .f rfl (.setL (a := ((byteAt bits (bits.length / 2 ^ 3)) ||| (128 / 2 ^ ((bits).length % 2 ^ 3)))) 1 one5 hs_7 rfl rfl rfl rfl (by rw [roomB_length]; omega) fun w_5 hs_8 hch_4 => ?_)
        have hS_2 : Sat w0 ([_] ++ cs) _ := hs_8.sub ((.cons_cons _ (.cons _ (.refl _))))
        refine ⟨hS_2, ?_⟩
        refine .fin ?_
        have hs_9 : Sat w0 ([cObj g 193 [v1, (.int .i64 ((bits).length : Nat))], cL v1 5 (encN .u8) (packB (bits ++ [decide (x % 2 ^ 1 = 1)]))] ++ cs) w_5 := by
          have hq : (roomB bits).set ((bits).length / 2 ^ 3) ((byteAt bits (bits.length / 2 ^ 3)) ||| (128 / 2 ^ ((bits).length % 2 ^ 3))) = packB (bits ++ [decide (x % 2 ^ 1 = 1)]) := by rw [decide_eq_true hc_2, packB_true]
          rw [← hq]; exact hs_8
        exact ⟨⟨rfl, trivial⟩, hs_9⟩
      · refine .skip ?_
        have hs_10 : Sat w0 ([cObj g 193 [v1, (.int .i64 ((bits).length : Nat))], cL v1 5 (encN .u8) (packB (bits ++ [decide (x % 2 ^ 1 = 1)]))] ++ cs) w_4 := by
          have hq : roomB bits = packB (bits ++ [decide (x % 2 ^ 1 = 1)]) := by rw [decide_eq_false hc_2, packB_false]
          rw [← hq]; exact hs_6
        exact ⟨⟨rfl, trivial⟩, hs_10⟩
    · rintro L' w_6 ⟨hw_2, hs_11⟩
      refine .weaken _ hw_2 <| .region <| .m rfl rfl <| .e rfl (.nilCheck rfl) <| .e rfl (.fieldAddr fld160_1 rfl rfl) <| .e rfl (.load scal3 rfl (hs_11.cell (i := 0) (j := 1) rfl rfl)) <| .e rfl (.addI (b := 1) rfl rfl (by omega)) <| .e rfl (.nilCheck rfl) <| .e rfl (.fieldAddr fld160_1 rfl rfl) <| .f rfl (.storeObj one3 hs_11 (i := 0) rfl rfl rfl (rfl) rfl fun w_7 hs_12 hch_5 => ?_)
      refine .nil ?_
      show PostK _ _ _ _ _ _
      refine post0 rfl ?_
      refine ⟨rfl, v1, ?_⟩
      rw [show (bits ++ [decide (x % 2 ^ 1 = 1)]).length = bits.length + 1 by simp]; exact hs_12
theorem wlow_ok (w0 w : World) (cs : List Chunk) (g : Nat) (v : Value) (bits : List Bool) (x m : Nat) (hs : Sat w0 ([cObj g 193 [v, .int .i64 (((bits).length : Nat) : Int)], cL v 5 (encN .u8) (packB (bits))] ++ cs) w) (hx : x < 2 ^ 64) (hm : m ≤ 64) (hn : bits.length + m ≤ 1000000000) :
    CallsV Tryz.prog 140 [(.pointer (some ⟨g, 0, none⟩)), (.int .u64 x), (.int .i64 m)] w fun r w' => r = .tuple #[] ∧ ∃ v', Sat w0 ([cObj g 193 [v', .int .i64 (((bits ++ lowB x m).length : Nat) : Int)], cL v' 5 (encN .u8) (packB (bits ++ lowB x m))] ++ cs) w' := by
  refine callsV_of Tryz.func140 rfl rfl ?_
  refine .seq <| .region <| .m rfl rfl <| .e rfl (.sub (b := (1 : Int)) rfl rfl (by unfold inI64; omega)) <| .s rfl rfl <| .nil <| .block <| .loop (α := Nat × Value × List Bool) (fun (m1, v1, bs) => [(0, (.pointer (some ⟨g, 0, none⟩))), (1, (.int .u64 x)), (6, (.int .i64 ((((m1 : Nat) : Int) - 1))))]) (fun (m1, v1, bs) w' => Sat w0 ([cObj g 193 [v1, (.int .i64 ((bs).length : Nat))], cL v1 5 (encN .u8) (packB (bs))] ++ cs) w' ∧ (m1 ≤ m) ∧ (bs ++ lowB x m1 = bits ++ lowB x m)) (fun (m1, v1, bs) => m1) (m, v, bits) ⟨rfl, rfl, rfl, trivial⟩ ⟨hs, Nat.le_refl _, rfl⟩ ?_
  rintro ⟨m1, v1, bs⟩ w_1 ⟨hs_1, hm1, hacc⟩
  show CW _ _ _ _ [(0, (.pointer (some ⟨g, 0, none⟩))), (1, (.int .u64 x)), (6, (.int .i64 ((((m1 : Nat) : Int) - 1))))] _
  refine .seq <| .seq <| .region <| .m rfl rfl <| .e rfl (.geq rfl rfl) <| .nil <| .condD rfl (fun hc_1 => ?_) (fun hc_1 => ?_)
  · refine .skip <| .seq <| .block ?_
    obtain ⟨j, rfl⟩ : ∃ j, m1 = j + 1 := ⟨m1 - 1, by omega⟩
    refine .weaken [(0, _), (1, _), (6, (.int .i64 j)), (9, _), (10, _)] ⟨rfl, rfl, congrArg some (congrArg (Value.int .i64) (by omega)), rfl, rfl, trivial⟩ ?_
    have hl2 := congrArg List.length hacc
    simp only [List.length_append, lowB_length] at hl2
    have hshp_1 := (hs_1.rdL (E := encN .u8) 1 rfl).shp (by decide)
    refine .draw (fun w' => Sat w0 ([] ++ cs) w') (.free 0 (.free 1 (.free 2 (.free 3 (.free 4 (.free 5 (.one 6 .fin))))))) mixed (by kernel_rfl) ?_
    have hs_2 := hs_1.drew
    have hS_1 : Sat w0 ([] ++ cs) _ := hs_2.sub ((.cons _ (.cons _ (.refl _))))
    refine .m rfl rfl hS_1 <| .e rfl (fun w' hS' => .nilCheck rfl) hS_1 <| .e rfl (fun w' hS' => .fieldAddr fld193_0 rfl rfl) hS_1 <| .m rfl rfl hS_1 <| .m rfl rfl hS_1 <| .e rfl (fun w' hS' => .shrN rfl rfl (hx)) hS_1 ?_
    have hA_1 : Sat w0 ([cObj g 193 [v1, (.int .i64 ((bs).length : Nat))], cL v1 5 (encN .u8) (packB (bs))] ++ ([] ++ cs)) _ := (Sat.order [0, 1] (by decide) hs_2).cut 2
    refine .f rfl (.call ent151 rfl ((wput_ok _ _ _ _ _ (bs) ((x / 2 ^ j)) hA_1 (Nat.lt_of_le_of_lt (Nat.div_le_self _ _) hx) (by omega)).mono fun r_1 w_2 h_1 => ?_))
    obtain ⟨rfl, wv_1, hp_1⟩ := h_1
    have hs_3 : Sat w0 ([cObj g 193 [wv_1, (.int .i64 ((bs ++ [decide ((x / 2 ^ j) % 2 ^ 1 = 1)]).length : Nat))], cL wv_1 5 (encN .u8) (packB (bs ++ [decide ((x / 2 ^ j) % 2 ^ 1 = 1)]))] ++ cs) _ := hp_1
    have hS_2 : Sat w0 ([] ++ cs) _ := hs_3.sub ((.cons _ (.cons _ (.refl _))))
    refine ⟨hS_2, ?_⟩
    refine .fin <| .region <| .m rfl rfl <| .e rfl (.sub (b := (1 : Int)) rfl rfl (by unfold inI64; omega)) <| .s rfl rfl <| .nil ?_
    exact ⟨(j, wv_1, bs ++ [decide ((x / 2 ^ j) % 2 ^ 1 = 1)]), ⟨rfl, rfl, rfl, trivial⟩, ⟨hs_3, by omega, by rw [← hacc]; simp [lowB]⟩, (show ((j)) < (j + 1) from by omega)⟩
  · refine .exit0 ?_
    show PostK _ _ _ _ _ _
    refine post0 rfl ?_
    have h0 : m1 = 0 := by omega
    subst h0
    rw [show bs = bits ++ lowB x m by rw [← hacc]; simp [lowB]] at hs_1
    exact ⟨rfl, v1, hs_1⟩
theorem wbits_ok (w0 w : World) (cs : List Chunk) (g : Nat) (v : Value) (bits : List Bool) (x m : Nat) (hs : Sat w0 ([cObj g 193 [v, .int .i64 (((bits).length : Nat) : Int)], cL v 5 (encN .u8) (packB (bits))] ++ cs) w) (hx : x < 2 ^ m) (hm : m ≤ 64) (hn : bits.length + m ≤ 1000000000) :
    CallsV Tryz.prog 109 [(.pointer (some ⟨g, 0, none⟩)), (.int .u64 x), (.int .i64 m)] w fun r w' => r = .int .i64 0 ∧ ∃ v', Sat w0 ([cObj g 193 [v', .int .i64 (((bits ++ lowB x m).length : Nat) : Int)], cL v' 5 (encN .u8) (packB (bits ++ lowB x m))] ++ cs) w' := by
  have hx64 : x < 2 ^ 64 := Nat.lt_of_lt_of_le hx (Nat.pow_le_pow_right (by decide) hm)
  have hbl := bitLen_le hx
  refine callsV_of Tryz.func109 rfl rfl ?_
  refine .seq <| .region <| .s rfl rfl <| .nil <| .seq <| .seq <| .mid (fun L' w' => Weak [(0, (.pointer (some ⟨g, 0, none⟩))), (1, (.int .u64 x)), (2, (.int .i64 m)), (6, (.int .i64 (0 : Nat))), (18, (.bool (decide (((m < 0) ∨ (64 < m)) ∨ (m < (Lib.bitLen (x)))))))] L' ∧ Sat w0 ([cObj g 193 [v, (.int .i64 ((bits).length : Nat))], cL v 5 (encN .u8) (packB (bits))] ++ cs) w') ?_ ?_
  · refine .region <| .m rfl rfl <| .e rfl (.lssN (b := 0) rfl rfl) <| .m rfl rfl ?_
    by_cases hg_1 : m < 0
    · refine .no rfl rfl rfl (decide_eq_true hg_1) rfl <| .no rfl rfl rfl (decide_eq_true hg_1) rfl <| .e rfl (.pickY rfl (decide_eq_true hg_1) rfl) <| .m rfl rfl <| .no rfl rfl rfl (rfl) rfl <| .no rfl rfl rfl (rfl) rfl <| .no rfl rfl rfl (rfl) rfl <| .no rfl rfl rfl (rfl) rfl <| .e rfl (.pickY rfl (rfl) rfl) <| .nil ?_
      exact ⟨⟨rfl, rfl, rfl, rfl, congrArg some (congrArg Value.bool (by simp [hg_1])), trivial⟩, hs⟩
    · refine .yes rfl rfl rfl (decide_eq_false hg_1) <| .m rfl rfl <| .yes rfl rfl rfl (decide_eq_false hg_1) <| .e rfl (.gtrN (b := 64) rfl rfl) <| .e rfl (.pickN rfl (decide_eq_false hg_1) rfl) <| .m rfl rfl ?_
      by_cases hg_2 : 64 < m
      · refine .no rfl rfl rfl (decide_eq_true hg_2) rfl <| .no rfl rfl rfl (decide_eq_true hg_2) rfl <| .no rfl rfl rfl (decide_eq_true hg_2) rfl <| .no rfl rfl rfl (decide_eq_true hg_2) rfl <| .e rfl (.pickY rfl (decide_eq_true hg_2) rfl) <| .nil ?_
        exact ⟨⟨rfl, rfl, rfl, rfl, congrArg some (congrArg Value.bool (by simp [hg_1, hg_2])), trivial⟩, hs⟩
      · refine .yes rfl rfl rfl (decide_eq_false hg_2) <| .m rfl rfl <| .yes rfl rfl rfl (decide_eq_false hg_2) <| .f rfl (.call ent97 rfl ((len64_ok (x) _ (by omega)).mono fun r_1 w_1 h_1 => ?_))
        obtain ⟨rfl, hp_1⟩ := h_1
        have hs_1 : Sat w0 ([cObj g 193 [v, (.int .i64 ((bits).length : Nat))], cL v 5 (encN .u8) (packB (bits))] ++ cs) _ := (hs.adds hp_1).mid
        refine .yes rfl rfl rfl (decide_eq_false hg_2) <| .m rfl rfl <| .yes rfl rfl rfl (decide_eq_false hg_2) <| .e rfl (.gtrN rfl rfl) <| .e rfl (.pickN rfl (decide_eq_false hg_2) rfl) <| .nil ?_
        exact ⟨⟨rfl, rfl, rfl, rfl, congrArg some (congrArg Value.bool (by simp [hg_1, hg_2])), trivial⟩, hs_1⟩
  · rintro L' w_2 ⟨hw_1, hs_2⟩
    refine .weaken _ hw_1 <| .condF rfl (decide_eq_false (by omega)) <| .skip <| .seq <| .region <| .m rfl rfl <| .m rfl rfl <| .m rfl rfl ?_
    have hA_1 : Sat w0 ([cObj g 193 [v, (.int .i64 ((bits).length : Nat))], cL v 5 (encN .u8) (packB (bits))] ++ ([] ++ cs)) _ := (Sat.order [0, 1] (by decide) hs_2).cut 2
    refine .f rfl (.call ent140 rfl ((wlow_ok _ _ _ _ _ (bits) (x) (m) hA_1 (hx64) (hm) (hn)).mono fun r_2 w_3 h_2 => ?_))
    obtain ⟨rfl, wv_1, hp_2⟩ := h_2
    have hs_3 : Sat w0 ([cObj g 193 [wv_1, (.int .i64 ((bits ++ lowB (x) (m)).length : Nat))], cL wv_1 5 (encN .u8) (packB (bits ++ lowB (x) (m)))] ++ cs) _ := hp_2
    refine .nil <| .seq <| .region <| .s rfl rfl <| .nil <| .ret ?_
    show PostK _ _ _ _ _ _
    refine post1 rfl rfl ?_
    exact ⟨rfl, _, hs_3⟩
theorem wbytes_ok (g : Nat) (v : Value) (l : List Nat) (w : World) (hc : w.cell? ⟨g, 0, none⟩ = some v) (hv : RdL w v (encN .u8) l) (hn : l.length ≤ 1000000000000) :
    CallsV Tryz.prog 110 [(.pointer (some ⟨g, 0, none⟩))] w fun r w' => Sat w [cL r 5 (encN .u8) l] w' := by
  have hs0 := Sat.start w
  refine callsV_of Tryz.func110 rfl rfl ?_
  refine .seq <| .region <| .s rfl rfl <| .nil <| .seq <| .region <| .f rfl (.lit0 (encN .u8) sl22 hs0 fun v_1 w_1 hs_1 hch_1 => ?_)
  refine .m rfl rfl <| .e rfl (.nilCheck rfl) <| .e rfl (.fieldAddr fld193_0 rfl rfl) <| .e rfl (.fieldAddr fld160_0 rfl rfl) <| .e rfl (.load scal22 rfl (hs_1.ext _ _ hc)) <| .f rfl (.appendL 0 sl22 hs_1 rfl rfl rfl Tryz.underlying22 (hv.ext hs_1.ext) (by simp; omega) (by simp; omega) fun v_2 w_2 hs_2 hch_2 => ?_)
  refine .s rfl rfl <| .nil <| .ret ?_
  show PostK _ _ _ _ _ _
  refine post1 rfl rfl ?_
  exact hs_2
theorem wsize_ok (g m : Nat) (w : World) (hc : w.cell? ⟨g, 1, none⟩ = some (.int .i64 (m : Int))) :
    CallsV Tryz.prog 141 [(.pointer (some ⟨g, 0, none⟩))] w fun r w' => r = .int .i64 (m : Int) ∧ Sat w [] w' := by
  have hs0 := Sat.start w
  refine callsV_of Tryz.func141 rfl rfl ?_
  refine .seq <| .region <| .s rfl rfl <| .nil <| .seq <| .region <| .m rfl rfl <| .e rfl (.nilCheck rfl) <| .e rfl (.fieldAddr fld160_1 rfl rfl) <| .e rfl (.load scal3 rfl (hs0.ext _ _ hc)) <| .s rfl rfl <| .nil <| .ret ?_
  show PostK _ _ _ _ _ _
  refine post1 rfl rfl ?_
  exact ⟨rfl, hs0⟩
theorem wlen_ok (g m : Nat) (w : World) (hc : w.cell? ⟨g, 1, none⟩ = some (.int .i64 (m : Int))) :
    CallsV Tryz.prog 111 [(.pointer (some ⟨g, 0, none⟩))] w fun r w' => r = .int .i64 (m : Int) ∧ Sat w [] w' := by
  have hs0 := Sat.start w
  refine callsV_of Tryz.func111 rfl rfl ?_
  refine .seq <| .region <| .s rfl rfl <| .nil <| .seq <| .region <| .m rfl rfl <| .e rfl (.nilCheck rfl) <| .e rfl (.fieldAddr fld193_0 rfl rfl) <| .f rfl (.call ent141 rfl ((wsize_ok _ (m) _ (hs0.ext _ _ hc)).mono fun r_1 w_1 h_1 => ?_))
  obtain ⟨rfl, hp_1⟩ := h_1
  have hs_1 := hs0.adds hp_1
  refine .s rfl rfl <| .nil <| .ret ?_
  show PostK _ _ _ _ _ _
  refine post1 rfl rfl ?_
  exact ⟨rfl, hs_1⟩
end Go.Proofs.YtecfgjdpghddgaaGreat
namespace Go.Proofs.YtecfgjdpghddgaaGreat
open Go.RowKit Go.Kw
set_option maxRecDepth 100000
theorem bcheck_ok (v : Value) (l : List Nat) (w : World) (hv : RdL w v (encN .i64) l) (hn : l.length ≤ 128) (hb : ∀ x ∈ l, x ≤ 2147483647) :
    CallsV Tryz.prog 101 [v] w fun r w' => r = .int .i64 0 ∧ Sat w [] w' := by
  have hs0 := Sat.start w
  refine callsV_of Tryz.func101 rfl rfl ?_
  refine .seq <| .region <| .s rfl rfl <| .nil <| .seq <| .seq <| .region <| .m rfl rfl <| .e rfl (.lenL Tryz.underlying27 rfl (hv.ext hs0.ext)) <| .e rfl (.gtrN (b := 128) rfl rfl) <| .nil <| .condF rfl (decide_eq_false (by omega)) <| .skip <| .seq <| .seq <| .region <| .m rfl rfl <| .e rfl (.lenL Tryz.underlying27 rfl (hv.ext hs0.ext)) <| .m rfl rfl <| .nil <| .block <| .loop (α := Nat) (fun k => [(8, v), (9, (.int .i64 l.length)), (10, (.int .i64 k))]) (fun k w' => Sat w [] w' ∧ (k ≤ l.length)) (fun k => l.length - k) 0 ⟨rfl, rfl, rfl, trivial⟩ ⟨hs0, Nat.zero_le _⟩ ?_
  rintro k w_1 ⟨hs_1, hk⟩
  show CW _ _ _ _ [(8, v), (9, (.int .i64 l.length)), (10, (.int .i64 k))] _
  refine .seq <| .region <| .e rfl (.lssN rfl rfl) <| .nil <| .seq <| .condD rfl (fun hc_1 => ?_) (fun hc_1 => ?_)
  · refine .skip <| .seq <| .block <| .seq ?_
    obtain ⟨x, hx⟩ : ∃ x, (l)[k]? = some x := ⟨_, List.getElem?_eq_getElem hc_1⟩
    refine .region <| .e rfl (.idxL (E := encN .i64) sl27 rfl rfl (hv.ext hs_1.ext) (by omega)) <| .e rfl (.ldL (E := encN .i64) scal3 rfl (hv.ext hs_1.ext) hx (by decide) rfl) <| .s rfl rfl <| .nil <| .seq <| .mid (fun L' w' => Weak [(4, (.int .i64 x)), (8, v), (9, (.int .i64 l.length)), (10, (.int .i64 k)), (11, (.bool (decide (k < l.length)))), (19, (.bool (decide ((x < 0) ∨ (2147483647 < x)))))] L' ∧ Sat w [] w') ?_ ?_
    · refine .region <| .m rfl rfl <| .e rfl (.lssN (b := 0) rfl rfl) <| .m rfl rfl ?_
      by_cases hg_1 : x < 0
      · refine .no rfl rfl rfl (decide_eq_true hg_1) rfl <| .no rfl rfl rfl (decide_eq_true hg_1) rfl <| .e rfl (.pickY rfl (decide_eq_true hg_1) rfl) <| .nil ?_
        exact ⟨⟨rfl, rfl, rfl, rfl, rfl, congrArg some (congrArg Value.bool (by simp [hg_1])), trivial⟩, hs_1⟩
      · refine .yes rfl rfl rfl (decide_eq_false hg_1) <| .m rfl rfl <| .yes rfl rfl rfl (decide_eq_false hg_1) <| .e rfl (.gtrN (b := 2147483647) rfl rfl) <| .e rfl (.pickN rfl (decide_eq_false hg_1) rfl) <| .nil ?_
        exact ⟨⟨rfl, rfl, rfl, rfl, rfl, congrArg some (congrArg Value.bool (by simp [hg_1])), trivial⟩, hs_1⟩
    · rintro L' w_2 ⟨hw_1, hs_2⟩
      refine .weaken _ hw_1 <| .condF rfl (decide_eq_false (by have := hb x (mem_of_get hx); omega)) <| .skip <| .region <| .e rfl (.addI (b := 1) rfl rfl (by omega)) <| .m rfl rfl <| .nil ?_
      exact ⟨k + 1, ⟨rfl, rfl, rfl, trivial⟩, ⟨hs_2, by omega⟩, (show (l.length - (k + 1)) < (l.length - k) from by omega)⟩
  · refine .exit0 <| .seq <| .region <| .s rfl rfl <| .nil <| .ret ?_
    show PostK _ _ _ _ _ _
    refine post1 rfl rfl ?_
    exact ⟨rfl, hs_1⟩
theorem sizeOf_ok (x : Nat) (w : World) (hx : x < 2 ^ 63) :
    CallsV Tryz.prog 149 [(.int .i64 x)] w fun r w' => r = .int .i64 ((sizeN x : Nat) : Int) ∧ Sat w [] w' := by
  have hs0 := Sat.start w
  refine callsV_of Tryz.func149 rfl rfl ?_
  refine .seq <| .region <| .s rfl rfl <| .nil <| .seq ?_
  have hb := bitLen_le64 x
  refine .region <| .m rfl rfl <| .e rfl (.convK (by rw [Tryz.underlying3]; rfl) Tryz.underlying56 rfl (wrap_u rfl (by (try simp only [IntKind.bits]); omega))) <| .f rfl (.call ent97 rfl ((len64_ok (x) _ (by omega)).mono fun r_1 w_1 h_1 => ?_))
  obtain ⟨rfl, hp_1⟩ := h_1
  have hs_1 := hs0.adds hp_1
  refine .e rfl (.maxN (b := 1) rfl rfl) <| .e rfl (.addI (b := 6) rfl rfl (by omega)) <| .e rfl (.quo (b := 7) rfl rfl (by omega) (by unfold inI64; omega)) <| .s rfl rfl <| .nil <| .ret ?_
  show PostK _ _ _ _ _ _
  refine post1 rfl rfl ?_
  exact ⟨rfl, hs_1⟩
theorem cost_ok (v : Value) (l : List Nat) (width : Nat) (w : World) (hv : RdL w v (encN .i64) l) (hn : l.length ≤ 4096) (hb : ∀ x ∈ l, x < 2 ^ 63) (hw : width ≤ 31) :
    CallsV Tryz.prog 135 [v, (.int .i64 width)] w fun r w' => r = .int .i64 ((costB width l : Nat) : Int) ∧ Sat w [] w' := by
  have hs0 := Sat.start w
  refine callsV_of Tryz.func135 rfl rfl ?_
  refine .seq <| .region <| .s rfl rfl <| .nil <| .seq <| .region <| .s rfl rfl <| .s rfl rfl <| .s rfl rfl <| .nil <| .seq <| .seq <| .region <| .m rfl rfl <| .e rfl (.lenL Tryz.underlying27 rfl (hv.ext hs0.ext)) <| .m rfl rfl <| .nil <| .block <| .loop (α := Nat × Nat × Nat × Nat) (fun (k, n, c, b) => [(0, v), (1, (.int .i64 width)), (5, (.int .i64 n)), (6, (.int .i64 c)), (7, (.int .i64 ((((b : Nat) : Int) - 1)))), (11, v), (12, (.int .i64 l.length)), (13, (.int .i64 k))]) (fun (k, n, c, b) w' => Sat w [] w' ∧ (k ≤ l.length) ∧ (costSt width (l.take k) = (k, n, c, b)) ∧ (n ≤ 20 * k) ∧ (c ≤ k) ∧ (b ≤ k)) (fun (k, n, c, b) => l.length - k) (0, 0, 0, 0) ⟨rfl, rfl, rfl, rfl, rfl, rfl, rfl, rfl, trivial⟩ ⟨hs0, Nat.zero_le _, rfl, Nat.le_refl _, Nat.le_refl _, Nat.le_refl _⟩ ?_
  rintro ⟨k, n, c, b⟩ w_1 ⟨hs_1, hk, hst, hnb, hcb, hbb⟩
  show CW _ _ _ _ [(0, v), (1, (.int .i64 width)), (5, (.int .i64 n)), (6, (.int .i64 c)), (7, (.int .i64 ((((b : Nat) : Int) - 1)))), (11, v), (12, (.int .i64 l.length)), (13, (.int .i64 k))] _
  refine .seq <| .region <| .e rfl (.lssN rfl rfl) <| .nil <| .seq <| .condD rfl (fun hc_1 => ?_) (fun hc_1 => ?_)
  · refine .skip <| .seq <| .block <| .seq ?_
    obtain ⟨x, hx⟩ : ∃ x, (l)[k]? = some x := ⟨_, List.getElem?_eq_getElem hc_1⟩
    refine .region <| .m rfl rfl <| .e rfl (.idxL (E := encN .i64) sl27 rfl rfl (hv.ext hs_1.ext) (by omega)) <| .e rfl (.ldL (E := encN .i64) scal3 rfl (hv.ext hs_1.ext) hx (by decide) rfl) <| .s rfl rfl <| .s rfl rfl <| .nil <| .seq ?_
    have hx64 := hb x (mem_of_get hx)
    have hxd := Nat.div_le_self x (2 ^ width)
    refine .region <| .m rfl rfl <| .m rfl rfl <| .e rfl (.shrN rfl rfl (by (try simp only [IntKind.bits]); omega)) <| .s rfl rfl <| .nil <| .seq <| .region <| .m rfl rfl <| .e rfl (.gtrN (b := 0) rfl rfl) <| .nil <| .condD rfl (fun hc_2 => ?_) (fun hc_2 => ?_)
    · refine .seq ?_
      have h8 := sizeN_le (k + 1 - b)
      have h9 := sizeN_le (x / 2 ^ width)
      refine .region <| .m rfl rfl <| .m rfl rfl <| .m rfl rfl <| .e rfl (.subPred rfl rfl (by omega) (by omega)) <| .f rfl (.call ent149 rfl ((sizeOf_ok ((k + 1 - b)) _ (by omega)).mono fun r_1 w_2 h_1 => ?_))
      obtain ⟨rfl, hp_1⟩ := h_1
      have hs_2 := hs_1.adds hp_1
      refine .m rfl rfl <| .f rfl (.call ent149 rfl ((sizeOf_ok ((x / 2 ^ width)) _ (by omega)).mono fun r_2 w_3 h_2 => ?_))
      obtain ⟨rfl, hp_2⟩ := h_2
      have hs_3 := hs_2.adds hp_2
      refine .e rfl (.addI rfl rfl (by omega)) <| .e rfl (.addI rfl rfl (by omega)) <| .s rfl rfl <| .nil <| .seq <| .region <| .m rfl rfl <| .s rfl rfl <| .nil <| .region <| .m rfl rfl <| .e rfl (.addI (b := 1) rfl rfl (by omega)) <| .s rfl rfl <| .nil <| .region <| .e rfl (.addI (b := 1) rfl rfl (by omega)) <| .m rfl rfl <| .nil ?_
      exact ⟨(k + 1, (n + ((sizeN ((k + 1 - b))) + (sizeN ((x / 2 ^ width))))), (c + 1), k + 1), ⟨rfl, rfl, rfl, rfl, congrArg some (congrArg (Value.int .i64) (by omega)), rfl, rfl, rfl, trivial⟩, ⟨hs_3, by omega, by rw [take_succ_of hx, costSt_snoc, hst]; simp [costStep, hc_2], by have h8 := sizeN_le (k + 1 - b); have h9 := sizeN_le (x / 2 ^ width); omega, by omega, by omega⟩, (show (l.length - (k + 1)) < (l.length - k) from by omega)⟩
    · refine .skip <| .region <| .e rfl (.addI (b := 1) rfl rfl (by omega)) <| .m rfl rfl <| .nil ?_
      exact ⟨(k + 1, n, c, b), ⟨rfl, rfl, rfl, rfl, rfl, rfl, rfl, rfl, trivial⟩, ⟨hs_1, by omega, by rw [take_succ_of hx, costSt_snoc, hst]; simp [costStep, hc_2], by have h8 := sizeN_le (k + 1 - b); have h9 := sizeN_le (x / 2 ^ width); omega, by omega, by omega⟩, (show (l.length - (k + 1)) < (l.length - k) from by omega)⟩
  · refine .exit0 <| .seq ?_
    have hmul : l.length * width ≤ 4096 * 31 := Nat.mul_le_mul hn hw
    have h1 := sizeN_le l.length
    have h2 := sizeN_le width
    have h3 := sizeN_le c
    refine .region <| .m rfl rfl <| .m rfl rfl <| .e rfl (.lenL Tryz.underlying27 rfl (hv.ext hs_1.ext)) <| .f rfl (.call ent149 rfl ((sizeOf_ok (l.length) _ (by omega)).mono fun r_3 w_4 h_3 => ?_))
    obtain ⟨rfl, hp_3⟩ := h_3
    have hs_4 : Sat w [] _ := hs_1.adds hp_3
    refine .e rfl (.addI rfl rfl (by omega)) <| .m rfl rfl <| .f rfl (.call ent149 rfl ((sizeOf_ok (width) _ (by omega)).mono fun r_4 w_5 h_4 => ?_))
    obtain ⟨rfl, hp_4⟩ := h_4
    have hs_5 := hs_4.adds hp_4
    refine .e rfl (.addI rfl rfl (by omega)) <| .m rfl rfl <| .f rfl (.call ent149 rfl ((sizeOf_ok (c) _ (by omega)).mono fun r_5 w_6 h_5 => ?_))
    obtain ⟨rfl, hp_5⟩ := h_5
    have hs_6 := hs_5.adds hp_5
    refine .e rfl (.addI rfl rfl (by omega)) <| .m rfl rfl <| .e rfl (.lenL Tryz.underlying27 rfl (hv.ext hs_6.ext)) <| .m rfl rfl <| .e rfl (.mulI rfl rfl (by omega)) <| .e rfl (.addI (b := 7) rfl rfl (by omega)) <| .e rfl (.quo (b := 8) rfl rfl (by omega) (by unfold inI64; omega)) <| .e rfl (.addI rfl rfl (by omega)) <| .s rfl rfl <| .nil <| .ret ?_
    show PostK _ _ _ _ _ _
    refine post1 rfl rfl ?_
    have hk2 : k = l.length := by omega
    refine ⟨?_, hs_6⟩
    unfold costB
    rw [show costSt width l = (k, n, c, b) by rw [← hst, hk2, List.take_length]]
theorem encode_ok (v : Value) (l : List Nat) (width : Nat) (w : World) (hv : RdL w v (encN .i64) l) (hn : l.length ≤ 4096) (hb : ∀ x ∈ l, x < 2 ^ 63) (hw : width ≤ 31) :
    CallsV Tryz.prog 102 [v, (.int .i64 width)] w fun r w' => Sat w [cL r 5 (encN .u8) (encBk width l)] w' := by
  have hs0 := Sat.start w
  refine callsV_of Tryz.func102 rfl rfl ?_
  refine .seq <| .region <| .s rfl rfl <| .nil <| .seq <| .region <| .f rfl (.call ent108 rfl ((newWriter_ok _).mono fun r_1 w_1 h_1 => ?_))
  obtain ⟨b_1, rfl, hp_1⟩ := h_1
  have hs_1 := hs0.adds hp_1
  refine .s rfl rfl <| .nil <| .seq <| .region <| .s rfl rfl <| .nil <| .seq <| .region <| .s rfl rfl <| .s rfl rfl <| .nil <| .seq <| .seq <| .region <| .m rfl rfl <| .e rfl (.lenL Tryz.underlying27 rfl (hv.ext hs_1.ext)) <| .m rfl rfl <| .nil <| .block ?_
  have hs_2 := hs_1.newNilL 5 (encN .u8)
  refine .loop (α := Nat × Value × List Bool × Value × List Nat × Nat × Nat) (fun (k, wv, bits, ev, ex, c, b) => [(0, v), (1, (.int .i64 width)), (5, (.pointer (some ⟨b_1, 0, none⟩))), (6, ev), (7, (.int .i64 c)), (8, (.int .i64 ((((b : Nat) : Int) - 1)))), (14, v), (15, (.int .i64 l.length)), (16, (.int .i64 k))]) (fun (k, wv, bits, ev, ex, c, b) w' => Sat w [cObj b_1 193 [wv, (.int .i64 ((bits).length : Nat))], cL wv 5 (encN .u8) (packB (bits)), cL ev 5 (encN .u8) (ex)] w' ∧ (k ≤ l.length) ∧ (encSt width (l.take k) = (k, bits, ex, c, b)) ∧ (bits.length ≤ 31 * k) ∧ (ex.length ≤ 20 * k) ∧ (c ≤ k) ∧ (b ≤ k)) (fun (k, wv, bits, ev, ex, c, b) => l.length - k) (0, (.slice none 0 0), [], (.slice none 0 0), [], 0, 0) ⟨rfl, rfl, rfl, rfl, rfl, rfl, rfl, rfl, rfl, trivial⟩ ⟨hs_2, Nat.zero_le _, rfl, by simp, by simp, Nat.le_refl _, Nat.le_refl _⟩ ?_
  rintro ⟨k, wv, bits, ev, ex, c, b⟩ w_2 ⟨hs_3, hk, hst, hbl, hel, hcb, hbb⟩
  show CW _ _ _ _ [(0, v), (1, (.int .i64 width)), (5, (.pointer (some ⟨b_1, 0, none⟩))), (6, ev), (7, (.int .i64 c)), (8, (.int .i64 ((((b : Nat) : Int) - 1)))), (14, v), (15, (.int .i64 l.length)), (16, (.int .i64 k))] _
  refine .seq <| .region <| .e rfl (.lssN rfl rfl) <| .nil <| .seq <| .condD rfl (fun hc_1 => ?_) (fun hc_1 => ?_)
  · refine .skip <| .seq <| .block <| .seq ?_
    obtain ⟨x, hx⟩ : ∃ x, (l)[k]? = some x := ⟨_, List.getElem?_eq_getElem hc_1⟩
    refine .region <| .m rfl rfl <| .e rfl (.idxL (E := encN .i64) sl27 rfl rfl (hv.ext hs_3.ext) (by omega)) <| .e rfl (.ldL (E := encN .i64) scal3 rfl (hv.ext hs_3.ext) hx (by decide) rfl) <| .s rfl rfl <| .s rfl rfl <| .nil <| .seq ?_
    have hx64 := hb x (mem_of_get hx)
    have hxd := Nat.div_le_self x (2 ^ width)
    have hp1 : 1 ≤ 2 ^ width := Nat.one_le_two_pow
    have hp2 : 2 ^ width ≤ 2 ^ 31 := Nat.pow_le_pow_right (by decide) hw
    refine .region <| .m rfl rfl <| .m rfl rfl <| .e rfl (.convK (by rw [Tryz.underlying3]; rfl) Tryz.underlying56 rfl (wrap_u rfl (by (try simp only [IntKind.bits]); omega))) <| .m rfl rfl <| .e rfl (.shlN (a := 1) rfl rfl rfl (by (try simp only [IntKind.bits]); omega)) <| .e rfl (.subN (b := 1) rfl rfl rfl (by (try simp only [IntKind.bits]); omega) (by (try simp only [IntKind.bits]); omega)) <| .e rfl (.maskN (width) rfl rfl rfl (by simp only [IntKind.bits]; rw [Nat.one_mul, Nat.mod_eq_of_lt (by omega)]) (by simp only [IntKind.bits]; omega) (by simp only [IntKind.bits]; omega)) <| .m rfl rfl ?_
    have hA_1 : Sat w ([cObj b_1 193 [wv, (.int .i64 ((bits).length : Nat))], cL wv 5 (encN .u8) (packB (bits))] ++ ([cL ev 5 (encN .u8) (ex)] ++ [])) _ := (Sat.order [0, 1, 2] (by decide) hs_3.tail).cut 2
    refine .f rfl (.call ent109 rfl ((wbits_ok _ _ _ _ _ (bits) ((x % 2 ^ width)) (width) hA_1 (Nat.mod_lt _ (by omega)) (by omega) (by omega)).mono fun r_2 w_3 h_2 => ?_))
    obtain ⟨rfl, wv_1, hp_2⟩ := h_2
    have hs_4 : Sat w [cObj b_1 193 [wv_1, (.int .i64 ((bits ++ lowB ((x % 2 ^ width)) (width)).length : Nat))], cL wv_1 5 (encN .u8) (packB (bits ++ lowB ((x % 2 ^ width)) (width))), cL ev 5 (encN .u8) (ex)] _ := (Sat.order [0, 1, 2] (by decide) hp_2.join).untail
    refine .nil <| .seq <| .region <| .m rfl rfl <| .m rfl rfl <| .e rfl (.shrN rfl rfl (by (try simp only [IntKind.bits]); omega)) <| .s rfl rfl <| .nil <| .seq <| .region <| .m rfl rfl <| .e rfl (.gtrN (b := 0) rfl rfl) <| .nil <| .condD rfl (fun hc_2 => ?_) (fun hc_2 => ?_)
    · refine .seq <| .region <| .m rfl rfl <| .m rfl rfl <| .m rfl rfl <| .e rfl (.subPred rfl rfl (by omega) (by omega)) <| .e rfl (.convK (by rw [Tryz.underlying3]; rfl) Tryz.underlying56 rfl (wrap_u rfl (by (try simp only [IntKind.bits]); omega))) <| .f rfl (.call ent39 rfl ((put_ok ev (ex) ((k + 1 - b)) _ (hs_4.rdL 2 rfl) (by omega) (by omega)).mono fun r_3 w_4 h_3 => ?_))
      have hp_3 := h_3
      have hs_5 := hs_4.adds hp_3
      refine .s rfl rfl <| .nil <| .seq <| .region <| .m rfl rfl <| .m rfl rfl <| .e rfl (.convK (by rw [Tryz.underlying3]; rfl) Tryz.underlying56 rfl (wrap_u rfl (by (try simp only [IntKind.bits]); omega))) <| .f rfl (.call ent39 rfl ((put_ok r_3 (ex ++ uv ((k + 1 - b))) ((x / 2 ^ width)) _ (hs_5.rdL 3 rfl) (by have h8 := uv_le (k + 1 - b); simp only [List.length_append]; omega) (by omega)).mono fun r_4 w_5 h_4 => ?_))
      have hp_4 := h_4
      have hs_6 := hs_5.adds hp_4
      refine .s rfl rfl <| .nil <| .seq <| .region <| .m rfl rfl <| .s rfl rfl <| .nil <| .weaken [(0, _), (1, _), (5, _), (6, _), (7, _), (8, _), (9, _), (10, _), (11, _), (14, _), (15, _), (16, _), (17, _), (34, _)] ⟨rfl, rfl, rfl, rfl, rfl, rfl, rfl, rfl, rfl, rfl, rfl, rfl, rfl, rfl, trivial⟩ <| .region <| .m rfl rfl <| .e rfl (.addI (b := 1) rfl rfl (by omega)) <| .s rfl rfl <| .nil <| .region <| .e rfl (.addI (b := 1) rfl rfl (by omega)) <| .m rfl rfl <| .nil ?_
      have hs_7 : Sat w [_, _, _] w_5 := hs_6.sub ((.cons_cons _ (.cons_cons _ (.cons _ (.cons _ (.cons_cons _ .slnil))))))
      exact ⟨(k + 1, wv_1, bits ++ lowB ((x % 2 ^ width)) (width), r_4, ex ++ uv ((k + 1 - b)) ++ uv ((x / 2 ^ width)), (c + 1), k + 1), ⟨rfl, rfl, rfl, rfl, rfl, congrArg some (congrArg (Value.int .i64) (by omega)), rfl, rfl, rfl, trivial⟩, ⟨hs_7, by omega, by rw [take_succ_of hx, encSt_snoc, hst]; simp [encStep, hc_2], by simp only [List.length_append, lowB_length]; omega, by have h8 := uv_le (k + 1 - b); have h9 := uv_le (x / 2 ^ width); (try simp only [List.length_append]); omega, by omega, by omega⟩, (show (l.length - (k + 1)) < (l.length - k) from by omega)⟩
    · refine .skip <| .region <| .e rfl (.addI (b := 1) rfl rfl (by omega)) <| .m rfl rfl <| .nil ?_
      exact ⟨(k + 1, wv_1, bits ++ lowB ((x % 2 ^ width)) (width), ev, ex, c, b), ⟨rfl, rfl, rfl, rfl, rfl, rfl, rfl, rfl, rfl, trivial⟩, ⟨hs_4, by omega, by rw [take_succ_of hx, encSt_snoc, hst]; simp [encStep, hc_2], by simp only [List.length_append, lowB_length]; omega, by have h8 := uv_le (k + 1 - b); have h9 := uv_le (x / 2 ^ width); (try simp only [List.length_append]); omega, by omega, by omega⟩, (show (l.length - (k + 1)) < (l.length - k) from by omega)⟩
  · refine .exit0 <| .seq ?_
    have hpl := packB_length bits
    have h1 := uv_le l.length
    have h2 := uv_le width
    have h3 := uv_le c
    refine .region <| .m rfl rfl <| .e rfl (.lenL Tryz.underlying27 rfl (hv.ext hs_3.ext)) <| .e rfl (.convK (by rw [Tryz.underlying3]; rfl) Tryz.underlying56 rfl (wrap_u rfl (by (try simp only [IntKind.bits]); omega))) <| .f rfl (.call ent39 rfl ((put_ok (Value.slice none 0 0) ([]) (l.length) _ (RdL.nil _ _) (by simp) (by omega)).mono fun r_5 w_6 h_5 => ?_))
    have hp_5 := h_5
    have hs_8 := hs_3.adds hp_5
    refine .s rfl rfl <| .nil <| .seq <| .region <| .m rfl rfl <| .m rfl rfl <| .e rfl (.convK (by rw [Tryz.underlying3]; rfl) Tryz.underlying56 rfl (wrap_u rfl (by (try simp only [IntKind.bits]); omega))) <| .f rfl (.call ent39 rfl ((put_ok r_5 (uv (l.length)) (width) _ (hs_8.rdL 3 rfl) (by omega) (by omega)).mono fun r_6 w_7 h_6 => ?_))
    have hp_6 := h_6
    have hs_9 := hs_8.adds hp_6
    refine .s rfl rfl <| .nil <| .seq <| .region <| .m rfl rfl <| .m rfl rfl <| .e rfl (.convK (by rw [Tryz.underlying3]; rfl) Tryz.underlying56 rfl (wrap_u rfl (by (try simp only [IntKind.bits]); omega))) <| .f rfl (.call ent39 rfl ((put_ok r_6 (uv (l.length) ++ uv (width)) (c) _ (hs_9.rdL 4 rfl) (by simp only [List.length_append]; omega) (by omega)).mono fun r_7 w_8 h_7 => ?_))
    have hp_7 := h_7
    have hs_10 : Sat w [_, _, _, _, _, cL r_7 5 (encN .u8) (uv (l.length) ++ uv (width) ++ uv (c))] _ := hs_9.adds hp_7
    refine .s rfl rfl <| .nil <| .seq <| .region <| .m rfl rfl <| .m rfl rfl <| .f rfl (.call ent110 rfl ((wbytes_ok _ _ (packB (bits)) _ (hs_10.cell (i := 0) (j := 0) rfl rfl) (hs_10.rdL 1 rfl) (by omega)).mono fun r_8 w_9 h_8 => ?_))
    have hp_8 := h_8
    have hs_11 := hs_10.adds hp_8
    refine .f rfl (.appendL 5 sl22 hs_11 rfl rfl rfl Tryz.underlying22 (hs_11.rdL 6 rfl) (by simp only [List.length_append]; omega) (by simp only [List.length_append]; omega) fun v_1 w_10 hs_12 hch_1 => ?_)
    refine .m rfl rfl <| .f rfl (.appendL 5 sl22 hs_12 rfl rfl rfl Tryz.underlying22 (hs_12.rdL 2 rfl) (by simp only [List.length_append]; omega) (by simp only [List.length_append]; omega) fun v_2 w_11 hs_13 hch_2 => ?_)
    have hs_13d : Sat w [_, _, _, _, _, cL v_2 5 (encN .u8) (uv (l.length) ++ uv (width) ++ uv (c) ++ packB (bits) ++ ex), _] _ := hs_13
    refine .s rfl rfl <| .nil <| .ret ?_
    show PostK _ _ _ _ _ _
    refine post1 rfl rfl ?_
    have hs_14 : Sat w [_] w_11 := hs_13d.sub ((.cons _ (.cons _ (.cons _ (.cons _ (.cons _ (.cons_cons _ (.cons _ .slnil))))))))
    have hs_15 : Sat w [cL v_2 5 (encN .u8) (encBk width l)] w_11 := by
      have hq : uv (l.length) ++ uv (width) ++ uv (c) ++ packB (bits) ++ ex = encBk width l := by unfold encBk; rw [show encSt width l = (k, bits, ex, c, b) by rw [← hst, show k = l.length by omega, List.take_length]]
      rw [← hq]; exact hs_14
    exact hs_15
theorem best_ok (v : Value) (l : List Nat) (w : World) (hv : RdL w v (encN .i64) l) (hn : l.length ≤ 4096) (hb : ∀ x ∈ l, x < 2 ^ 63) :
    CallsV Tryz.prog 103 [v] w fun r w' => r = .int .i64 ((bestW l 32 : Nat) : Int) ∧ Sat w [] w' := by
  have hs0 := Sat.start w
  refine callsV_of Tryz.func103 rfl rfl ?_
  refine .seq <| .region <| .s rfl rfl <| .nil <| .seq <| .region <| .f rfl (.alloc hs0 zero187 fun b_1 w_1 hs_1 hch_1 hb_1 => ?_)
  refine .nil <| .seq <| .region <| .s rfl rfl <| .nil <| .seq <| .seq <| .region <| .m rfl rfl <| .nil <| .block ?_
  have hs_2 : Sat w [cObj b_1 187 ((encN .i64).all (List.replicate 32 0))] w_1 := hs_1
  refine .loop (α := Nat × Nat × List Nat) (fun (k, bw, cl) => [(0, v), (3, (.pointer (some ⟨b_1, 0, none⟩))), (4, (.int .i64 bw)), (6, (.int .i64 k))]) (fun (k, bw, cl) w' => Sat w [cObj b_1 187 ((encN .i64).all (cl))] w' ∧ (k ≤ 32) ∧ (cl.length = 32) ∧ (∀ i, i < k → cl[i]? = some (costB i l)) ∧ (bw = bestW l k)) (fun (k, bw, cl) => 32 - k) (0, 0, List.replicate 32 0) ⟨rfl, rfl, rfl, rfl, trivial⟩ ⟨hs_2, by omega, by simp, fun i hi => absurd hi (by omega), rfl⟩ ?_
  rintro ⟨k, bw, cl⟩ w_2 ⟨hs_3, hk, hlen, hcl, hbw⟩
  show CW _ _ _ _ [(0, v), (3, (.pointer (some ⟨b_1, 0, none⟩))), (4, (.int .i64 bw)), (6, (.int .i64 k))] _
  refine .seq <| .region <| .e rfl (.lssN (b := 32) rfl rfl) <| .nil <| .seq <| .condD rfl (fun hc_1 => ?_) (fun hc_1 => ?_)
  · refine .skip <| .seq <| .block <| .seq <| .region <| .m rfl rfl <| .s rfl rfl <| .nil <| .seq <| .region <| .m rfl rfl <| .m rfl rfl <| .m rfl rfl <| .f rfl (.call ent135 rfl ((cost_ok _ (l) (k) _ (hv.ext hs_3.ext) (hn) (hb) (by omega)).mono fun r_1 w_3 h_1 => ?_))
    obtain ⟨rfl, hp_1⟩ := h_1
    have hs_4 := hs_3.adds hp_1
    refine .e rfl (.idxArr arr187 rfl rfl (by omega)) <| .f rfl (.setArr (E := encN .i64) (a := (costB (k) (l))) 0 one3 hs_4 rfl rfl rfl rfl (by omega) fun w_4 hs_5 hch_2 => ?_)
    refine .nil <| .seq ?_
    have hget1 : (cl.set k (costB (k) (l)))[k]? = some (costB k l) := by rw [List.getElem?_set_self (by omega)]
    have hget2 : (cl.set k (costB (k) (l)))[bw]? = some (costB bw l) := by
      by_cases hkb : bw = k
      · rw [hkb]; exact hget1
      · rw [List.getElem?_set_ne (fun h => hkb h.symm)]; exact hcl bw (by have := bestW_le l k; omega)
    refine .drawS hs_5 (.free 0 (.free 1 (.free 2 (.free 3 (.free 4 (.free 5 (.free 6 .fin))))))) mixed (by kernel_rfl) ?_
    have hs_6 := hs_5.drew
    refine .m rfl rfl hs_6 <| .e rfl (fun w' hS' => .idxArr arr187 rfl rfl (by omega)) hs_6 <| .e rfl (fun w' hS' => .load scal3 rfl (hS'.cellArr (E := encN .i64) 0 rfl hget1 (by decide) rfl)) hs_6 <| .m rfl rfl hs_6 <| .e rfl (fun w' hS' => .idxArr arr187 rfl rfl (by have := bestW_le l k; omega)) hs_6 <| .e rfl (fun w' hS' => .load scal3 rfl (hS'.cellArr (E := encN .i64) 0 rfl hget2 (by decide) rfl)) hs_6 <| .e rfl (fun w' hS' => .lssN rfl rfl) hs_6 <| .fin <| .condD rfl (fun hc_2 => ?_) (fun hc_2 => ?_)
    · refine .region <| .m rfl rfl <| .s rfl rfl <| .nil <| .region <| .e rfl (.addI (b := 1) rfl rfl (by omega)) <| .m rfl rfl <| .nil ?_
      exact ⟨(k + 1, k, cl.set k (costB (k) (l))), ⟨rfl, rfl, rfl, rfl, trivial⟩, ⟨hs_6, by omega, by simp [hlen], fun i hi => by
      by_cases hik : i = k
      · rw [hik]; exact hget1
      · rw [List.getElem?_set_ne (fun h => hik h.symm)]; exact hcl i (by omega), by rw [bestW, ← hbw]; simp [hc_2]⟩, (show (32 - (k + 1)) < (32 - k) from by omega)⟩
    · refine .skip <| .region <| .e rfl (.addI (b := 1) rfl rfl (by omega)) <| .m rfl rfl <| .nil ?_
      exact ⟨(k + 1, bw, cl.set k (costB (k) (l))), ⟨rfl, rfl, rfl, rfl, trivial⟩, ⟨hs_6, by omega, by simp [hlen], fun i hi => by
      by_cases hik : i = k
      · rw [hik]; exact hget1
      · rw [List.getElem?_set_ne (fun h => hik h.symm)]; exact hcl i (by omega), by rw [bestW, ← hbw]; simp [hc_2]⟩, (show (32 - (k + 1)) < (32 - k) from by omega)⟩
  · refine .exit0 <| .seq <| .region <| .m rfl rfl <| .s rfl rfl <| .nil <| .ret ?_
    show PostK _ _ _ _ _ _
    refine post1 rfl rfl ?_
    have hs_7 : Sat w [] w_2 := hs_3.sub ((.cons _ .slnil))
    rw [show k = 32 by omega] at hbw
    rw [← hbw]
    exact ⟨rfl, hs_7⟩
theorem pack_ok (v : Value) (l : List Nat) (w : World) (hv : RdL w v (encN .i64) l) (hn : l.length ≤ 128) (hb : ∀ x ∈ l, x ≤ 2147483647) :
    CallsV Tryz.prog 66 [v] w fun r w' => ∃ v', r = .tuple #[v', .int .i64 0] ∧ Sat w [cL v' 5 (encN .u8) (packBk l)] w' := by
  have hs0 := Sat.start w
  refine callsV_of Tryz.func66 rfl rfl ?_
  refine .seq ?_
  have hb2 : ∀ x ∈ l, x < 2 ^ 63 := fun x hx => by have := hb x hx; omega
  refine .region <| .s rfl rfl <| .s rfl rfl <| .nil <| .seq <| .seq <| .region <| .m rfl rfl <| .f rfl (.call ent101 rfl ((bcheck_ok _ (l) _ (hv.ext hs0.ext) (hn) (hb)).mono fun r_1 w_1 h_1 => ?_))
  obtain ⟨rfl, hp_1⟩ := h_1
  have hs_1 := hs0.adds hp_1
  refine .s rfl rfl <| .nil <| .seq <| .region <| .m rfl rfl <| .e rfl (.neqN (a := 0) (b := 0) rfl rfl) <| .nil <| .condF rfl (rfl) <| .skip <| .seq <| .region <| .m rfl rfl <| .m rfl rfl <| .f rfl (.call ent103 rfl ((best_ok _ (l) _ (hv.ext hs_1.ext) (by omega) (hb2)).mono fun r_2 w_2 h_2 => ?_))
  obtain ⟨rfl, hp_2⟩ := h_2
  have hs_2 := hs_1.adds hp_2
  refine .f rfl (.call ent102 rfl ((encode_ok _ (l) ((bestW (l) 32)) _ (hv.ext hs_2.ext) (by omega) (hb2) (by have := bestW_le l 32; omega)).mono fun r_3 w_3 h_3 => ?_))
  have hp_3 := h_3
  have hs_3 : Sat w [cL r_3 5 (encN .u8) (encBk ((bestW (l) 32)) (l))] _ := hs_2.adds hp_3
  refine .s rfl rfl <| .s rfl rfl <| .nil <| .ret ?_
  show PostK _ _ _ _ _ _
  refine post2 rfl rfl rfl ?_
  exact ⟨_, rfl, hs_3⟩
end Go.Proofs.YtecfgjdpghddgaaGreat
