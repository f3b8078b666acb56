/- The walks of the functions of F16t, printed by our own program (kwgen.py) out of our descriptions (base.py). -/
import Derived.Test.YtecfgjdpghddgaaGreatF16p
import Derived.Test.YtecfgjdpghddgaaGreatF14d
import Derived.Test.YtecfgjdpghddgaaGreatKu
import Derived.Test.YtecfgjdpghddgaaGreatTab
set_option linter.unusedVariables false
set_option linter.unusedSimpArgs false
set_option linter.unusedSectionVars false
namespace Go.Proofs.YtecfgjdpghddgaaGreat
open Go.RowKit Go.Kw
set_option maxRecDepth 100000
theorem arr4_81 : arr4B Tryz.prog 81 = true := by kernel_rfl
theorem unseal_ok (v : Value) (b : List Nat) (w : World) (hv : RdL w v (encN .u8) b) (hb : ∀ x ∈ b, x < 256) (hn : b.length ≤ 1000000000) (h4 : 4 ≤ b.length) (hsum : byts (sumN (b.take (b.length - 4))) = b.drop (b.length - 4)) :
    CallsV Tryz.prog 18 [v] w fun r w' => ∃ v', r = .tuple #[v', .int .i64 ((0 : Nat) : Int)] ∧ Sat w [cL v' 5 (encN .u8) (b.take (b.length - 4))] w' := by
  have hs0 := Sat.start w
  refine callsV_of Tryz.func18 rfl rfl ?_
  refine .seq <| .region <| .s rfl rfl <| .s rfl rfl <| .nil <| .seq <| .seq <| .region <| .m rfl rfl <| .e rfl (.lenL Tryz.underlying22 rfl (hv.ext hs0.ext)) <| .e rfl (.lssN (b := 4) rfl rfl) <| .nil <| .condF rfl (decide_eq_false (by omega)) <| .skip <| .seq <| .region <| .m rfl rfl <| .e rfl (.lenL Tryz.underlying22 rfl (hv.ext hs0.ext)) <| .e rfl (.subI (b := 4) rfl rfl (by omega) (by omega)) <| .s rfl rfl <| .nil <| .seq <| .seq <| .draw (fun w' => Sat w [] w') (.free 0 (.free 1 (.free 2 (.free 5 (.free 6 (.free 7 (.two 3 8 (.two 4 8 (.one 8 (.free 9 (.free 10 .fin))) (.free 9 (.one 4 (.free 10 .fin)))) (.free 9 (.one 3 (.one 4 (.free 10 .fin))))))))))) mixed (by kernel_rfl) ?_
  have hs_1 := hs0.drew
  refine .m rfl rfl hs_1 <| .m rfl rfl hs_1 <| .e rfl (fun w' hS' => .sliceL (E := encN .u8) (a := 0) (c := (b.length - 4)) sl22 rfl (hv.ext hS'.ext) rfl ⟨_, rfl⟩ (Nat.zero_le _) (by omega)) hs_1 <| .m rfl rfl hs_1 <| .m rfl rfl hs_1 <| .e rfl (fun w' hS' => .sliceL (E := encN .u8) (a := (b.length - 4)) (c := (b).length) sl22 rfl (hv.ext hS'.ext) ⟨_, rfl⟩ rfl (by omega) (Nat.le_refl _)) hs_1 <| .two rfl rfl rfl rfl rfl rfl (OpE.call ent42 rfl ((sum_ok _ (((b).take (b.length - 4)).drop 0) _ (((hv.ext hs_1.ext)).sub (a := 0) (b := (b.length - 4)) (Nat.zero_le _) (by omega)) (fun x hx => hb x (List.mem_of_mem_take (List.mem_of_mem_drop hx))) (by simp; omega)).mono fun r_1 w_1 h_1 => ?_)) (OpE.ev (Ev.toArr (E := encN .u8) Tryz.underlying81 rfl (((hv.ext hs_1.ext)).sub (a := (b.length - 4)) (b := (b).length) (by omega) (Nat.le_refl _)) (by simp; omega)) ⟨hs_1, ?_⟩)
  · obtain ⟨rfl, hp_1⟩ := h_1
    have hs_2 := hs_1.adds hp_1
    have hS_1 : Sat w [] _ := hs_2.sub (.slnil)
    refine ⟨hS_1, ?_⟩
    refine .two rfl rfl rfl rfl rfl rfl (OpE.call ent41 rfl ((bytesOf_ok ((sumN (((b).take (b.length - 4)).drop 0))) _ (sumN_lt (fun x hx => hb x (List.mem_of_mem_take (List.mem_of_mem_drop hx))))).mono fun r_2 w_2 h_2 => ?_)) (OpE.ev (Ev.toArr (E := encN .u8) Tryz.underlying81 rfl (((hv.ext hs_2.ext)).sub (a := (b.length - 4)) (b := (b).length) (by omega) (Nat.le_refl _)) (by simp; omega)) ⟨hS_1, ?_⟩)
    · obtain ⟨rfl, hp_2⟩ := h_2
      have hs_3 := hs_2.adds hp_2
      have hS_2 : Sat w [] _ := hs_3.sub (.slnil)
      refine ⟨hS_2, ?_⟩
      refine .f rfl (.ev (Ev.toArr (E := encN .u8) Tryz.underlying81 rfl (((hv.ext hs_3.ext)).sub (a := (b.length - 4)) (b := (b).length) (by omega) (Nat.le_refl _)) (by simp; omega)) ⟨hS_2, ?_⟩)
      refine .e rfl (fun w' hS' => .ldArr (E := encN .u8) agg81 rfl (((hv.ext hS'.ext)).sub (a := (b.length - 4)) (b := (b).length) (by omega) (Nat.le_refl _)) (by show _ * 1 = _; simp; omega) (by decide)) hS_2 <| .e rfl (fun w' hS' => .neqArr4 arr4_81 (rfl) (by simp; omega) rfl rfl) hS_2 <| .fin <| .condF rfl (decide_eq_false (fun h => h (by rw [List.drop_zero, List.take_length]; exact hsum))) <| .skip <| .seq <| .region <| .f rfl (.lit0 (encN .u8) sl22 hs_3 fun v_1 w_3 hs_4 hch_1 => ?_)
      refine .m rfl rfl <| .m rfl rfl <| .e rfl (.sliceL (E := encN .u8) (a := 0) (c := (b.length - 4)) sl22 rfl (hv.ext hs_4.ext) rfl ⟨_, rfl⟩ (Nat.zero_le _) (by omega)) <| .f rfl (.appendL 0 sl22 hs_4 rfl rfl rfl Tryz.underlying22 (((hv.ext hs_4.ext)).sub (a := 0) (b := (b.length - 4)) (Nat.zero_le _) (by omega)) (by simp; omega) (by simp; omega) fun v_2 w_4 hs_5 hch_2 => ?_)
      refine .s rfl rfl <| .s rfl rfl <| .nil <| .ret ?_
      show PostK _ _ _ _ _ _
      refine post2 rfl rfl rfl ?_
      have hs_6 : Sat w [_] w_4 := hs_5.sub ((.cons_cons _ .slnil))
      have hs_7 : Sat w [cL v_2 5 (encN .u8) (b.take (b.length - 4))] w_4 := by
        have hq : ((b).take (b.length - 4)).drop 0 = b.take (b.length - 4) := by simp
        rw [← hq]; exact hs_6
      exact ⟨_, rfl, hs_7⟩
    · refine .e rfl (fun w' hS' => .ldArr (E := encN .u8) agg81 rfl (((hv.ext hS'.ext)).sub (a := (b.length - 4)) (b := (b).length) (by omega) (Nat.le_refl _)) (by show _ * 1 = _; simp; omega) (by decide)) hS_1 <| .f rfl (.call ent41 rfl ((bytesOf_ok ((sumN (((b).take (b.length - 4)).drop 0))) _ (sumN_lt (fun x hx => hb x (List.mem_of_mem_take (List.mem_of_mem_drop hx))))).mono fun r_3 w_5 h_3 => ?_))
      obtain ⟨rfl, hp_3⟩ := h_3
      have hs_8 := hs_2.adds hp_3
      have hS_3 : Sat w [] _ := hs_8.sub (.slnil)
      refine ⟨hS_3, ?_⟩
      refine .e rfl (fun w' hS' => .neqArr4 arr4_81 (rfl) (by simp; omega) rfl rfl) hS_3 <| .fin <| .condF rfl (decide_eq_false (fun h => h (by rw [List.drop_zero, List.take_length]; exact hsum))) <| .skip <| .seq <| .region <| .f rfl (.lit0 (encN .u8) sl22 hs_8 fun v_3 w_6 hs_9 hch_3 => ?_)
      refine .m rfl rfl <| .m rfl rfl <| .e rfl (.sliceL (E := encN .u8) (a := 0) (c := (b.length - 4)) sl22 rfl (hv.ext hs_9.ext) rfl ⟨_, rfl⟩ (Nat.zero_le _) (by omega)) <| .f rfl (.appendL 0 sl22 hs_9 rfl rfl rfl Tryz.underlying22 (((hv.ext hs_9.ext)).sub (a := 0) (b := (b.length - 4)) (Nat.zero_le _) (by omega)) (by simp; omega) (by simp; omega) fun v_4 w_7 hs_10 hch_4 => ?_)
      refine .s rfl rfl <| .s rfl rfl <| .nil <| .ret ?_
      show PostK _ _ _ _ _ _
      refine post2 rfl rfl rfl ?_
      have hs_11 : Sat w [_] w_7 := hs_10.sub ((.cons_cons _ .slnil))
      have hs_12 : Sat w [cL v_4 5 (encN .u8) (b.take (b.length - 4))] w_7 := by
        have hq : ((b).take (b.length - 4)).drop 0 = b.take (b.length - 4) := by simp
        rw [← hq]; exact hs_11
      exact ⟨_, rfl, hs_12⟩
  · refine .e rfl (fun w' hS' => .ldArr (E := encN .u8) agg81 rfl (((hv.ext hS'.ext)).sub (a := (b.length - 4)) (b := (b).length) (by omega) (Nat.le_refl _)) (by show _ * 1 = _; simp; omega) (by decide)) hs_1 <| .f rfl (.call ent42 rfl ((sum_ok _ (((b).take (b.length - 4)).drop 0) _ (((hv.ext hs_1.ext)).sub (a := 0) (b := (b.length - 4)) (Nat.zero_le _) (by omega)) (fun x hx => hb x (List.mem_of_mem_take (List.mem_of_mem_drop hx))) (by simp; omega)).mono fun r_4 w_8 h_4 => ?_))
    obtain ⟨rfl, hp_4⟩ := h_4
    have hs_13 := hs_1.adds hp_4
    have hS_4 : Sat w [] _ := hs_13.sub (.slnil)
    refine ⟨hS_4, ?_⟩
    refine .f rfl (.call ent41 rfl ((bytesOf_ok ((sumN (((b).take (b.length - 4)).drop 0))) _ (sumN_lt (fun x hx => hb x (List.mem_of_mem_take (List.mem_of_mem_drop hx))))).mono fun r_5 w_9 h_5 => ?_))
    obtain ⟨rfl, hp_5⟩ := h_5
    have hs_14 := hs_13.adds hp_5
    have hS_5 : Sat w [] _ := hs_14.sub (.slnil)
    refine ⟨hS_5, ?_⟩
    refine .e rfl (fun w' hS' => .neqArr4 arr4_81 (rfl) (by simp; omega) rfl rfl) hS_5 <| .fin <| .condF rfl (decide_eq_false (fun h => h (by rw [List.drop_zero, List.take_length]; exact hsum))) <| .skip <| .seq <| .region <| .f rfl (.lit0 (encN .u8) sl22 hs_14 fun v_5 w_10 hs_15 hch_5 => ?_)
    refine .m rfl rfl <| .m rfl rfl <| .e rfl (.sliceL (E := encN .u8) (a := 0) (c := (b.length - 4)) sl22 rfl (hv.ext hs_15.ext) rfl ⟨_, rfl⟩ (Nat.zero_le _) (by omega)) <| .f rfl (.appendL 0 sl22 hs_15 rfl rfl rfl Tryz.underlying22 (((hv.ext hs_15.ext)).sub (a := 0) (b := (b.length - 4)) (Nat.zero_le _) (by omega)) (by simp; omega) (by simp; omega) fun v_6 w_11 hs_16 hch_6 => ?_)
    refine .s rfl rfl <| .s rfl rfl <| .nil <| .ret ?_
    show PostK _ _ _ _ _ _
    refine post2 rfl rfl rfl ?_
    have hs_17 : Sat w [_] w_11 := hs_16.sub ((.cons_cons _ .slnil))
    have hs_18 : Sat w [cL v_6 5 (encN .u8) (b.take (b.length - 4))] w_11 := by
      have hq : ((b).take (b.length - 4)).drop 0 = b.take (b.length - 4) := by simp
      rw [← hq]; exact hs_17
    exact ⟨_, rfl, hs_18⟩
theorem unseal_p (v : Value) (b p : List Nat) (w : World) (hv : RdL w v (encN .u8) b) (he : b = sealN p) (hb : ∀ x ∈ p, x < 256) (hn : p.length ≤ 10000000) :
    CallsV Tryz.prog 18 [v] w fun r w' => ∃ v', r = .tuple #[v', .int .i64 ((0 : Nat) : Int)] ∧ Sat w [cL v' 5 (encN .u8) p] w' := by
  subst he
  have hl := sealN_length p
  have ht : (sealN p).take ((sealN p).length - 4) = p := by rw [hl, Nat.add_sub_cancel, sealN, List.take_left']; rfl
  have hd : (sealN p).drop ((sealN p).length - 4) = byts (sumN p) := by rw [hl, Nat.add_sub_cancel, sealN, List.drop_left']; rfl
  have h := unseal_ok v (sealN p) w hv (fun x hx => by
    rcases List.mem_append.1 hx with hx | hx
    · exact hb x hx
    · exact byts_lt _ x hx) (by omega) (by omega) (by rw [ht, hd])
  rw [ht] at h; exact h
theorem tbytes_ok (w0 w : World) (cs : List Chunk) (g : Nat) (bv : Value) (bl : List Nat) (m : Nat) (hs : Sat w0 ([cObj g 51 [bv, .bool true]] ++ cs) w) (hb : RdL w0 bv (encN .u8) bl) (hm : m ≤ bl.length) (hn : bl.length ≤ 1000000000) :
    CallsV Tryz.prog 44 [(.pointer (some ⟨g, 0, none⟩)), (.int .i64 m)] w fun r w' => RdL w0 r (encN .u8) ((bl.take m).drop 0) ∧ ∃ bv', RdL w0 bv' (encN .u8) (bl.drop m) ∧ Sat w0 ([cObj g 51 [bv', .bool true]] ++ cs) w' := by
  refine callsV_of Tryz.func44 rfl rfl ?_
  refine .seq <| .region <| .s rfl rfl <| .nil <| .seq <| .seq <| .region <| .m rfl rfl <| .e rfl (.nilCheck rfl) <| .e rfl (.fieldAddr fld51_1 rfl rfl) <| .e rfl (.load scal4 rfl (hs.cell (i := 0) (j := 1) rfl rfl)) <| .e rfl (.notB rfl) <| .m rfl rfl <| .yes rfl rfl rfl (rfl) <| .m rfl rfl <| .yes rfl rfl rfl (rfl) <| .m rfl rfl <| .yes rfl rfl rfl (rfl) <| .e rfl (.nilCheck rfl) <| .yes rfl rfl rfl (rfl) <| .e rfl (.fieldAddr fld51_0 rfl rfl) <| .yes rfl rfl rfl (rfl) <| .e rfl (.load scal22 rfl (hs.cell (i := 0) (j := 0) rfl rfl)) <| .yes rfl rfl rfl (rfl) <| .e rfl (.lenL Tryz.underlying22 rfl (hb.ext hs.ext)) <| .yes rfl rfl rfl (rfl) <| .e rfl (.gtrN rfl rfl) <| .e rfl (.pickN rfl (rfl) rfl) <| .nil <| .condF rfl (decide_eq_false (by omega)) <| .skip <| .seq <| .region <| .m rfl rfl <| .e rfl (.nilCheck rfl) <| .e rfl (.fieldAddr fld51_0 rfl rfl) <| .e rfl (.load scal22 rfl (hs.cell (i := 0) (j := 0) rfl rfl)) <| .m rfl rfl <| .e rfl (.sliceL (E := encN .u8) (a := 0) (c := m) sl22 rfl (hb.ext hs.ext) rfl ⟨_, rfl⟩ (Nat.zero_le _) (hm)) <| .s rfl rfl <| .nil <| .seq <| .region <| .m rfl rfl <| .m rfl rfl <| .e rfl (.nilCheck rfl) <| .e rfl (.fieldAddr fld51_0 rfl rfl) <| .e rfl (.load scal22 rfl (hs.cell (i := 0) (j := 0) rfl rfl)) <| .m rfl rfl <| .e rfl (.sliceL (E := encN .u8) (a := m) (c := (bl).length) sl22 rfl (hb.ext hs.ext) ⟨_, rfl⟩ rfl (hm) (Nat.le_refl _)) <| .e rfl (.nilCheck rfl) <| .e rfl (.fieldAddr fld51_0 rfl rfl) <| .f rfl (.storeObj one22 hs (i := 0) rfl rfl rfl ((((hb.ext hs.ext)).sub (a := m) (b := (bl).length) (hm) (Nat.le_refl _)).oneCell) rfl fun w_1 hs_1 hch_1 => ?_)
  refine .nil <| .seq <| .region <| .m rfl rfl <| .s rfl rfl <| .nil <| .ret ?_
  show PostK _ _ _ _ _ _
  refine post1 rfl rfl ?_
  have hr1 := hb.sub (a := 0) (b := m) (Nat.zero_le _) hm
  have hr2 := hb.sub (a := m) (b := bl.length) hm (Nat.le_refl _)
  rw [List.take_length] at hr2
  exact ⟨hr1, _, hr2, hs_1⟩
theorem tnum_uv (w0 w : World) (cs : List Chunk) (g : Nat) (bv : Value) (bl rest : List Nat) (x lim : Nat) (hs : Sat w0 ([cObj g 51 [bv, .bool true]] ++ cs) w) (hb : RdL w0 bv (encN .u8) bl) (he : bl = uv x ++ rest) (hbb : ∀ y ∈ bl, y < 256) (hn : bl.length ≤ 1000000000) (hl : x ≤ lim) (hlim : lim ≤ 1000000000000) :
    CallsV Tryz.prog 43 [.pointer (some ⟨g, 0, none⟩), .int .i64 (lim : Int)] w fun r w' => r = .int .i64 (x : Int) ∧ ∃ bv', RdL w0 bv' (encN .u8) rest ∧ Sat w0 ([cObj g 51 [bv', .bool true]] ++ cs) w' := by
  subst he
  have h := tnum_ok w0 w cs g bv true (uv x ++ rest) lim hs hb hbb hn hlim
  rw [numN_uv (by omega) hl] at h
  exact h
theorem tbytes_ap (w0 w : World) (cs : List Chunk) (g : Nat) (bv : Value) (bl a rest : List Nat) (m : Nat) (hs : Sat w0 ([cObj g 51 [bv, .bool true]] ++ cs) w) (hb : RdL w0 bv (encN .u8) bl) (he : bl = a ++ rest) (hm : a.length = m) (hn : bl.length ≤ 1000000000) :
    CallsV Tryz.prog 44 [.pointer (some ⟨g, 0, none⟩), .int .i64 (m : Int)] w fun r w' => RdL w0 r (encN .u8) a ∧ ∃ bv', RdL w0 bv' (encN .u8) rest ∧ Sat w0 ([cObj g 51 [bv', .bool true]] ++ cs) w' := by
  subst he
  have h := tbytes_ok w0 w cs g bv (a ++ rest) m hs hb (by simp; omega) hn
  rw [List.drop_zero, List.take_left' hm, List.drop_left' hm] at h
  exact h
theorem pld_drop_mem {kind k : Nat} {ps : List (List Nat × Nat)} {y : Nat} (h : y ∈ pld kind (ps.drop k)) : y ∈ pld kind ps := by
  obtain ⟨p, hp, hy⟩ := List.mem_flatMap.1 h
  exact List.mem_flatMap.2 ⟨p, List.mem_of_mem_drop hp, hy⟩
theorem pld_drop_len (kind k : Nat) (ps : List (List Nat × Nat)) : (pld kind (ps.drop k)).length ≤ (pld kind ps).length := by
  have e : pld kind ps = pld kind (ps.take k) ++ pld kind (ps.drop k) := by
    unfold pld; rw [← List.flatMap_append, List.take_append_drop]
  rw [e, List.length_append]; omega
theorem pld_head {kind k : Nat} {ps : List (List Nat × Nat)} {p : List Nat × Nat} (h : ps[k]? = some p) : pld kind (ps.drop k) = uv (if kind = 0 then p.1.length else p.2) ++ (p.1 ++ pld kind (ps.drop (k + 1))) := by
  rw [drop_of_get h]; simp [pld, pld1]
theorem map_small : ∀ {l : List Nat}, (∀ x ∈ l, x < 2 ^ 8) → l.map (· % 2 ^ 8) = l
  | [], _ => rfl
  | x :: r, h => by rw [List.map_cons, map_small fun y hy => h y (by simp [hy]), Nat.mod_eq_of_lt (h x (by simp))]
theorem take_blk (l : List Nat) (k : Nat) : l.take (64 * k) ++ chk l k = l.take (64 * (k + 1)) := by
  rw [show 64 * (k + 1) = 64 * k + 64 by omega, List.take_add]; rfl
set_option maxHeartbeats 1000000 in
theorem numbers_0 (w0 w : World) (cs : List Chunk) (g : Nat) (bv : Value) (l : List Nat) (hs : Sat w0 ([cObj g 51 [bv, .bool true]] ++ cs) w) (hl : OkN l) (hb : RdL w0 bv (encN .u8) (plK l 0)) :
    CallsV Tryz.prog 19 [(.pointer (some ⟨g, 0, none⟩))] w fun r w' => ∃ v', r = .tuple #[v', .bool true] ∧ ∃ bv', Sat w0 ([cObj g 51 [bv', .bool true], cL v' 3 (encN .i64) l] ++ cs) w' := by
  have hnl := hl.len
  have hP : plK l 0 = uv l.length ++ (uv 0 ++ pld 0 (pk0 l (nbk l.length))) := by rw [plK_zero, hdP]; simp
  have hlt : ∀ y ∈ plK l 0, y < 256 := plK_lt (by decide)
  have hPl := plK_len hl (k := 0) (by decide)
  have hPl2 := congrArg List.length hP
  simp only [List.length_append] at hPl2
  have hnb : nbk l.length ≤ 64 := by unfold nbk; omega
  refine callsV_of Tryz.func19 rfl rfl ?_
  refine .seq <| .region <| .s rfl rfl <| .s rfl rfl <| .nil <| .seq <| .region <| .m rfl rfl ?_
  have hA_1 : Sat w0 ([cObj g 51 [bv, (.bool true)]] ++ ([] ++ cs)) _ := (Sat.order [0] (by decide) hs).cut 1
  refine .f rfl (.call ent43 rfl ((tnum_uv _ _ _ _ _ (plK l 0) (uv 0 ++ pld 0 (pk0 l (nbk l.length))) (l.length) 4096 hA_1 hb (hP) (hlt) (by omega) (hnl) (by omega)).mono fun r_1 w_1 h_1 => ?_))
  obtain ⟨rfl, bv_1, hbv_1, hp_1⟩ := h_1
  have hs_1 : Sat w0 ([cObj g 51 [bv_1, (.bool true)]] ++ cs) _ := hp_1
  refine .m rfl rfl ?_
  have hA_2 : Sat w0 ([cObj g 51 [bv_1, (.bool true)]] ++ ([] ++ cs)) _ := (Sat.order [0] (by decide) hs_1).cut 1
  refine .f rfl (.call ent43 rfl ((tnum_uv _ _ _ _ _ (uv 0 ++ pld 0 (pk0 l (nbk l.length))) (pld 0 (pk0 l (nbk l.length))) (0) 1 hA_2 hbv_1 (rfl) (fun y hy => hlt y (by rw [hP]; exact List.mem_append_right _ hy)) (by simp only [List.length_append]; omega) (by omega) (by omega)).mono fun r_2 w_2 h_2 => ?_))
  obtain ⟨rfl, bv_2, hbv_2, hp_2⟩ := h_2
  have hs_2 : Sat w0 ([cObj g 51 [bv_2, (.bool true)]] ++ cs) _ := hp_2
  refine .e rfl (.build bt65 rfl ⟨rfl, rfl, trivial⟩ rfl) <| .f rfl (.alloc hs_2 zero65 fun b_1 w_3 hs_3 hch_1 hb_1 => ?_)
  have hs_3d : Sat w0 ([cObj g 51 [bv_2, (.bool true)], cObj b_1 65 [(.int .i64 (0 : Nat)), (.int .i64 (0 : Nat)), (.slice none 0 0), (.slice none 0 0), (.int .i64 (0 : Nat)), (.slice none 0 0)]] ++ cs) _ := (hs_3).mid
  refine .f rfl (.storeObjA (vs := [(.int .i64 l.length), (.int .i64 (0 : Nat)), (.slice none 0 0), (.slice none 0 0), (.int .i64 (0 : Nat)), (.slice none 0 0)]) agg65 hs_3d (i := 1) rfl rfl rfl rfl (fun v h => by simp only [List.mem_cons, List.not_mem_nil, or_false] at h; rcases h with rfl | rfl | rfl | rfl | rfl | rfl; exact rfl; exact rfl; exact rfl; exact rfl; exact rfl; exact rfl) fun w_4 hs_4 hch_2 => ?_)
  have hs_4d : Sat w0 ([cObj g 51 [bv_2, (.bool true)], cObj b_1 65 [(.int .i64 l.length), (.int .i64 (0 : Nat)), (.slice none 0 0), (.slice none 0 0), (.int .i64 (0 : Nat)), (.slice none 0 0)]] ++ cs) _ := hs_4
  refine .nil <| .seq <| .seq <| .region <| .e rfl (.fieldAddr fld65_1 rfl rfl) <| .e rfl (.load scal3 rfl (hs_4d.cell (i := 1) (j := 1) rfl rfl)) <| .e rfl (.eqlN (a := 0) (b := 1) rfl rfl) <| .nil <| .condF rfl (rfl) <| .skip <| .seq <| .region <| .s rfl rfl <| .nil <| .seq <| .seq <| .region <| .s rfl rfl <| .nil <| .block ?_
  have hs_5 : Sat w0 ([_, _, cL (Value.slice none 0 0) 3 (encN .i64) ([])] ++ cs) _ := (hs_4d.newNilL 3 (encN .i64)).mid
  have hs_6 : Sat w0 ([cObj g 51 [bv_2, (.bool true)], cObj b_1 65 [(.int .i64 l.length), (.int .i64 (0 : Nat)), (.slice none 0 0), (.slice none 0 0), (.int .i64 (0 : Nat)), (.slice none 0 0)], cL (Value.slice none 0 0) 3 (encN .i64) (l.take (64 * 0))] ++ cs) w_4 := by
    have hq : [] = l.take (64 * 0) := rfl
    rw [← hq]; exact hs_5
  refine .loop (α := Nat × Value × Value) (fun (k, bv2, ov) => [(0, (.pointer (some ⟨g, 0, none⟩))), (4, (.pointer (some ⟨b_1, 0, none⟩))), (7, ov), (8, (.int .i64 k))]) (fun (k, bv2, ov) w' => Sat w0 ([cObj g 51 [bv2, (.bool true)], cObj b_1 65 [(.int .i64 l.length), (.int .i64 (0 : Nat)), (.slice none 0 0), (.slice none 0 0), (.int .i64 (0 : Nat)), (.slice none 0 0)], cL ov 3 (encN .i64) (l.take (64 * k))] ++ cs) w' ∧ (k ≤ nbk l.length) ∧ (RdL w0 bv2 (encN .u8) (pld 0 ((pk0 l (nbk l.length)).drop k)))) (fun (k, bv2, ov) => nbk l.length - k) (0, bv_2, (.slice none 0 0)) ⟨rfl, rfl, rfl, rfl, trivial⟩ ⟨hs_6, Nat.zero_le _, hbv_2⟩ ?_
  rintro ⟨k, bv2, ov⟩ w_5 ⟨hs_7, hk, hbv⟩
  show CW _ _ _ _ [(0, (.pointer (some ⟨g, 0, none⟩))), (4, (.pointer (some ⟨b_1, 0, none⟩))), (7, ov), (8, (.int .i64 k))] _
  refine .seq <| .seq <| .region <| .m rfl rfl <| .e rfl (.nilCheck rfl) <| .e rfl (.fieldAddr fld51_1 rfl rfl) <| .e rfl (.load scal4 rfl (hs_7.cell (i := 0) (j := 1) rfl rfl)) <| .m rfl rfl <| .yes rfl rfl rfl (rfl) <| .m rfl rfl <| .yes rfl rfl rfl (rfl) <| .e rfl (.mulI (b := 64) rfl rfl (by omega)) <| .yes rfl rfl rfl (rfl) <| .e rfl (.fieldAddr fld65_0 rfl rfl) <| .yes rfl rfl rfl (rfl) <| .e rfl (.load scal3 rfl (hs_7.cell (i := 1) (j := 0) rfl rfl)) <| .yes rfl rfl rfl (rfl) <| .e rfl (.lssN rfl rfl) <| .e rfl (.pickY rfl (rfl) rfl) <| .nil <| .condD rfl (fun hc_1 => ?_) (fun hc_1 => ?_)
  · refine .skip <| .seq <| .block <| .seq <| .region <| .s rfl rfl <| .nil <| .seq <| .region <| .s rfl rfl <| .nil <| .seq <| .seq <| .region <| .e rfl (.fieldAddr fld65_1 rfl rfl) <| .e rfl (.load scal3 rfl (hs_7.cell (i := 1) (j := 1) rfl rfl)) <| .e rfl (.eqlN (a := 0) (b := 0) rfl rfl) <| .nil <| .condT rfl (rfl) ?_
    have hkN : k < nbk l.length := by unfold nbk; omega
    have hd := pld_head (kind := 0) (pk0_get (l := l) hkN)
    rw [if_pos rfl] at hd
    have hdl := pld_drop_len 0 k (pk0 l (nbk l.length))
    have hdl1 := congrArg List.length hd
    simp only [List.length_append] at hdl1
    have hcl := chk_length l k
    refine .region <| .m rfl rfl <| .m rfl rfl <| .m rfl rfl <| .e rfl (.nilCheck rfl) <| .e rfl (.fieldAddr fld51_0 rfl rfl) <| .e rfl (.load scal22 rfl (hs_7.cell (i := 0) (j := 0) rfl rfl)) <| .e rfl (.lenL Tryz.underlying22 rfl (hbv.ext hs_7.ext)) ?_
    have hA_3 : Sat w0 ([cObj g 51 [bv2, (.bool true)]] ++ ([cObj b_1 65 [(.int .i64 l.length), (.int .i64 (0 : Nat)), (.slice none 0 0), (.slice none 0 0), (.int .i64 (0 : Nat)), (.slice none 0 0)], cL ov 3 (encN .i64) (l.take (64 * k))] ++ cs)) _ := (Sat.order [0, 1, 2] (by decide) hs_7).cut 1
    refine .f rfl (.call ent43 rfl ((tnum_uv _ _ _ _ _ (pld 0 ((pk0 l (nbk l.length)).drop k)) (packBk (chk l k) ++ pld 0 ((pk0 l (nbk l.length)).drop (k + 1))) ((packBk (chk l k)).length) ((pld 0 ((pk0 l (nbk l.length)).drop k)).length) hA_3 hbv (hd) (fun y hy => hlt y (by rw [hP]; exact List.mem_append_right _ (List.mem_append_right _ (pld_drop_mem hy)))) (by omega) (by omega) (by omega)).mono fun r_3 w_6 h_3 => ?_))
    obtain ⟨rfl, bv_3, hbv_3, hp_3⟩ := h_3
    have hs_8 : Sat w0 ([cObj g 51 [bv_3, (.bool true)], cObj b_1 65 [(.int .i64 l.length), (.int .i64 (0 : Nat)), (.slice none 0 0), (.slice none 0 0), (.int .i64 (0 : Nat)), (.slice none 0 0)], cL ov 3 (encN .i64) (l.take (64 * k))] ++ cs) _ := Sat.order [0, 1, 2] (by decide) hp_3.join
    have hA_4 : Sat w0 ([cObj g 51 [bv_3, (.bool true)]] ++ ([cObj b_1 65 [(.int .i64 l.length), (.int .i64 (0 : Nat)), (.slice none 0 0), (.slice none 0 0), (.int .i64 (0 : Nat)), (.slice none 0 0)], cL ov 3 (encN .i64) (l.take (64 * k))] ++ cs)) _ := (Sat.order [0, 1, 2] (by decide) hs_8).cut 1
    refine .f rfl (.call ent44 rfl ((tbytes_ap _ _ _ _ _ (packBk (chk l k) ++ pld 0 ((pk0 l (nbk l.length)).drop (k + 1))) (packBk (chk l k)) (pld 0 ((pk0 l (nbk l.length)).drop (k + 1))) ((packBk (chk l k)).length) hA_4 hbv_3 (rfl) (rfl) (by simp only [List.length_append]; omega)).mono fun r_4 w_7 h_4 => ?_))
    obtain ⟨hbr_1, bv_4, hbv_4, hp_4⟩ := h_4
    have hs_9 : Sat w0 ([cObj g 51 [bv_4, (.bool true)], cObj b_1 65 [(.int .i64 l.length), (.int .i64 (0 : Nat)), (.slice none 0 0), (.slice none 0 0), (.int .i64 (0 : Nat)), (.slice none 0 0)], cL ov 3 (encN .i64) (l.take (64 * k))] ++ cs) _ := Sat.order [0, 1, 2] (by decide) hp_4.join
    refine .f rfl (.call ent45 rfl ((unpack_ok _ (packBk (chk l k)) (chk l k) _ (hbr_1.ext hs_9.ext) (encBk_lt _ _) (by omega) (unpk_pack (by omega) (fun y hy => by have := hl.lt y (chk_mem hy); omega))).mono fun r_5 w_8 h_5 => ?_))
    obtain ⟨uv_1, rfl, hp_5⟩ := h_5
    have hs_10 : Sat w0 ([cObj g 51 [bv_4, (.bool true)], cObj b_1 65 [(.int .i64 l.length), (.int .i64 (0 : Nat)), (.slice none 0 0), (.slice none 0 0), (.int .i64 (0 : Nat)), (.slice none 0 0)], cL ov 3 (encN .i64) (l.take (64 * k)), cL uv_1 3 (encN .i64) (chk l k)] ++ cs) _ := (hs_9.adds hp_5).mid
    refine .m rfl rfl <| .e rfl (.extract rfl rfl) <| .e rfl (.extract rfl rfl) <| .s rfl rfl <| .s rfl rfl <| .nil <| .seq <| .seq <| .region <| .m rfl rfl <| .e rfl (.nilCheck rfl) <| .e rfl (.fieldAddr fld51_1 rfl rfl) <| .e rfl (.load scal4 rfl (hs_10.cell (i := 0) (j := 1) rfl rfl)) <| .e rfl (.notB rfl) <| .m rfl rfl <| .yes rfl rfl rfl (rfl) <| .m rfl rfl <| .yes rfl rfl rfl (rfl) <| .e rfl (.neqN (a := 0) (b := 0) rfl rfl) <| .e rfl (.pickN rfl (rfl) rfl) <| .m rfl rfl <| .yes rfl rfl rfl (rfl) <| .m rfl rfl <| .yes rfl rfl rfl (rfl) <| .e rfl (.lenL Tryz.underlying27 rfl (hs_10.rdL 3 rfl)) <| .yes rfl rfl rfl (rfl) <| .m rfl rfl <| .yes rfl rfl rfl (rfl) <| .f rfl (.call ent47 rfl ((ssize_ok _ (l.length) (k) _ (hs_10.cell (i := 1) (j := 0) rfl rfl) (by omega) (by omega)).mono fun r_6 w_9 h_6 => ?_))
    obtain ⟨rfl, hp_6⟩ := h_6
    have hs_11 : Sat w0 ([_, _, _, _] ++ cs) _ := (hs_10.adds hp_6).mid
    refine .yes rfl rfl rfl (rfl) <| .e rfl (.neqN rfl rfl) <| .e rfl (.pickN rfl (rfl) rfl) <| .nil <| .condF rfl (decide_eq_false (fun h => h (by rw [chk_length]; omega))) <| .skip <| .weaken [(0, _), (4, _), (7, _), (8, _), (9, _), (10, _), (47, _), (52, _), (103, _)] ⟨rfl, rfl, rfl, rfl, rfl, rfl, rfl, rfl, rfl, trivial⟩ <| .region <| .m rfl rfl <| .m rfl rfl <| .f rfl (.appendL 2 sl27 hs_11 rfl rfl rfl Tryz.underlying27 (hs_11.rdL 3 rfl) (by simp; omega) (by simp; omega) fun v_1 w_10 hs_12 hch_3 => ?_)
    refine .s rfl rfl <| .nil <| .region <| .m rfl rfl <| .e rfl (.addI (b := 1) rfl rfl (by omega)) <| .s rfl rfl <| .nil ?_
    have hs_13 : Sat w0 ([_, _, _] ++ cs) w_10 := hs_12.sub ((.cons_cons _ (.cons_cons _ (.cons_cons _ (.cons _ (.refl _))))))
    have hs_14 : Sat w0 ([cObj g 51 [bv_4, (.bool true)], cObj b_1 65 [(.int .i64 l.length), (.int .i64 (0 : Nat)), (.slice none 0 0), (.slice none 0 0), (.int .i64 (0 : Nat)), (.slice none 0 0)], cL v_1 3 (encN .i64) (l.take (64 * (k + 1)))] ++ cs) w_10 := by
      have hq : l.take (64 * k) ++ chk l k = l.take (64 * (k + 1)) := take_blk l k
      rw [← hq]; exact hs_13
    exact ⟨(k + 1, bv_4, v_1), ⟨rfl, rfl, rfl, rfl, trivial⟩, ⟨hs_14, by omega, hbv_4⟩, (show (nbk l.length - (k + 1)) < (nbk l.length - k) from by omega)⟩
  · refine .exit0 <| .seq <| .draw (fun w' => Sat w0 ([cObj g 51 [bv2, (.bool true)], cObj b_1 65 [(.int .i64 l.length), (.int .i64 (0 : Nat)), (.slice none 0 0), (.slice none 0 0), (.int .i64 (0 : Nat)), (.slice none 0 0)], cL ov 3 (encN .i64) (l.take (64 * k))] ++ cs) w') (.free 0 (.free 1 (.free 2 (.free 3 (.free 4 (.free 5 (.free 6 .fin))))))) mixed (by kernel_rfl) ?_
    have hs_15 := hs_7.drew
    refine .m rfl rfl hs_15 <| .m rfl rfl hs_15 <| .e rfl (fun w' hS' => .nilCheck rfl) hs_15 <| .e rfl (fun w' hS' => .fieldAddr fld51_1 rfl rfl) hs_15 <| .e rfl (fun w' hS' => .load scal4 rfl (hS'.cell (i := 0) (j := 1) rfl rfl)) hs_15 <| .e rfl (fun w' hS' => .assign rfl) hs_15 <| .e rfl (fun w' hS' => .assign rfl) hs_15 <| .fin <| .ret ?_
    show PostK _ _ _ _ _ _
    refine post2 rfl rfl rfl ?_
    have hs_16 : Sat w0 ([cObj g 51 [bv2, (.bool true)], cL ov 3 (encN .i64) (l.take (64 * k))] ++ cs) w_5.drew := hs_15.sub ((.cons_cons _ (.cons _ (.cons_cons _ (.refl _)))))
    have hs_17 : Sat w0 ([cObj g 51 [bv2, (.bool true)], cL ov 3 (encN .i64) (l)] ++ cs) w_5.drew := by
      have hq : l.take (64 * k) = l := by rw [List.take_of_length_le (by omega)]
      rw [← hq]; exact hs_16
    exact ⟨_, rfl, _, hs_17⟩
set_option maxHeartbeats 2000000 in
theorem numbers_1 (w0 w : World) (cs : List Chunk) (g : Nat) (bv : Value) (l : List Nat) (hs : Sat w0 ([cObj g 51 [bv, .bool true]] ++ cs) w) (hl : OkN l) (hb : RdL w0 bv (encN .u8) (plK l 1)) :
    CallsV Tryz.prog 19 [(.pointer (some ⟨g, 0, none⟩))] w fun r w' => ∃ v', r = .tuple #[v', .bool true] ∧ ∃ bv', Sat w0 ([cObj g 51 [bv', .bool true], cL v' 3 (encN .i64) l] ++ cs) w' := by
  have hnl := hl.len
  have hmx := hl.mx
  have hsl := symL_length l
  have hs8 : (symL l).map (· % 2 ^ 8) = symL l := map_small (fun x hx => by have := validB_le (validB_ok (symL_ok l hl.mx)) x hx; omega)
  have hP : plK l 1 = uv l.length ++ (uv 1 ++ (uv (symL l).length ++ (symL l ++ pld 1 (pk1 l (nbk l.length))))) := by rw [plK_one, hdP, if_pos rfl, hs8]; simp
  have hlt : ∀ y ∈ plK l 1, y < 256 := plK_lt (by decide)
  have hPl := plK_len hl (k := 1) (by decide)
  have hPl2 := congrArg List.length hP
  simp only [List.length_append] at hPl2
  have hnb : nbk l.length ≤ 64 := by unfold nbk; omega
  refine callsV_of Tryz.func19 rfl rfl ?_
  refine .seq <| .region <| .s rfl rfl <| .s rfl rfl <| .nil <| .seq <| .region <| .m rfl rfl ?_
  have hA_1 : Sat w0 ([cObj g 51 [bv, (.bool true)]] ++ ([] ++ cs)) _ := (Sat.order [0] (by decide) hs).cut 1
  refine .f rfl (.call ent43 rfl ((tnum_uv _ _ _ _ _ (plK l 1) (uv 1 ++ (uv (symL l).length ++ (symL l ++ pld 1 (pk1 l (nbk l.length))))) (l.length) 4096 hA_1 hb (hP) (hlt) (by omega) (hnl) (by omega)).mono fun r_1 w_1 h_1 => ?_))
  obtain ⟨rfl, bv_1, hbv_1, hp_1⟩ := h_1
  have hs_1 : Sat w0 ([cObj g 51 [bv_1, (.bool true)]] ++ cs) _ := hp_1
  refine .m rfl rfl ?_
  have hA_2 : Sat w0 ([cObj g 51 [bv_1, (.bool true)]] ++ ([] ++ cs)) _ := (Sat.order [0] (by decide) hs_1).cut 1
  refine .f rfl (.call ent43 rfl ((tnum_uv _ _ _ _ _ (uv 1 ++ (uv (symL l).length ++ (symL l ++ pld 1 (pk1 l (nbk l.length))))) (uv (symL l).length ++ (symL l ++ pld 1 (pk1 l (nbk l.length)))) (1) 1 hA_2 hbv_1 (rfl) (fun y hy => hlt y (by rw [hP]; exact List.mem_append_right _ hy)) (by simp only [List.length_append]; omega) (by omega) (by omega)).mono fun r_2 w_2 h_2 => ?_))
  obtain ⟨rfl, bv_2, hbv_2, hp_2⟩ := h_2
  have hs_2 : Sat w0 ([cObj g 51 [bv_2, (.bool true)]] ++ cs) _ := hp_2
  refine .e rfl (.build bt65 rfl ⟨rfl, rfl, trivial⟩ rfl) <| .f rfl (.alloc hs_2 zero65 fun b_1 w_3 hs_3 hch_1 hb_1 => ?_)
  have hs_3d : Sat w0 ([cObj g 51 [bv_2, (.bool true)], cObj b_1 65 [(.int .i64 (0 : Nat)), (.int .i64 (0 : Nat)), (.slice none 0 0), (.slice none 0 0), (.int .i64 (0 : Nat)), (.slice none 0 0)]] ++ cs) _ := (hs_3).mid
  refine .f rfl (.storeObjA (vs := [(.int .i64 l.length), (.int .i64 (1 : Nat)), (.slice none 0 0), (.slice none 0 0), (.int .i64 (0 : Nat)), (.slice none 0 0)]) agg65 hs_3d (i := 1) rfl rfl rfl rfl (fun v h => by simp only [List.mem_cons, List.not_mem_nil, or_false] at h; rcases h with rfl | rfl | rfl | rfl | rfl | rfl; exact rfl; exact rfl; exact rfl; exact rfl; exact rfl; exact rfl) fun w_4 hs_4 hch_2 => ?_)
  have hs_4d : Sat w0 ([cObj g 51 [bv_2, (.bool true)], cObj b_1 65 [(.int .i64 l.length), (.int .i64 (1 : Nat)), (.slice none 0 0), (.slice none 0 0), (.int .i64 (0 : Nat)), (.slice none 0 0)]] ++ cs) _ := hs_4
  refine .nil <| .seq <| .seq <| .region <| .e rfl (.fieldAddr fld65_1 rfl rfl) <| .e rfl (.load scal3 rfl (hs_4d.cell (i := 1) (j := 1) rfl rfl)) <| .e rfl (.eqlN (a := 1) (b := 1) rfl rfl) <| .nil <| .condT rfl (rfl) <| .seq <| .region <| .m rfl rfl <| .m rfl rfl ?_
  have hA_3 : Sat w0 ([cObj g 51 [bv_2, (.bool true)]] ++ ([cObj b_1 65 [(.int .i64 l.length), (.int .i64 (1 : Nat)), (.slice none 0 0), (.slice none 0 0), (.int .i64 (0 : Nat)), (.slice none 0 0)]] ++ cs)) _ := (Sat.order [0, 1] (by decide) hs_4d).cut 1
  refine .f rfl (.call ent43 rfl ((tnum_uv _ _ _ _ _ (uv (symL l).length ++ (symL l ++ pld 1 (pk1 l (nbk l.length)))) (symL l ++ pld 1 (pk1 l (nbk l.length))) ((symL l).length) 1024 hA_3 hbv_2 (rfl) (fun y hy => hlt y (by rw [hP]; exact List.mem_append_right _ (List.mem_append_right _ hy))) (by simp only [List.length_append]; omega) (by omega) (by omega)).mono fun r_3 w_5 h_3 => ?_))
  obtain ⟨rfl, bv_3, hbv_3, hp_3⟩ := h_3
  have hs_5 : Sat w0 ([cObj g 51 [bv_3, (.bool true)], cObj b_1 65 [(.int .i64 l.length), (.int .i64 (1 : Nat)), (.slice none 0 0), (.slice none 0 0), (.int .i64 (0 : Nat)), (.slice none 0 0)]] ++ cs) _ := Sat.order [0, 1] (by decide) hp_3.join
  have hA_4 : Sat w0 ([cObj g 51 [bv_3, (.bool true)]] ++ ([cObj b_1 65 [(.int .i64 l.length), (.int .i64 (1 : Nat)), (.slice none 0 0), (.slice none 0 0), (.int .i64 (0 : Nat)), (.slice none 0 0)]] ++ cs)) _ := (Sat.order [0, 1] (by decide) hs_5).cut 1
  refine .f rfl (.call ent44 rfl ((tbytes_ap _ _ _ _ _ (symL l ++ pld 1 (pk1 l (nbk l.length))) (symL l) (pld 1 (pk1 l (nbk l.length))) ((symL l).length) hA_4 hbv_3 (rfl) (rfl) (by simp only [List.length_append]; omega)).mono fun r_4 w_6 h_4 => ?_))
  obtain ⟨hbr_1, bv_4, hbv_4, hp_4⟩ := h_4
  have hs_6 : Sat w0 ([cObj g 51 [bv_4, (.bool true)], cObj b_1 65 [(.int .i64 l.length), (.int .i64 (1 : Nat)), (.slice none 0 0), (.slice none 0 0), (.int .i64 (0 : Nat)), (.slice none 0 0)]] ++ cs) _ := Sat.order [0, 1] (by decide) hp_4.join
  refine .e rfl (.lenL Tryz.underlying22 rfl (hbr_1.ext hs_6.ext)) <| .m rfl rfl <| .nil <| .block ?_
  have hs_7 : Sat w0 ([_, _, cL (Value.slice none 0 0) 3 (encN .i64) ([])] ++ cs) _ := (hs_6.newNilL 3 (encN .i64)).mid
  have hs_8 : Sat w0 ([cObj g 51 [bv_4, (.bool true)], cObj b_1 65 [(.int .i64 l.length), (.int .i64 (1 : Nat)), (.slice none 0 0), (.slice none 0 0), (.int .i64 (0 : Nat)), (.slice none 0 0)], cL (Value.slice none 0 0) 3 (encN .i64) ((symL l).take 0)] ++ cs) w_6 := by
    have hq : [] = (symL l).take 0 := rfl
    rw [← hq]; exact hs_7
  refine .loop (α := Nat × Value) (fun (k, lv) => [(0, (.pointer (some ⟨g, 0, none⟩))), (4, (.pointer (some ⟨b_1, 0, none⟩))), (23, r_4), (24, (.int .i64 ((symL l).length : Nat))), (25, (.int .i64 k))]) (fun (k, lv) w' => Sat w0 ([cObj g 51 [bv_4, (.bool true)], cObj b_1 65 [(.int .i64 l.length), (.int .i64 (1 : Nat)), lv, (.slice none 0 0), (.int .i64 (0 : Nat)), (.slice none 0 0)], cL lv 3 (encN .i64) ((symL l).take k)] ++ cs) w' ∧ (k ≤ (symL l).length)) (fun (k, lv) => (symL l).length - k) (0, (.slice none 0 0)) ⟨rfl, rfl, rfl, rfl, rfl, trivial⟩ ⟨hs_8, Nat.zero_le _⟩ ?_
  rintro ⟨k, lv⟩ w_7 ⟨hs_9, hk⟩
  show CW _ _ _ _ [(0, (.pointer (some ⟨g, 0, none⟩))), (4, (.pointer (some ⟨b_1, 0, none⟩))), (23, r_4), (24, (.int .i64 ((symL l).length : Nat))), (25, (.int .i64 k))] _
  refine .seq <| .region <| .e rfl (.lssN rfl rfl) <| .nil <| .seq <| .condD rfl (fun hc_1 => ?_) (fun hc_1 => ?_)
  · refine .skip <| .seq <| .block <| .seq ?_
    obtain ⟨x, hx⟩ : ∃ x, (symL l)[k]? = some x := ⟨_, List.getElem?_eq_getElem hc_1⟩
    refine .region <| .e rfl (.idxL (E := encN .u8) sl22 rfl rfl (hbr_1.ext hs_9.ext) (by omega)) <| .e rfl (.ldL (E := encN .u8) scal5 rfl (hbr_1.ext hs_9.ext) hx (by decide) rfl) <| .s rfl rfl <| .nil ?_
    have hx15 := validB_le (validB_ok (symL_ok l hl.mx)) x (mem_of_get hx)
    refine .region <| .e rfl (.fieldAddr fld65_2 rfl rfl) <| .e rfl (.load scal27 rfl (hs_9.cell (i := 1) (j := 2) rfl rfl)) <| .m rfl rfl <| .e rfl (.convK (by rw [Tryz.underlying5]; rfl) Tryz.underlying3 rfl (wrap_i (by omega))) <| .f rfl (.lit1 (encN .i64) x sl27 rfl hs_9 rfl fun v_1 w_8 hs_10 hch_3 => ?_)
    have hs_10d : Sat w0 ([cObj g 51 [bv_4, (.bool true)], cObj b_1 65 [(.int .i64 l.length), (.int .i64 (1 : Nat)), lv, (.slice none 0 0), (.int .i64 (0 : Nat)), (.slice none 0 0)], cL lv 3 (encN .i64) ((symL l).take k), cL v_1 3 (encN .i64) ([x])] ++ cs) _ := (hs_10).mid
    refine .f rfl (.appendL 2 sl27 hs_10d rfl rfl rfl Tryz.underlying27 (hs_10d.rdL 3 rfl) (by simp; omega) (by simp; omega) fun v_2 w_9 hs_11 hch_4 => ?_)
    have hs_11d : Sat w0 ([_, _, cL v_2 3 (encN .i64) ((symL l).take k ++ [x])] ++ cs) _ := hs_11.drop 3
    refine .e rfl (.fieldAddr fld65_2 rfl rfl) <| .f rfl (.storeObj one27 hs_11d (i := 1) rfl rfl rfl ((hs_11d.rdL 2 rfl).oneCell) rfl fun w_10 hs_12 hch_5 => ?_)
    refine .nil <| .region <| .e rfl (.addI (b := 1) rfl rfl (by omega)) <| .m rfl rfl <| .nil ?_
    have hs_13 : Sat w0 ([_, _, _] ++ cs) w_10 := hs_12.sub ((.cons_cons _ (.cons_cons _ (.cons_cons _ (.refl _)))))
    have hs_14 : Sat w0 ([cObj g 51 [bv_4, (.bool true)], cObj b_1 65 [(.int .i64 l.length), (.int .i64 (1 : Nat)), v_2, (.slice none 0 0), (.int .i64 (0 : Nat)), (.slice none 0 0)], cL v_2 3 (encN .i64) ((symL l).take (k + 1))] ++ cs) w_10 := by
      have hq : (symL l).take k ++ [x] = (symL l).take (k + 1) := by rw [take_succ_of hx]
      rw [← hq]; exact hs_13
    exact ⟨(k + 1, v_2), ⟨rfl, rfl, rfl, rfl, rfl, trivial⟩, ⟨hs_14, by omega⟩, (show ((symL l).length - (k + 1)) < ((symL l).length - k) from by omega)⟩
  · refine .exit0 <| .seq <| .region <| .s rfl rfl <| .nil <| .seq <| .seq <| .region <| .s rfl rfl <| .nil <| .block ?_
    have hs_15 : Sat w0 ([cObj g 51 [bv_4, (.bool true)], cObj b_1 65 [(.int .i64 l.length), (.int .i64 (1 : Nat)), lv, (.slice none 0 0), (.int .i64 (0 : Nat)), (.slice none 0 0)], cL lv 3 (encN .i64) (symL l)] ++ cs) w_7 := by
      have hq : (symL l).take k = symL l := by rw [show k = (symL l).length by omega, List.take_length]
      rw [← hq]; exact hs_9
    have hs_16 : Sat w0 ([_, _, _, cL (Value.slice none 0 0) 3 (encN .i64) ([])] ++ cs) _ := (hs_15.newNilL 3 (encN .i64)).mid
    have hs_17 : Sat w0 ([cObj g 51 [bv_4, (.bool true)], cObj b_1 65 [(.int .i64 l.length), (.int .i64 (1 : Nat)), lv, (.slice none 0 0), (.int .i64 (0 : Nat)), (.slice none 0 0)], cL lv 3 (encN .i64) (symL l), cL (Value.slice none 0 0) 3 (encN .i64) (l.take (64 * 0))] ++ cs) w_7 := by
      have hq : [] = l.take (64 * 0) := rfl
      rw [← hq]; exact hs_16
    refine .loop (α := Nat × Value × Value) (fun (k, bv2, ov) => [(0, (.pointer (some ⟨g, 0, none⟩))), (4, (.pointer (some ⟨b_1, 0, none⟩))), (7, ov), (8, (.int .i64 k))]) (fun (k, bv2, ov) w' => Sat w0 ([cObj g 51 [bv2, (.bool true)], cObj b_1 65 [(.int .i64 l.length), (.int .i64 (1 : Nat)), lv, (.slice none 0 0), (.int .i64 (0 : Nat)), (.slice none 0 0)], cL lv 3 (encN .i64) (symL l), cL ov 3 (encN .i64) (l.take (64 * k))] ++ cs) w' ∧ (k ≤ nbk l.length) ∧ (RdL w0 bv2 (encN .u8) (pld 1 ((pk1 l (nbk l.length)).drop k)))) (fun (k, bv2, ov) => nbk l.length - k) (0, bv_4, (.slice none 0 0)) ⟨rfl, rfl, rfl, rfl, trivial⟩ ⟨hs_17, Nat.zero_le _, hbv_4⟩ ?_
    rintro ⟨k, bv2, ov⟩ w_11 ⟨hs_18, hk, hbv⟩
    show CW _ _ _ _ [(0, (.pointer (some ⟨g, 0, none⟩))), (4, (.pointer (some ⟨b_1, 0, none⟩))), (7, ov), (8, (.int .i64 k))] _
    refine .seq <| .seq <| .region <| .m rfl rfl <| .e rfl (.nilCheck rfl) <| .e rfl (.fieldAddr fld51_1 rfl rfl) <| .e rfl (.load scal4 rfl (hs_18.cell (i := 0) (j := 1) rfl rfl)) <| .m rfl rfl <| .yes rfl rfl rfl (rfl) <| .m rfl rfl <| .yes rfl rfl rfl (rfl) <| .e rfl (.mulI (b := 64) rfl rfl (by omega)) <| .yes rfl rfl rfl (rfl) <| .e rfl (.fieldAddr fld65_0 rfl rfl) <| .yes rfl rfl rfl (rfl) <| .e rfl (.load scal3 rfl (hs_18.cell (i := 1) (j := 0) rfl rfl)) <| .yes rfl rfl rfl (rfl) <| .e rfl (.lssN rfl rfl) <| .e rfl (.pickY rfl (rfl) rfl) <| .nil <| .condD rfl (fun hc_2 => ?_) (fun hc_2 => ?_)
    · refine .skip <| .seq <| .block <| .seq <| .region <| .s rfl rfl <| .nil <| .seq <| .region <| .s rfl rfl <| .nil <| .seq <| .seq <| .region <| .e rfl (.fieldAddr fld65_1 rfl rfl) <| .e rfl (.load scal3 rfl (hs_18.cell (i := 1) (j := 1) rfl rfl)) <| .e rfl (.eqlN (a := 1) (b := 0) rfl rfl) <| .nil <| .condF rfl (rfl) <| .seq ?_
      have hkN : k < nbk l.length := by unfold nbk; omega
      have hd := pld_head (kind := 1) (pk1_get (l := l) hkN)
      rw [if_neg (by decide)] at hd
      have hdl := pld_drop_len 1 k (pk1 l (nbk l.length))
      have hdl1 := congrArg List.length hd
      simp only [List.length_append, packB_length] at hdl1
      have hcl := chk_length l k
      have hok := symL_ok l hl.mx
      have hhl := hufB_length (GoodLens.of_ok hok) (chk l k)
      refine .region <| .m rfl rfl <| .m rfl rfl <| .e rfl (.nilCheck rfl) <| .e rfl (.fieldAddr fld51_0 rfl rfl) <| .e rfl (.load scal22 rfl (hs_18.cell (i := 0) (j := 0) rfl rfl)) <| .e rfl (.lenL Tryz.underlying22 rfl (hbv.ext hs_18.ext)) <| .e rfl (.mulI (a := 8) rfl rfl (by omega)) ?_
      have hA_5 : Sat w0 ([cObj g 51 [bv2, (.bool true)]] ++ ([cObj b_1 65 [(.int .i64 l.length), (.int .i64 (1 : Nat)), lv, (.slice none 0 0), (.int .i64 (0 : Nat)), (.slice none 0 0)], cL lv 3 (encN .i64) (symL l), cL ov 3 (encN .i64) (l.take (64 * k))] ++ cs)) _ := (Sat.order [0, 1, 2, 3] (by decide) hs_18).cut 1
      refine .f rfl (.call ent43 rfl ((tnum_uv _ _ _ _ _ (pld 1 ((pk1 l (nbk l.length)).drop k)) (packB (hufB (symL l) (chk l k)) ++ pld 1 ((pk1 l (nbk l.length)).drop (k + 1))) ((hufB (symL l) (chk l k)).length) (8 * (pld 1 ((pk1 l (nbk l.length)).drop k)).length) hA_5 hbv (hd) (fun y hy => hlt y (by rw [hP]; exact List.mem_append_right _ (List.mem_append_right _ (List.mem_append_right _ (List.mem_append_right _ (pld_drop_mem hy)))))) (by omega) (by omega) (by omega)).mono fun r_5 w_12 h_5 => ?_))
      obtain ⟨rfl, bv_5, hbv_5, hp_5⟩ := h_5
      have hs_19 : Sat w0 ([cObj g 51 [bv_5, (.bool true)], cObj b_1 65 [(.int .i64 l.length), (.int .i64 (1 : Nat)), lv, (.slice none 0 0), (.int .i64 (0 : Nat)), (.slice none 0 0)], cL lv 3 (encN .i64) (symL l), cL ov 3 (encN .i64) (l.take (64 * k))] ++ cs) _ := Sat.order [0, 1, 2, 3] (by decide) hp_5.join
      refine .s rfl rfl <| .nil <| .draw (fun w' => Sat w0 ([cObj b_1 65 [(.int .i64 l.length), (.int .i64 (1 : Nat)), lv, (.slice none 0 0), (.int .i64 (0 : Nat)), (.slice none 0 0)], cL lv 3 (encN .i64) (symL l), cL ov 3 (encN .i64) (l.take (64 * k))] ++ cs) w') (.free 0 (.free 1 (.free 2 (.free 3 (.free 4 (.free 5 (.free 7 (.free 8 (.one 6 (.one 9 (.one 10 (.free 11 (.free 12 (.free 13 (.free 14 (.free 15 .fin)))))))))))))))) mixed (by kernel_rfl) ?_
      have hs_20 := hs_19.drew
      have hS_1 : Sat w0 ([_, _, _] ++ cs) _ := hs_20.sub ((.cons _ (.cons_cons _ (.cons_cons _ (.cons_cons _ (.refl _))))))
      refine .e rfl (fun w' hS' => .fieldAddr fld65_2 rfl rfl) hS_1 <| .e rfl (fun w' hS' => .load scal27 rfl (hS'.cell (i := 0) (j := 2) rfl rfl)) hS_1 <| .m rfl rfl hS_1 <| .m rfl rfl hS_1 <| .e rfl (fun w' hS' => .addI (b := 7) rfl rfl (by omega)) hS_1 <| .e rfl (fun w' hS' => .quo (b := 8) rfl rfl (by omega) (by unfold inI64; omega)) hS_1 <| .m rfl rfl hS_1 <| .m rfl rfl hS_1 ?_
      have hA_6 : Sat w0 ([cObj g 51 [bv_5, (.bool true)]] ++ ([cObj b_1 65 [(.int .i64 l.length), (.int .i64 (1 : Nat)), lv, (.slice none 0 0), (.int .i64 (0 : Nat)), (.slice none 0 0)], cL lv 3 (encN .i64) (symL l), cL ov 3 (encN .i64) (l.take (64 * k))] ++ cs)) _ := (Sat.order [0, 1, 2, 3] (by decide) hs_20).cut 1
      refine .f rfl (.call ent44 rfl ((tbytes_ap _ _ _ _ _ (packB (hufB (symL l) (chk l k)) ++ pld 1 ((pk1 l (nbk l.length)).drop (k + 1))) (packB (hufB (symL l) (chk l k))) (pld 1 ((pk1 l (nbk l.length)).drop (k + 1))) (((hufB (symL l) (chk l k)).length + 7) / 8) hA_6 hbv_5 (rfl) (by rw [packB_length]) (by simp only [List.length_append, packB_length]; omega)).mono fun r_6 w_13 h_6 => ?_))
      obtain ⟨hbr_2, bv_6, hbv_6, hp_6⟩ := h_6
      have hs_21 : Sat w0 ([cObj g 51 [bv_6, (.bool true)], cObj b_1 65 [(.int .i64 l.length), (.int .i64 (1 : Nat)), lv, (.slice none 0 0), (.int .i64 (0 : Nat)), (.slice none 0 0)], cL lv 3 (encN .i64) (symL l), cL ov 3 (encN .i64) (l.take (64 * k))] ++ cs) _ := Sat.order [0, 1, 2, 3] (by decide) hp_6.join
      have hS_2 : Sat w0 ([_, _, _] ++ cs) _ := hs_21.sub ((.cons _ (.cons_cons _ (.cons_cons _ (.cons_cons _ (.refl _))))))
      refine ⟨hS_2, ?_⟩
      refine .f rfl (.call ent47 rfl ((ssize_ok _ (l.length) (k) _ (hs_21.cell (i := 1) (j := 0) rfl rfl) (by omega) (by omega)).mono fun r_7 w_14 h_7 => ?_))
      obtain ⟨rfl, hp_7⟩ := h_7
      have hs_22 : Sat w0 ([cObj g 51 [bv_6, (.bool true)], cObj b_1 65 [(.int .i64 l.length), (.int .i64 (1 : Nat)), lv, (.slice none 0 0), (.int .i64 (0 : Nat)), (.slice none 0 0)], cL lv 3 (encN .i64) (symL l), cL ov 3 (encN .i64) (l.take (64 * k))] ++ cs) _ := (hs_21.adds hp_7).mid
      have hS_3 : Sat w0 ([_, _, _] ++ cs) _ := hs_22.sub ((.cons _ (.cons_cons _ (.cons_cons _ (.cons_cons _ (.refl _))))))
      refine ⟨hS_3, ?_⟩
      refine .f rfl (.call ent46 rfl ((hdecode_ok _ _ (symL l) (packB (hufB (symL l) (chk l k))) (chk l k) ((hufB (symL l) (chk l k)).length) ((min 64 (l.length - k * 64))) _ (hs_22.rdL 2 rfl) (hbr_2.ext hs_22.ext) (by omega) (validB_ok hok) (packB_lt _) (by rw [packB_length]; omega) (by rw [packB_length]; omega) (by omega) (by rw [show min 64 (l.length - k * 64) = (chk l k).length by rw [hcl]; omega]; exact hdec_ok (GoodLens.of_ok hok) _ (fun y hy => (symL_pos hl.mx y (chk_mem hy)).2))).mono fun r_8 w_15 h_8 => ?_))
      obtain ⟨dv_1, rfl, hp_8⟩ := h_8
      have hs_23 : Sat w0 ([cObj g 51 [bv_6, (.bool true)], cObj b_1 65 [(.int .i64 l.length), (.int .i64 (1 : Nat)), lv, (.slice none 0 0), (.int .i64 (0 : Nat)), (.slice none 0 0)], cL lv 3 (encN .i64) (symL l), cL ov 3 (encN .i64) (l.take (64 * k)), cL dv_1 3 (encN .i64) (chk l k)] ++ cs) _ := (hs_22.adds hp_8).mid
      have hS_4 : Sat w0 ([_, _, _] ++ cs) _ := hs_23.sub ((.cons _ (.cons_cons _ (.cons_cons _ (.cons_cons _ (.cons _ (.refl _)))))))
      refine ⟨hS_4, ?_⟩
      refine .m rfl rfl hS_4 <| .e rfl (fun w' hS' => .extract rfl rfl) hS_4 <| .e rfl (fun w' hS' => .extract rfl rfl) hS_4 <| .e rfl (fun w' hS' => .assign rfl) hS_4 <| .e rfl (fun w' hS' => .assign rfl) hS_4 <| .fin <| .seq <| .seq <| .weaken [(0, _), (4, _), (7, _), (8, _), (9, _), (10, _), (11, _), (47, _), (52, _)] ⟨rfl, rfl, rfl, rfl, rfl, rfl, rfl, rfl, rfl, trivial⟩ <| .region <| .m rfl rfl <| .e rfl (.nilCheck rfl) <| .e rfl (.fieldAddr fld51_1 rfl rfl) <| .e rfl (.load scal4 rfl (hs_23.cell (i := 0) (j := 1) rfl rfl)) <| .e rfl (.notB rfl) <| .m rfl rfl <| .yes rfl rfl rfl (rfl) <| .m rfl rfl <| .yes rfl rfl rfl (rfl) <| .e rfl (.neqN (a := 0) (b := 0) rfl rfl) <| .e rfl (.pickN rfl (rfl) rfl) <| .m rfl rfl <| .yes rfl rfl rfl (rfl) <| .m rfl rfl <| .yes rfl rfl rfl (rfl) <| .e rfl (.lenL Tryz.underlying27 rfl (hs_23.rdL 4 rfl)) <| .yes rfl rfl rfl (rfl) <| .m rfl rfl <| .yes rfl rfl rfl (rfl) <| .f rfl (.call ent47 rfl ((ssize_ok _ (l.length) (k) _ (hs_23.cell (i := 1) (j := 0) rfl rfl) (by omega) (by omega)).mono fun r_9 w_16 h_9 => ?_))
      obtain ⟨rfl, hp_9⟩ := h_9
      have hs_24 : Sat w0 ([cObj g 51 [bv_6, (.bool true)], _, _, _, cL dv_1 3 (encN .i64) (chk l k)] ++ cs) _ := (hs_23.adds hp_9).mid
      refine .yes rfl rfl rfl (rfl) <| .e rfl (.neqN rfl rfl) <| .e rfl (.pickN rfl (rfl) rfl) <| .nil <| .condF rfl (decide_eq_false (fun h => h (by rw [chk_length]; omega))) <| .skip <| .region <| .m rfl rfl <| .m rfl rfl <| .f rfl (.appendL 3 sl27 hs_24 rfl rfl rfl Tryz.underlying27 (hs_24.rdL 4 rfl) (by simp; omega) (by simp; omega) fun v_3 w_17 hs_25 hch_6 => ?_)
      refine .s rfl rfl <| .nil <| .region <| .m rfl rfl <| .e rfl (.addI (b := 1) rfl rfl (by omega)) <| .s rfl rfl <| .nil ?_
      have hs_26 : Sat w0 ([_, _, _, _] ++ cs) w_17 := hs_25.sub ((.cons_cons _ (.cons_cons _ (.cons_cons _ (.cons_cons _ (.cons _ (.refl _)))))))
      have hs_27 : Sat w0 ([cObj g 51 [bv_6, (.bool true)], cObj b_1 65 [(.int .i64 l.length), (.int .i64 (1 : Nat)), lv, (.slice none 0 0), (.int .i64 (0 : Nat)), (.slice none 0 0)], cL lv 3 (encN .i64) (symL l), cL v_3 3 (encN .i64) (l.take (64 * (k + 1)))] ++ cs) w_17 := by
        have hq : l.take (64 * k) ++ chk l k = l.take (64 * (k + 1)) := take_blk l k
        rw [← hq]; exact hs_26
      exact ⟨(k + 1, bv_6, v_3), ⟨rfl, rfl, rfl, rfl, trivial⟩, ⟨hs_27, by omega, hbv_6⟩, (show (nbk l.length - (k + 1)) < (nbk l.length - k) from by omega)⟩
    · refine .exit0 <| .seq <| .draw (fun w' => Sat w0 ([cObj g 51 [bv2, (.bool true)], cObj b_1 65 [(.int .i64 l.length), (.int .i64 (1 : Nat)), lv, (.slice none 0 0), (.int .i64 (0 : Nat)), (.slice none 0 0)], cL lv 3 (encN .i64) (symL l), cL ov 3 (encN .i64) (l.take (64 * k))] ++ cs) w') (.free 0 (.free 1 (.free 2 (.free 3 (.free 4 (.free 5 (.free 6 .fin))))))) mixed (by kernel_rfl) ?_
      have hs_28 := hs_18.drew
      refine .m rfl rfl hs_28 <| .m rfl rfl hs_28 <| .e rfl (fun w' hS' => .nilCheck rfl) hs_28 <| .e rfl (fun w' hS' => .fieldAddr fld51_1 rfl rfl) hs_28 <| .e rfl (fun w' hS' => .load scal4 rfl (hS'.cell (i := 0) (j := 1) rfl rfl)) hs_28 <| .e rfl (fun w' hS' => .assign rfl) hs_28 <| .e rfl (fun w' hS' => .assign rfl) hs_28 <| .fin <| .ret ?_
      show PostK _ _ _ _ _ _
      refine post2 rfl rfl rfl ?_
      have hs_29 : Sat w0 ([cObj g 51 [bv2, (.bool true)], cL ov 3 (encN .i64) (l.take (64 * k))] ++ cs) w_11.drew := hs_28.sub ((.cons_cons _ (.cons _ (.cons _ (.cons_cons _ (.refl _))))))
      have hs_30 : Sat w0 ([cObj g 51 [bv2, (.bool true)], cL ov 3 (encN .i64) (l)] ++ cs) w_11.drew := by
        have hq : l.take (64 * k) = l := by rw [List.take_of_length_le (by omega)]
        rw [← hq]; exact hs_29
      exact ⟨_, rfl, _, hs_30⟩
theorem numbers_k (w0 w : World) (cs : List Chunk) (g : Nat) (bv : Value) (l : List Nat) (hs : Sat w0 ([cObj g 51 [bv, .bool true]] ++ cs) w) (hl : OkN l) (hb : RdL w0 bv (encN .u8) (plK l (kindN l))) :
    CallsV Tryz.prog 19 [.pointer (some ⟨g, 0, none⟩)] w fun r w' => ∃ v', r = .tuple #[v', .bool true] ∧ ∃ bv', Sat w0 ([cObj g 51 [bv', .bool true], cL v' 3 (encN .i64) l] ++ cs) w' := by
  by_cases h : kindN l = 1
  · rw [h] at hb; exact numbers_1 w0 w cs g bv l hs hl hb
  · have h0 : kindN l = 0 := by have := kindN_le l; omega
    rw [h0] at hb; exact numbers_0 w0 w cs g bv l hs hl hb
theorem sealed_lt {b p : List Nat} (he : b = sealN p) (hp : ∀ x ∈ p, x < 256) : ∀ x ∈ b, x < 256 := fun x hx => by
  rw [he] at hx
  rcases List.mem_append.1 hx with hx | hx
  · exact hp x hx
  · exact byts_lt _ x hx
theorem tdecode_ok (v : Value) (b l : List Nat) (w : World) (hv : RdL w v (encN .u8) b) (hl : OkN l) (he : b = sealN (plK l (kindN l))) :
    CallsV Tryz.prog 5 [v] w fun r w' => ∃ g lv bv ps, r = .tuple #[.pointer (some ⟨g, 0, none⟩), .int .i64 0] ∧ ptsOf ps = ptsK l ∧ Sat w [cObj g 65 [(.int .i64 l.length), (.int .i64 (kindN l)), lv, bv, (.int .i64 (0 : Nat)), (.slice none 0 0)], cL lv 3 (encN .i64) (lensK l), cL bv 97 (encPt) (ps), cParts (ps), cL (Value.slice none 0 0) 3 (encN .i64) ([])] w' := by
  have hs0 := Sat.start w
  refine callsV_of Tryz.func5 rfl rfl ?_
  refine .seq <| .region <| .s rfl rfl <| .s rfl rfl <| .nil <| .seq <| .region <| .m rfl rfl <| .f rfl (.call ent18 rfl ((unseal_p _ (b) (plK l (kindN l)) _ (hv.ext hs0.ext) (he) (plK_lt (kindN_le l)) (by have := plK_len hl (kindN_le l); omega)).mono fun r_1 w_1 h_1 => ?_))
  obtain ⟨uv_1, rfl, hp_1⟩ := h_1
  have hs_1 := hs0.adds hp_1
  refine .m rfl rfl <| .e rfl (.extract rfl rfl) <| .e rfl (.extract rfl rfl) <| .s rfl rfl <| .s rfl rfl <| .nil <| .seq <| .seq <| .region <| .m rfl rfl <| .e rfl (.neqN (a := 0) (b := 0) rfl rfl) <| .nil <| .condF rfl (rfl) <| .skip <| .seq ?_
  have hpay := hs_1.rdL 0 rfl
  have hv1 := hv.ext hs_1.ext
  have hsb : Sat w_1 [] w_1 := Sat.start _
  refine .region <| .m rfl rfl <| .e rfl (.build bt51 rfl ⟨(hpay.ext hsb.ext).oneCell, rfl, trivial⟩ rfl) <| .f rfl (.alloc hsb zero51 fun b_1 w_2 hs_2 hch_1 hb_1 => ?_)
  refine .f rfl (.storeObjA (vs := [uv_1, (.bool true)]) agg51 hs_2 (i := 0) rfl rfl rfl rfl (fun v h => by simp only [List.mem_cons, List.not_mem_nil, or_false] at h; rcases h with rfl | rfl; exact (hpay.ext hs_2.ext).oneCell; exact rfl) fun w_3 hs_3 hch_2 => ?_)
  have hs_3d : Sat w_1 [cObj b_1 51 [uv_1, (.bool true)]] _ := hs_3
  refine .nil <| .seq <| .region ?_
  have hA_1 : Sat w_1 ([cObj b_1 51 [uv_1, (.bool true)]] ++ ([] ++ [])) _ := (Sat.order [0] (by decide) hs_3d.tail).cut 1
  refine .f rfl (.call ent19 rfl ((numbers_k _ _ _ _ _ (l) hA_1 (hl) hpay).mono fun r_2 w_4 h_2 => ?_))
  obtain ⟨nv_1, rfl, bv_1, hp_2⟩ := h_2
  have hs_4 : Sat w_1 [cObj b_1 51 [bv_1, (.bool true)], cL nv_1 3 (encN .i64) (l)] _ := (Sat.order [0, 1] (by decide) hp_2.join).untail
  refine .m rfl rfl <| .e rfl (.extract rfl rfl) <| .e rfl (.extract rfl rfl) <| .s rfl rfl <| .s rfl rfl <| .nil <| .seq <| .seq <| .region <| .m rfl rfl <| .e rfl (.notB rfl) <| .nil <| .condF rfl (rfl) <| .skip <| .seq <| .region <| .m rfl rfl <| .f rfl (.call ent13 rfl ((build_ok _ (l) _ (hs_4.rdL 1 rfl) (hl)).mono fun r_3 w_5 h_3 => ?_))
  obtain ⟨g_1, lv_1, bv_2, ps_1, rfl, hps_1, hp_3⟩ := h_3
  have hs_5 := hs_4.adds hp_3
  refine .m rfl rfl <| .e rfl (.extract rfl rfl) <| .e rfl (.extract rfl rfl) <| .s rfl rfl <| .s rfl rfl <| .nil <| .seq <| .seq ?_
  have hbb : ∀ x ∈ b, x < 256 := fun x hx => sealed_lt he (plK_lt (kindN_le l)) x hx
  have hsb2 : ∀ x ∈ sealN (payl l.length (kindN l) (lensK l) (ptsOf ps_1)), x < 256 := fun x hx => hbb x (by rw [he, ← payl_K, ← hps_1]; exact hx)
  refine .region <| .m rfl rfl <| .e rfl (.neqN (a := 0) (b := 0) rfl rfl) <| .m rfl rfl <| .yes rfl rfl rfl (rfl) <| .m rfl rfl <| .yes rfl rfl rfl (rfl) <| .f rfl (.call ent11 rfl ((sencode_ok g_1 ((l).length) (kindN l) lv_1 bv_2 (lensK l) ps_1 _ (hs_5.cell (i := 2) (j := 0) rfl rfl) (hs_5.cell (i := 2) (j := 1) rfl rfl) (hs_5.cell (i := 2) (j := 2) rfl rfl) (hs_5.cell (i := 2) (j := 3) rfl rfl) (hs_5.rdL 3 rfl) (hs_5.rdL 4 rfl) (hs_5.rdParts 5 rfl) (hl.len) (kindN_le _) (lensK_len hl) ((ptsK_b hps_1 hl).1) ((ptsK_b hps_1 hl).2) (by rw [hps_1]; exact ptsK_lt _)).mono fun r_4 w_6 h_4 => ?_))
  have hp_4 := h_4
  have hs_6 := hs_5.adds hp_4
  refine .yes rfl rfl rfl (rfl) <| .m rfl rfl <| .yes rfl rfl rfl (rfl) <| .f rfl (.call ent20 rfl ((beq_ok _ _ (sealN (payl ((l).length) (kindN l) (lensK l) (ptsOf ps_1))) (b) _ (hs_6.rdL 7 rfl) (hv1.ext hs_6.ext) (hsb2) (hbb)).mono fun r_5 w_7 h_5 => ?_))
  obtain ⟨rfl, hp_5⟩ := h_5
  have hs_7 : Sat w_1 [_, _, _, _, _, _, _, _] _ := hs_6.adds hp_5
  refine .yes rfl rfl rfl (rfl) <| .e rfl (.notP rfl) <| .e rfl (.pickN rfl (rfl) rfl) <| .nil <| .condF rfl (decide_eq_false (fun hne => hne (by rw [hps_1, payl_K, he]))) <| .skip <| .seq <| .region <| .m rfl rfl <| .s rfl rfl <| .s rfl rfl <| .nil <| .ret ?_
  show PostK _ _ _ _ _ _
  refine post2 rfl rfl rfl ?_
  have hs_8 : Sat w_1 [_, _, _, _, _] w_7 := hs_7.sub ((.cons _ (.cons _ (.cons_cons _ (.cons_cons _ (.cons_cons _ (.cons_cons _ (.cons_cons _ (.cons _ .slnil)))))))))
  exact ⟨g_1, lv_1, bv_2, ps_1, rfl, hps_1, (hs_1.adds hs_8).sub (.cons _ (.refl _))⟩
end Go.Proofs.YtecfgjdpghddgaaGreat
