/- The walks of the functions of F07d, printed by our own program (kwgen.py) out of our descriptions (base.py). -/
import Derived.Test.YtecfgjdpghddgaaGreatF07s
import Derived.Test.YtecfgjdpghddgaaGreatF07t
import Derived.Test.YtecfgjdpghddgaaGreatM07c
import Derived.Test.YtecfgjdpghddgaaGreatF16s
import Derived.Test.YtecfgjdpghddgaaGreatTab
import Derived.Test.YtecfgjdpghddgaaGreatF07a
set_option linter.unusedVariables false
set_option linter.unusedSimpArgs false
set_option linter.unusedSectionVars false
namespace Go.Proofs.YtecfgjdpghddgaaGreat
open Go.RowKit Go.Kw
set_option maxRecDepth 100000
theorem lt_app {a b : List Nat} (ha : ∀ y ∈ a, y < 256) (hb : ∀ y ∈ b, y < 256) : ∀ y ∈ a ++ b, y < 256 := fun y hy => (List.mem_append.1 hy).elim (ha y) (hb y)
theorem seal_lt {p : List Nat} (hp : ∀ x ∈ p, x < 256) : ∀ x ∈ sealN p, x < 256 := lt_app hp (byts_lt _)
theorem take_seal (p : List Nat) : (sealN p).take ((sealN p).length - 4) = p := by
  rw [sealN_length, Nat.add_sub_cancel, sealN, List.take_left']; rfl
theorem seal_inj {p q : List Nat} (h : sealN p = sealN q) : p = q := by rw [← take_seal p, h, take_seal]
theorem runseal_any (v : Value) (b : List Nat) (w : World) (hv : RdL w v (encN .u8) b) (hb : ∀ x ∈ b, x < 256) (hn : b.length ≤ 1000000) :
    CallsV Tryz.prog 21 [v] w fun r w' => (∃ u, r = .tuple #[u, .bool false] ∧ Sat w [] w' ∧ ¬ ∃ p, b = sealN p) ∨ ∃ v' p, b = sealN p ∧ r = .tuple #[v', .bool true] ∧ Sat w [cL v' 5 (encN .u8) p] w' := by
  have hs0 := Sat.start w
  refine callsV_of Tryz.func21 rfl rfl ?_
  refine .seq <| .region <| .s rfl rfl <| .s rfl rfl <| .nil <| .seq <| .seq <| .region <| .m rfl rfl <| .e rfl (.lenL Tryz.underlying22 rfl (hv.ext hs0.ext)) <| .e rfl (.lssN (b := 4) rfl rfl) <| .nil <| .condD rfl (fun hc_1 => ?_) (fun hc_1 => ?_)
  · refine .seq <| .region <| .s rfl rfl <| .s rfl rfl <| .nil <| .ret ?_
    show PostK _ _ _ _ _ _
    refine post2 rfl rfl rfl ?_
    have hs_1 : Sat w [] w := hs0.sub (.slnil)
    exact .inl ⟨_, rfl, hs_1, fun ⟨p, hp⟩ => by have := congrArg List.length hp; rw [sealN_length] at this; omega⟩
  · refine .skip <| .seq <| .region <| .m rfl rfl <| .m rfl rfl <| .e rfl (.lenL Tryz.underlying22 rfl (hv.ext hs0.ext)) <| .e rfl (.subI (b := 4) rfl rfl (by omega) (by omega)) <| .e rfl (.sliceL (E := encN .u8) (a := 0) (c := (b.length - 4)) sl22 rfl (hv.ext hs0.ext) rfl ⟨_, rfl⟩ (Nat.zero_le _) (by omega)) <| .s rfl rfl <| .nil <| .seq <| .draw (fun w' => Sat w [] w') (.free 0 (.free 2 (.free 5 (.free 6 (.one 1 (.one 3 (.free 8 (.one 4 (.free 7 (.free 9 .fin)))))))))) mixed (by kernel_rfl) ?_
    have hs_2 := hs0.drew
    refine .m rfl rfl hs_2 <| .m rfl rfl hs_2 <| .m rfl rfl hs_2 <| .e rfl (fun w' hS' => .bytesStr Tryz.underlying22 Tryz.underlying9 Tryz.underlying5 rfl (hv.ext hS'.ext)) hs_2 ?_
    have hs_3 := hs_2.newNilL 5 (encN .u8)
    refine .f rfl (.appendL 0 sl22 hs_3 rfl rfl rfl Tryz.underlying22 (((hv.ext hs_3.ext)).sub (a := 0) (b := (b.length - 4)) (Nat.zero_le _) (by omega)) (by simp only [List.length_nil, List.length_drop, List.length_take]; omega) (by simp only [List.length_nil, List.length_drop, List.length_take]; omega) fun v_1 w_1 hs_4 hch_1 => ?_)
    have hS_1 : Sat w [] _ := hs_4.sub ((.cons _ .slnil))
    refine ⟨hS_1, ?_⟩
    refine .f rfl (.call ent48 rfl ((rseal_ok _ (((b).take (b.length - 4)).drop 0) _ (((hv.ext hs_4.ext)).sub (a := 0) (b := (b.length - 4)) (Nat.zero_le _) (by omega)) (fun y hy => hb y (List.mem_of_mem_take (List.mem_of_mem_drop hy))) (by simp only [List.length_drop, List.length_take]; omega)).mono fun r_1 w_2 h_1 => ?_))
    have hp_1 := h_1
    have hs_5 := hs_4.adds hp_1
    have hS_2 : Sat w [] _ := hs_5.sub ((.cons _ (.cons _ .slnil)))
    refine ⟨hS_2, ?_⟩
    refine .e rfl (fun w' hS' => .assign rfl) hS_2 <| .f rfl (.ev (Ev.bytesStr Tryz.underlying22 Tryz.underlying9 Tryz.underlying5 rfl (hs_5.rdL 1 rfl)) ⟨hS_2, ?_⟩)
    refine .e rfl (fun w' hS' => .strEql rfl rfl) hS_2 <| .e rfl (fun w' hS' => .assign rfl) hS_2 <| .fin <| .ret ?_
    show PostK _ _ _ _ _ _
    refine post2 rfl rfl rfl ?_
    have hs_6 : Sat w [cL v_1 5 (encN .u8) (((b).take (b.length - 4)).drop 0)] w_2 := hs_5.sub ((.cons_cons _ (.cons _ .slnil)))
    have hs_7 : Sat w [cL v_1 5 (encN .u8) (b.take (b.length - 4))] w_2 := by
      have hq : ((b).take (b.length - 4)).drop 0 = b.take (b.length - 4) := by simp
      rw [← hq]; exact hs_6
    rcases Decidable.em ((strOf (sealN (((b).take (b.length - 4)).drop 0))) = (strOf (b))) with h9 | h9
    · have h8 := (strOf_inj (seal_lt fun y hy => hb y (List.mem_of_mem_take (List.mem_of_mem_drop hy))) hb).1 h9
      rw [List.drop_zero] at h8
      rw [decide_eq_true h9]
      exact .inr ⟨_, _, h8.symm, rfl, hs_7⟩
    · rw [decide_eq_false h9]
      exact .inl ⟨_, rfl, hs_7.sub (.cons _ .slnil), fun ⟨p, hp⟩ => h9 (by subst hp; rw [List.drop_zero, take_seal])⟩
theorem runseal_good {v : Value} {b p0 : List Nat} {w : World} (hv : RdL w v (encN .u8) b) (hb : ∀ x ∈ b, x < 256) (hn : b.length ≤ 1000000) (h : b = sealN p0) : CallsV Tryz.prog 21 [v] w fun r w' => ∃ v', r = .tuple #[v', .bool true] ∧ Sat w [cL v' 5 (encN .u8) p0] w' :=
  (runseal_any v b w hv hb hn).mono fun r w' hq => by
    rcases hq with ⟨_, _, _, hno⟩ | ⟨v', p, hp, h1, h2⟩
    · exact absurd ⟨p0, h⟩ hno
    · have := seal_inj (hp.symm.trans h); subst this; exact ⟨v', h1, h2⟩
theorem runseal_bad {v : Value} {b : List Nat} {w : World} (hv : RdL w v (encN .u8) b) (hb : ∀ x ∈ b, x < 256) (hn : b.length ≤ 1000000) (h : ¬ ∃ p, b = sealN p) : CallsV Tryz.prog 21 [v] w fun r w' => ∃ u, r = .tuple #[u, .bool false] ∧ Sat w [] w' :=
  (runseal_any v b w hv hb hn).mono fun r w' hq => by
    rcases hq with ⟨u, h1, h2, _⟩ | ⟨v', p, hp, _⟩
    · exact ⟨u, h1, h2⟩
    · exact absurd ⟨p, hp⟩ h
theorem rcheck_no {v : Value} {l : List Nat} {w : World} (hv : RdL w v (encN .i64) l) (hz : l.length ≤ 4096) (hbad : ¬ OkN l) : CallsV Tryz.prog 25 [v] w fun r w' => r = .int .i64 ((8 : Nat) : Int) ∧ Sat w [] w' := by
  have h1 : ∃ x ∈ l, 1024 ≤ x := Classical.byContradiction fun h => hbad ⟨hz, fun x hx => Nat.lt_of_not_le fun h9 => h ⟨x, hx, h9⟩⟩
  obtain ⟨x, hx, h9⟩ := h1
  exact rcheck_range v (l.map fun x : Nat => (x : Int)) w (RdL_toI hv) (by rw [List.length_map]; exact hz) ⟨(x : Int), List.mem_map_of_mem hx, .inr (by omega)⟩
set_option maxHeartbeats 4000000 in
theorem rtdec_ok (v : Value) (b : List Nat) (w : World) (hv : RdL w v (encN .u8) b) (hb : ∀ x ∈ b, x < 256) (hbn : b.length ≤ 900000) :
    CallsV Tryz.prog 6 [v] w fun r w' => (∃ l v', OkN l ∧ b = sealN (plK l (kindN l)) ∧ (∀ l2, OkN l2 → b = sealN (plK l2 (kindN l2)) → l2 = l) ∧ r = .tuple #[v', .bool true] ∧ Sat w [cL v' 3 (encN .i64) l] w') ∨ (r = .tuple #[.slice none 0 0, .bool false] ∧ Sat w [] w' ∧ ∀ l, OkN l → b ≠ sealN (plK l (kindN l))) := by
  have hs0 := Sat.start w
  refine callsV_of Tryz.func6 rfl rfl ?_
  refine .seq <| .region <| .s rfl rfl <| .s rfl rfl <| .nil <| .seq ?_
  rcases Classical.em (∃ p, b = sealN p) with hun | hun
  · obtain ⟨p0, hp0⟩ := hun
    have hpb : ∀ y ∈ p0, y < 256 := fun y hy => hb y (by rw [hp0]; exact List.mem_append_left _ hy)
    have hpn : p0.length + 4 ≤ 900000 := by rw [← sealN_length, ← hp0]; exact hbn
    have hgd : ∀ l, OkN l → b = sealN (plK l (kindN l)) → Gd p0 l := fun l hl he => ⟨hl, seal_inj (hp0.symm.trans he)⟩
    refine .region <| .m rfl rfl <| .f rfl (.call ent21 rfl ((runseal_good (hv.ext hs0.ext) hb (by omega) hp0).mono fun r_1 w_1 h_1 => ?_))
    obtain ⟨vp, rfl, hp_1⟩ := h_1
    have hs_1 := hs0.adds hp_1
    refine .m rfl rfl <| .e rfl (.extract rfl rfl) <| .e rfl (.extract rfl rfl) <| .s rfl rfl <| .s rfl rfl <| .nil <| .seq <| .seq <| .region <| .m rfl rfl <| .e rfl (.notB rfl) <| .nil <| .condF rfl (rfl) <| .skip <| .seq ?_
    have hpay := hs_1.rdL 0 rfl
    have hv1 := hv.ext hs_1.ext
    have hsb : Sat w_1 [] w_1 := Sat.start _
    refine .region <| .m rfl rfl <| .f rfl (.call ent22 rfl ((rtk_ok _ (p0) _ (hpay.ext hsb.ext) (hpb)).mono fun r_2 w_2 h_2 => ?_))
    obtain ⟨rfl, hp_2⟩ := h_2
    have hs_2 := hsb.adds hp_2
    refine .m rfl rfl <| .e rfl (.extract rfl rfl) <| .e rfl (.extract rfl rfl) <| .e rfl (.extract rfl rfl) <| .s rfl rfl <| .s rfl rfl <| .s rfl rfl <| .nil <| .seq <| .seq ?_
    obtain ⟨c, hc256, hcget⟩ := el_or p0 (uvR p0).2.1 hpb
    refine .mid (fun L' w' => Weak [(0, v), (2, (.slice none 0 0)), (3, (.bool false)), (4, vp), (5, (.bool true)), (6, (.int .u64 ((uvR p0).1 : Nat))), (7, (.int .i64 ((uvR p0).2.1 : Nat))), (8, (.int .i64 ((uvR p0).2.2 : Nat))), (31, (.bool false)), (56, (.bool (decide (((((uvR p0).2.2 ≠ 0) ∨ (4096 < (uvR p0).1)) ∨ (p0.length ≤ (uvR p0).2.1)) ∨ (1 < c)))))] L' ∧ Sat w_1 [] w') ?_ ?_
    · refine .region <| .m rfl rfl <| .e rfl (.neqN (b := 0) rfl rfl) <| .m rfl rfl ?_
      by_cases hg_1 : (uvR p0).2.2 ≠ 0
      · refine .no rfl rfl rfl (decide_eq_true hg_1) rfl <| .no rfl rfl rfl (decide_eq_true hg_1) rfl <| .e rfl (.pickY rfl (decide_eq_true hg_1) rfl) <| .m rfl rfl <| .no rfl rfl rfl (rfl) rfl <| .no rfl rfl rfl (rfl) rfl <| .no rfl rfl rfl (rfl) rfl <| .no rfl rfl rfl (rfl) rfl <| .e rfl (.pickY rfl (rfl) rfl) <| .m rfl rfl <| .no rfl rfl rfl (rfl) rfl <| .no rfl rfl rfl (rfl) rfl <| .no rfl rfl rfl (rfl) rfl <| .no rfl rfl rfl (rfl) rfl <| .no rfl rfl rfl (rfl) rfl <| .e rfl (.pickY rfl (rfl) rfl) <| .nil ?_
        exact ⟨⟨rfl, rfl, rfl, rfl, rfl, rfl, rfl, rfl, rfl, congrArg some (congrArg Value.bool (by simp [hg_1])), trivial⟩, hs_2⟩
      · refine .yes rfl rfl rfl (decide_eq_false hg_1) <| .m rfl rfl <| .yes rfl rfl rfl (decide_eq_false hg_1) <| .e rfl (.gtrN (b := 4096) rfl rfl) <| .e rfl (.pickN rfl (decide_eq_false hg_1) rfl) <| .m rfl rfl ?_
        by_cases hg_2 : 4096 < (uvR p0).1
        · refine .no rfl rfl rfl (decide_eq_true hg_2) rfl <| .no rfl rfl rfl (decide_eq_true hg_2) rfl <| .no rfl rfl rfl (decide_eq_true hg_2) rfl <| .no rfl rfl rfl (decide_eq_true hg_2) rfl <| .e rfl (.pickY rfl (decide_eq_true hg_2) rfl) <| .m rfl rfl <| .no rfl rfl rfl (rfl) rfl <| .no rfl rfl rfl (rfl) rfl <| .no rfl rfl rfl (rfl) rfl <| .no rfl rfl rfl (rfl) rfl <| .no rfl rfl rfl (rfl) rfl <| .e rfl (.pickY rfl (rfl) rfl) <| .nil ?_
          exact ⟨⟨rfl, rfl, rfl, rfl, rfl, rfl, rfl, rfl, rfl, congrArg some (congrArg Value.bool (by simp [hg_1, hg_2])), trivial⟩, hs_2⟩
        · refine .yes rfl rfl rfl (decide_eq_false hg_2) <| .m rfl rfl <| .yes rfl rfl rfl (decide_eq_false hg_2) <| .m rfl rfl <| .yes rfl rfl rfl (decide_eq_false hg_2) <| .e rfl (.lenL Tryz.underlying22 rfl (hpay.ext hs_2.ext)) <| .yes rfl rfl rfl (decide_eq_false hg_2) <| .e rfl (.geqN rfl rfl) <| .e rfl (.pickN rfl (decide_eq_false hg_2) rfl) <| .m rfl rfl ?_
          by_cases hg_3 : p0.length ≤ (uvR p0).2.1
          · refine .no rfl rfl rfl (decide_eq_true hg_3) rfl <| .no rfl rfl rfl (decide_eq_true hg_3) rfl <| .no rfl rfl rfl (decide_eq_true hg_3) rfl <| .no rfl rfl rfl (decide_eq_true hg_3) rfl <| .no rfl rfl rfl (decide_eq_true hg_3) rfl <| .e rfl (.pickY rfl (decide_eq_true hg_3) rfl) <| .nil ?_
            exact ⟨⟨rfl, rfl, rfl, rfl, rfl, rfl, rfl, rfl, rfl, congrArg some (congrArg Value.bool (by simp [hg_1, hg_2, hg_3])), trivial⟩, hs_2⟩
          · refine .yes rfl rfl rfl (decide_eq_false hg_3) <| .m rfl rfl <| .yes rfl rfl rfl (decide_eq_false hg_3) <| .m rfl rfl <| .yes rfl rfl rfl (decide_eq_false hg_3) <| .e rfl (.idxL (E := encN .u8) sl22 rfl rfl (hpay.ext hs_2.ext) (by omega)) <| .yes rfl rfl rfl (decide_eq_false hg_3) <| .e rfl (.ldL (E := encN .u8) scal5 rfl (hpay.ext hs_2.ext) (hcget (by omega)) (by decide) rfl) <| .yes rfl rfl rfl (decide_eq_false hg_3) <| .e rfl (.gtrN (b := 1) rfl rfl) <| .e rfl (.pickN rfl (decide_eq_false hg_3) rfl) <| .nil ?_
            exact ⟨⟨rfl, rfl, rfl, rfl, rfl, rfl, rfl, rfl, rfl, congrArg some (congrArg Value.bool (by simp [hg_1, hg_2, hg_3])), trivial⟩, hs_2⟩
    · rintro L' w_3 ⟨hw_1, hs_3⟩
      refine .weaken _ hw_1 <| .condD rfl (fun hc_1 => ?_) (fun hc_1 => ?_)
      · refine .seq <| .region <| .s rfl rfl <| .s rfl rfl <| .nil <| .ret ?_
        show PostK _ _ _ _ _ _
        refine post2 rfl rfl rfl ?_
        have hs_4 : Sat w_1 [] w_3 := hs_3.sub (.slnil)
        refine .inr ⟨rfl, (hs_1.adds hs_4).sub (.cons _ .slnil), fun l hl he => ?_⟩
        have hg := hgd l hl he
        have h1 := gd_head hg
        have h3 := hg.1.len
        have h4 := kindN_le l
        have h2 := hcget h1.2.2.1
        rw [h1.2.2.2.1] at h2
        have h5 := Option.some.inj h2
        have h9 := hc_1
        omega
      · refine .skip <| .seq ?_
        have hok5 : (uvR p0).2.2 = 0 ∧ (uvR p0).1 ≤ 4096 ∧ (uvR p0).2.1 < p0.length ∧ c ≤ 1 := by have h9 := hc_1; omega
        have hcK : ∀ l, Gd p0 l → c = kindN l := fun l hg => by have h1 := (gd_head hg).2.2.2.1; rw [hcget hok5.2.2.1] at h1; exact Option.some.inj h1
        refine .region <| .m rfl rfl <| .m rfl rfl <| .e rfl (.idxL (E := encN .u8) sl22 rfl rfl (hpay.ext hs_3.ext) (by omega)) <| .e rfl (.ldL (E := encN .u8) scal5 rfl (hpay.ext hs_3.ext) (hcget (by omega)) (by decide) rfl) <| .s rfl rfl <| .nil <| .seq <| .region <| .m rfl rfl <| .m rfl rfl <| .e rfl (.addI (b := 1) rfl rfl (by (try simp only [IntKind.bits]); omega)) <| .e rfl (.sliceL (E := encN .u8) (a := ((uvR p0).2.1 + 1)) (c := (p0).length) sl22 rfl (hpay.ext hs_3.ext) ⟨_, rfl⟩ rfl (by omega) (Nat.le_refl _)) <| .s rfl rfl <| .nil ?_
        obtain ⟨p1, hp1⟩ : ∃ p1, p1 = ((p0).take ((p0).length)).drop ((uvR p0).2.1 + 1) := ⟨_, rfl⟩
        have hpd : p1 = p0.drop ((uvR p0).2.1 + 1) := by rw [hp1, List.take_length]
        have hr1 : RdL w_1 (subSl (encN .u8).s vp ((uvR p0).2.1 + 1) ((p0).length)) (encN .u8) p1 := by rw [hp1]; exact hpay.sub (a := (uvR p0).2.1 + 1) (by omega) (Nat.le_refl _)
        have hb1 : ∀ y ∈ p1, y < 256 := fun y hy => hpb y (List.mem_of_mem_drop (by rw [← hpd]; exact hy))
        have hn1 : p1.length ≤ 900000 := by rw [hpd, List.length_drop]; omega
        have hG1 : ∀ l, Gd p0 l → p1 = hdT l ∧ (uvR p0).1 = l.length := fun l hg => ⟨hpd.trans (gd_head hg).2.2.2.2, (gd_head hg).2.1⟩
        refine .seq <| .region <| .s rfl rfl <| .s rfl rfl <| .nil <| .seq <| .seq ?_
        rcases (show c = 0 ∨ c = 1 by omega) with hk0 | hk1
        · refine .region <| .m rfl rfl <| .e rfl (.eqlN (b := 1) rfl rfl) <| .nil <| .condF rfl (decide_eq_false (by omega)) <| .skip <| .seq <| .block ?_
          have hs_5 := hs_3.newNilL 3 (encN .i64)
          refine .loop (α := Nat × Value × List Nat × Value × List Nat) (fun (k, bv3, l3, ov, out) => [(0, v), (4, bv3), (6, (.int .u64 ((uvR p0).1 : Nat))), (9, (.int .u8 c)), (10, (.slice none 0 0)), (11, ov)]) (fun (k, bv3, l3, ov, out) w' => Sat w_1 [cL ov 3 (encN .i64) (out)] w' ∧ (RdL w_1 bv3 (encN .u8) l3) ∧ (∀ y ∈ l3, y < 256) ∧ (l3.length ≤ 900000) ∧ (out.length ≤ (uvR p0).1) ∧ (∀ l, Gd p0 l → out = l.take (64 * k) ∧ l3 = bkT l k)) (fun (k, bv3, l3, ov, out) => (uvR p0).1 - out.length) (0, (subSl (encN .u8).s vp ((uvR p0).2.1 + 1) ((p0).length)), p1, (.slice none 0 0), []) ⟨rfl, rfl, rfl, rfl, rfl, rfl, trivial⟩ ⟨hs_5, hr1, hb1, hn1, Nat.zero_le _, fun l hg => ⟨rfl, by have h9 := (hG1 l hg).1; rw [hdT, if_neg (by rw [← hcK l hg]; omega)] at h9; exact h9⟩⟩ ?_
          rintro ⟨k, bv3, l3, ov, out⟩ w_4 ⟨hs_6, hb3, hb3b, hl3, hol, hE⟩
          show CW _ _ _ _ [(0, v), (4, bv3), (6, (.int .u64 ((uvR p0).1 : Nat))), (9, (.int .u8 c)), (10, (.slice none 0 0)), (11, ov)] _
          refine .seq <| .seq <| .region <| .m rfl rfl <| .e rfl (.lenL Tryz.underlying27 rfl (hs_6.rdL 0 rfl)) <| .m rfl rfl <| .e rfl (.convK (by rw [Tryz.underlying56]; rfl) Tryz.underlying3 rfl (wrap_i (by (try simp only [IntKind.bits]); omega))) <| .e rfl (.lssN rfl rfl) <| .nil <| .condD rfl (fun hc_2 => ?_) (fun hc_2 => ?_)
          · refine .skip <| .block <| .seq ?_
            have hlt20 : out.length < (uvR p0).1 := hc_2
            have hle3 := uvR_le l3
            have hK : ∀ l, Gd p0 l → 64 * k < l.length ∧ out.length = 64 * k := fun l hg => blk_lt (hE l hg).1 (by rw [← (hG1 l hg).2]; exact hlt20)
            have hB : ∀ l, Gd p0 l → _ := fun l hg => gd_blk0 hg (by rw [← hcK l hg]; exact hk0) (hE l hg).2 (hK l hg).1
            refine .region <| .m rfl rfl <| .e rfl (.convK (by rw [Tryz.underlying56]; rfl) Tryz.underlying3 rfl (wrap_i (by (try simp only [IntKind.bits]); omega))) <| .m rfl rfl <| .e rfl (.lenL Tryz.underlying27 rfl (hs_6.rdL 0 rfl)) <| .e rfl (.subI rfl rfl (by (try simp only [IntKind.bits]); omega) (by omega)) <| .e rfl (.minN (a := 64) rfl rfl) <| .s rfl rfl <| .nil <| .seq <| .region <| .m rfl rfl <| .f rfl (.call ent22 rfl ((rtk_ok _ (l3) _ (hb3.ext hs_6.ext) (hb3b)).mono fun r_3 w_5 h_3 => ?_))
            obtain ⟨rfl, hp_3⟩ := h_3
            have hs_7 := hs_6.adds hp_3
            refine .m rfl rfl <| .e rfl (.extract rfl rfl) <| .e rfl (.extract rfl rfl) <| .e rfl (.extract rfl rfl) <| .s rfl rfl <| .s rfl rfl <| .s rfl rfl <| .nil <| .seq <| .seq <| .mid (fun L' w' => Weak [(0, v), (4, bv3), (6, (.int .u64 ((uvR p0).1 : Nat))), (9, (.int .u8 c)), (10, (.slice none 0 0)), (11, ov), (17, (.int .i64 ((min 64 ((uvR p0).1 - out.length)) : Nat))), (18, (.int .u64 ((uvR l3).1 : Nat))), (19, (.int .i64 ((uvR l3).2.1 : Nat))), (20, (.int .i64 ((uvR l3).2.2 : Nat))), (116, (.bool (decide (out.length < (uvR p0).1)))), (134, (.bool (decide (((uvR l3).2.2 ≠ 0) ∨ (65536 < (uvR l3).1)))))] L' ∧ Sat w_1 [cL ov 3 (encN .i64) (out)] w') ?_ ?_
            · refine .region <| .m rfl rfl <| .e rfl (.neqN (b := 0) rfl rfl) <| .m rfl rfl ?_
              by_cases hg_4 : (uvR l3).2.2 ≠ 0
              · refine .no rfl rfl rfl (decide_eq_true hg_4) rfl <| .no rfl rfl rfl (decide_eq_true hg_4) rfl <| .e rfl (.pickY rfl (decide_eq_true hg_4) rfl) <| .nil ?_
                exact ⟨⟨rfl, rfl, rfl, rfl, rfl, rfl, rfl, rfl, rfl, rfl, rfl, congrArg some (congrArg Value.bool (by simp [hg_4])), trivial⟩, hs_7⟩
              · refine .yes rfl rfl rfl (decide_eq_false hg_4) <| .m rfl rfl <| .yes rfl rfl rfl (decide_eq_false hg_4) <| .e rfl (.gtrN (b := 65536) rfl rfl) <| .e rfl (.pickN rfl (decide_eq_false hg_4) rfl) <| .nil ?_
                exact ⟨⟨rfl, rfl, rfl, rfl, rfl, rfl, rfl, rfl, rfl, rfl, rfl, congrArg some (congrArg Value.bool (by simp [hg_4])), trivial⟩, hs_7⟩
            · rintro L' w_6 ⟨hw_2, hs_8⟩
              refine .weaken _ hw_2 <| .condD rfl (fun hc_3 => ?_) (fun hc_3 => ?_)
              · refine .seq <| .region <| .s rfl rfl <| .s rfl rfl <| .nil <| .ret ?_
                show PostK _ _ _ _ _ _
                refine post2 rfl rfl rfl ?_
                have hs_9 : Sat w_1 [] w_6 := hs_8.sub ((.cons _ .slnil))
                refine .inr ⟨rfl, (hs_1.adds hs_9).sub (.cons _ .slnil), fun l hl he => ?_⟩
                have hg := hgd l hl he
                have h1 := hB l hg
                have h9 := hc_3
                omega
              · refine .skip <| .seq ?_
                have hok23 : (uvR l3).2.2 = 0 ∧ (uvR l3).1 ≤ 65536 := by have h9 := hc_3; omega
                refine .region <| .m rfl rfl <| .m rfl rfl <| .e rfl (.sliceL (E := encN .u8) (a := (uvR l3).2.1) (c := (l3).length) sl22 rfl (hb3.ext hs_8.ext) ⟨_, rfl⟩ rfl (hle3) (Nat.le_refl _)) <| .s rfl rfl <| .nil ?_
                obtain ⟨d3, hd3⟩ : ∃ d3, d3 = ((l3).take ((l3).length)).drop ((uvR l3).2.1) := ⟨_, rfl⟩
                have hD : d3 = l3.drop (uvR l3).2.1 := by rw [hd3, List.take_length]
                have hrd : RdL w_1 (subSl (encN .u8).s bv3 ((uvR l3).2.1) ((l3).length)) (encN .u8) d3 := by rw [hd3]; exact hb3.sub hle3 (Nat.le_refl _)
                have hbd : ∀ y ∈ d3, y < 256 := fun y hy => hb3b y (List.mem_of_mem_drop (by rw [← hD]; exact hy))
                have hnd : d3.length = l3.length - (uvR l3).2.1 := by rw [hD, List.length_drop]
                refine .seq <| .seq <| .region <| .m rfl rfl <| .e rfl (.eqlN (b := 0) rfl rfl) <| .nil <| .condT rfl (decide_eq_true hk0) <| .seq <| .seq <| .region <| .m rfl rfl <| .m rfl rfl <| .e rfl (.lenL Tryz.underlying22 rfl (hrd.ext hs_8.ext)) <| .e rfl (.convK (by rw [Tryz.underlying3]; rfl) Tryz.underlying56 rfl (wrap_u rfl (by (try simp only [IntKind.bits]); omega))) <| .e rfl (.gtrN rfl rfl) <| .nil <| .condD rfl (fun hc_4 => ?_) (fun hc_4 => ?_)
                · refine .seq <| .region <| .s rfl rfl <| .s rfl rfl <| .nil <| .ret ?_
                  show PostK _ _ _ _ _ _
                  refine post2 rfl rfl rfl ?_
                  have hs_10 : Sat w_1 [] w_6 := hs_8.sub ((.cons _ .slnil))
                  refine .inr ⟨rfl, (hs_1.adds hs_10).sub (.cons _ .slnil), fun l hl he => ?_⟩
                  have hg := hgd l hl he
                  have h1 := hB l hg
                  have h9 := hc_4
                  omega
                · refine .skip <| .seq <| .region <| .m rfl rfl <| .m rfl rfl <| .e rfl (.sliceL (E := encN .u8) (a := 0) (c := (uvR l3).1) sl22 rfl (hrd.ext hs_8.ext) rfl ⟨_, rfl⟩ (Nat.zero_le _) (by omega)) <| .f rfl (.call ent23 rfl ((runpk_ok _ (((d3).take ((uvR l3).1)).drop 0) _ (((hrd.ext hs_8.ext)).sub (a := 0) (b := (uvR l3).1) (Nat.zero_le _) (by omega)) (fun y hy => hbd y (List.mem_of_mem_take (List.mem_of_mem_drop hy))) (by rw [List.length_drop, List.length_take]; omega)).mono fun r_4 w_7 h_4 => ?_))
                  obtain ⟨uv_1, ul_1, uok_1, rfl, hp_4, hul_1⟩ := h_4
                  have hs_11 := hs_8.adds hp_4
                  refine .m rfl rfl <| .e rfl (.extract rfl rfl) <| .e rfl (.extract rfl rfl) <| .s rfl rfl <| .s rfl rfl <| .nil <| .seq <| .seq <| .mid (fun L' w' => Weak [(0, v), (4, (subSl (encN .u8).s bv3 ((uvR l3).2.1) ((l3).length))), (6, (.int .u64 ((uvR p0).1 : Nat))), (9, (.int .u8 c)), (10, (.slice none 0 0)), (11, ov), (17, (.int .i64 ((min 64 ((uvR p0).1 - out.length)) : Nat))), (18, (.int .u64 ((uvR l3).1 : Nat))), (19, (.int .i64 ((uvR l3).2.1 : Nat))), (20, (.int .i64 ((uvR l3).2.2 : Nat))), (21, uv_1), (22, (.bool uok_1)), (116, (.bool (decide (out.length < (uvR p0).1)))), (134, (.bool (decide (((uvR l3).2.2 ≠ 0) ∨ (65536 < (uvR l3).1))))), (139, (.bool (decide (c = 0)))), (144, (.bool (decide (d3.length < (uvR l3).1)))), (159, (.bool (decide (((!uok_1) = true) ∨ (ul_1.length ≠ (min 64 ((uvR p0).1 - out.length)))))))] L' ∧ Sat w_1 [cL ov 3 (encN .i64) (out), cL uv_1 3 (encN .i64) (ul_1)] w') ?_ ?_
                  · refine .region <| .m rfl rfl <| .e rfl (.notB rfl) <| .m rfl rfl ?_
                    by_cases hg_5 : (!uok_1) = true
                    · refine .no rfl rfl rfl (hg_5) rfl <| .no rfl rfl rfl (hg_5) rfl <| .no rfl rfl rfl (hg_5) rfl <| .no rfl rfl rfl (hg_5) rfl <| .e rfl (.pickY rfl (hg_5) rfl) <| .nil ?_
                      exact ⟨⟨rfl, rfl, rfl, rfl, rfl, rfl, rfl, rfl, rfl, rfl, rfl, rfl, rfl, rfl, rfl, rfl, congrArg some (congrArg Value.bool (by simp [hg_5])), trivial⟩, hs_11⟩
                    · refine .yes rfl rfl rfl (by simpa using hg_5) <| .m rfl rfl <| .yes rfl rfl rfl (by simpa using hg_5) <| .e rfl (.lenL Tryz.underlying27 rfl (hs_11.rdL 1 rfl)) <| .yes rfl rfl rfl (by simpa using hg_5) <| .m rfl rfl <| .yes rfl rfl rfl (by simpa using hg_5) <| .e rfl (.neqN rfl rfl) <| .e rfl (.pickN rfl (by simpa using hg_5) rfl) <| .nil ?_
                      exact ⟨⟨rfl, rfl, rfl, rfl, rfl, rfl, rfl, rfl, rfl, rfl, rfl, rfl, rfl, rfl, rfl, rfl, congrArg some (congrArg Value.bool (by simp [hg_5])), trivial⟩, hs_11⟩
                  · rintro L' w_8 ⟨hw_3, hs_12⟩
                    refine .weaken _ hw_3 <| .condD rfl (fun hc_5 => ?_) (fun hc_5 => ?_)
                    · refine .seq <| .region <| .s rfl rfl <| .s rfl rfl <| .nil <| .ret ?_
                      show PostK _ _ _ _ _ _
                      refine post2 rfl rfl rfl ?_
                      have hs_13 : Sat w_1 [] w_8 := hs_12.sub ((.cons _ (.cons _ .slnil)))
                      refine .inr ⟨rfl, (hs_1.adds hs_13).sub (.cons _ .slnil), fun l hl he => ?_⟩
                      have hg := hgd l hl he
                      have h9 := hB l hg
                      rw [← hD, ← h9.2.1] at h9
                      have h8 := hul_1 _ (by rw [List.drop_zero, h9.2.2.2.2.1]; exact h9.2.2.2.2.2.2)
                      have h7 := chk_length l k
                      have h6 := hK l hg
                      have h5 := (hG1 l hg).2
                      have h4 := hc_5
                      rw [h8.1, h8.2] at h4
                      rcases h4 with h4 | h4
                      · cases h4
                      · exact h4 (by omega)
                    · refine .skip <| .seq ?_
                      have hok30 : uok_1 = true ∧ ul_1.length = min 64 ((uvR p0).1 - out.length) := by have h9 := hc_5; exact ⟨by cases h8 : uok_1 <;> simp_all, Classical.byContradiction fun h8 => h9 (.inr h8)⟩
                      have hst : ∀ l, Gd p0 l → ul_1 = chk l k ∧ d3.drop (uvR l3).1 = bkT l (k + 1) := fun l hg => by have h9 := hB l hg; rw [← hD, ← h9.2.1] at h9; exact ⟨(hul_1 _ (by rw [List.drop_zero, h9.2.2.2.2.1]; exact h9.2.2.2.2.2.2)).2, h9.2.2.2.2.2.1⟩
                      have hshp_1 := (hs_12.rdL (E := encN .i64) 0 rfl).shp (by decide)
                      refine .draw (fun w' => Sat w_1 [cL uv_1 3 (encN .i64) (ul_1)] w') (.free 0 (.free 1 (.free 3 (.free 4 (.free 5 (.one 2 (.free 6 (.free 7 .fin)))))))) mixed (by kernel_rfl) ?_
                      have hs_14 := hs_12.drew
                      have hS_1 : Sat w_1 [_] _ := hs_14.sub ((.cons _ (.cons_cons _ .slnil)))
                      refine .m rfl rfl hS_1 <| .m rfl rfl hS_1 <| .m rfl rfl hS_1 <| .m rfl rfl hS_1 <| .e rfl (fun w' hS' => .sliceL (E := encN .u8) (a := (uvR l3).1) (c := (d3).length) sl22 rfl (hrd.ext hS'.ext) ⟨_, rfl⟩ rfl (by omega) (Nat.le_refl _)) hS_1 <| .f rfl (.appendL 0 sl27 hs_14 rfl rfl rfl Tryz.underlying27 (hs_14.rdL 1 rfl) (by omega) (by omega) fun v_1 w_9 hs_15 hch_1 => ?_)
                      have hS_2 : Sat w_1 [_] _ := hs_15.sub ((.cons _ (.cons_cons _ .slnil)))
                      refine ⟨hS_2, ?_⟩
                      refine .e rfl (fun w' hS' => .assign rfl) hS_2 <| .e rfl (fun w' hS' => .assign rfl) hS_2 <| .fin <| .exit0 ?_
                      have hs_16 : Sat w_1 [cL v_1 3 (encN .i64) (out ++ ul_1)] w_9 := hs_15.sub ((.cons_cons _ (.cons _ .slnil)))
                      exact ⟨(k + 1, (subSl (encN .u8).s (subSl (encN .u8).s bv3 ((uvR l3).2.1) ((l3).length)) ((uvR l3).1) ((d3).length)), ((d3).take ((d3).length)).drop ((uvR l3).1), v_1, out ++ ul_1), ⟨rfl, rfl, rfl, rfl, rfl, rfl, trivial⟩, ⟨hs_16, hrd.sub (a := (uvR l3).1) (by omega) (Nat.le_refl _), fun y hy => hbd y (List.mem_of_mem_take (List.mem_of_mem_drop hy)), by rw [List.length_drop, List.length_take]; omega, by rw [List.length_append]; omega, fun l hg => ⟨by rw [(hst l hg).1, (hE l hg).1]; exact blk_more l k, by rw [List.take_length]; exact (hst l hg).2⟩⟩, (show ((uvR p0).1 - (out ++ ul_1).length) < ((uvR p0).1 - out.length) from by rw [List.length_append]; omega)⟩
          · refine .exit0 <| .seq <| .seq ?_
            have hfin : ∀ l, Gd p0 l → out = l := fun l hg => blk_all (hE l hg).1 (by rw [← (hG1 l hg).2]; omega)
            have hn4096 : out.length ≤ 4096 := by omega
            obtain ⟨so, rfl, _⟩ := (hs_6.rdL 0 rfl).sv
            rcases Classical.em (OkN out) with hlo | hlo
            · refine .draw (fun w' => Sat w_1 [cL so.val 3 (encN .i64) (out)] w') (.free 0 (.one 1 (.free 2 (.free 3 (.free 4 (.free 7 (.free 8 (.one 5 (.one 6 (.free 9 (.free 10 .fin))))))))))) mixed (by kernel_rfl) ?_
              have hs_17 := hs_6.drew
              refine .m rfl rfl hs_17 <| .f rfl (.call ent25 rfl ((rcheck_ok _ (out) _ (hs_17.rdL 0 rfl) hlo).mono fun r_5 w_10 h_5 => ?_))
              obtain ⟨rfl, hp_5⟩ := h_5
              have hs_18 := hs_17.adds hp_5
              have hS_3 : Sat w_1 [_] _ := hs_18.sub ((.cons_cons _ .slnil))
              refine ⟨hS_3, ?_⟩
              refine .e rfl (fun w' hS' => .neqN (a := 0) (b := 0) rfl rfl) hS_3 <| .m rfl rfl hS_3 <| .evYes rfl rfl rfl rfl (rfl) rfl (fun w' hS' => .move rfl) hS_3 <| .evYes rfl rfl rfl rfl (rfl) rfl (fun w' hS' => .move rfl) hS_3 <| .evYes rfl rfl rfl rfl (rfl) rfl (fun w' hS' => .bytesStr Tryz.underlying22 Tryz.underlying9 Tryz.underlying5 rfl (hv1.ext hS'.ext)) hS_3 <| .effYes rfl rfl rfl rfl (rfl) rfl (OpE.call ent26 rfl ((rencode_ok _ (out) _ (hs_18.rdL 0 rfl) (hlo)).mono fun r_6 w_11 h_6 => ?_))
              have hp_6 := h_6
              have hs_19 := hs_18.adds hp_6
              have hS_4 : Sat w_1 [_] _ := hs_19.sub ((.cons_cons _ (.cons _ .slnil)))
              refine ⟨hS_4, ?_⟩
              refine .effYes rfl rfl rfl rfl (rfl) rfl (OpE.ev (Ev.bytesStr Tryz.underlying22 Tryz.underlying9 Tryz.underlying5 rfl (hs_19.rdL 1 rfl)) ⟨hS_4, ?_⟩)
              refine .evYes rfl rfl rfl rfl (rfl) rfl (fun w' hS' => .strNeq rfl rfl) hS_4 <| .e rfl (fun w' hS' => .pickN rfl (rfl) rfl) hS_4 <| .fin <| .condD rfl (fun hc_6 => ?_) (fun hc_6 => ?_)
              · refine .seq <| .region <| .s rfl rfl <| .s rfl rfl <| .nil <| .ret ?_
                show PostK _ _ _ _ _ _
                refine post2 rfl rfl rfl ?_
                have hs_20 : Sat w_1 [] w_11 := hs_19.sub ((.cons _ (.cons _ .slnil)))
                refine .inr ⟨rfl, (hs_1.adds hs_20).sub (.cons _ .slnil), fun l hl he => ?_⟩
                have hg := hgd l hl he
                exact hc_6 (by rw [hfin l hg, he])
              · refine .skip <| .seq <| .region <| .m rfl rfl <| .s rfl rfl <| .s rfl rfl <| .nil <| .ret ?_
                show PostK _ _ _ _ _ _
                refine post2 rfl rfl rfl ?_
                have hs_21 : Sat w_1 [_] w_11 := hs_19.sub ((.cons_cons _ (.cons _ .slnil)))
                have h8 := (strOf_inj (seal_lt (plK_lt (kindN_le out))) hb).1 (Decidable.not_not.1 hc_6)
                exact .inl ⟨out, _, hlo, h8.symm, fun l2 hl2 he2 => (hfin l2 (hgd l2 hl2 he2)).symm, rfl, (hs_1.adds hs_21).sub (.cons _ (.refl _))⟩
            · refine .draw (fun w' => Sat w_1 [cL so.val 3 (encN .i64) (out)] w') (.free 0 (.one 1 (.free 2 (.free 3 (.free 4 (.free 7 (.free 8 (.one 5 (.one 6 (.free 9 (.free 10 .fin))))))))))) mixed (by kernel_rfl) ?_
              have hs_22 := hs_6.drew
              refine .m rfl rfl hs_22 <| .f rfl (.call ent25 rfl ((rcheck_no (hs_22.rdL 0 rfl) hn4096 hlo).mono fun r_7 w_12 h_7 => ?_))
              obtain ⟨rfl, hp_7⟩ := h_7
              have hs_23 := hs_22.adds hp_7
              have hS_5 : Sat w_1 [_] _ := hs_23.sub ((.cons_cons _ .slnil))
              refine ⟨hS_5, ?_⟩
              refine .e rfl (fun w' hS' => .neqN (a := 8) (b := 0) rfl rfl) hS_5 <| .m rfl rfl hS_5 <| .no rfl rfl rfl rfl (rfl) rfl hS_5 <| .no rfl rfl rfl rfl (rfl) rfl hS_5 <| .no rfl rfl rfl rfl (rfl) rfl hS_5 <| .effNo rfl rfl rfl rfl (rfl) rfl hS_5 <| .effNo rfl rfl rfl rfl (rfl) rfl hS_5 <| .no rfl rfl rfl rfl (rfl) rfl hS_5 <| .e rfl (fun w' hS' => .pickY rfl (rfl) rfl) hS_5 <| .fin <| .condT rfl (rfl) <| .seq <| .region <| .s rfl rfl <| .s rfl rfl <| .nil <| .ret ?_
              show PostK _ _ _ _ _ _
              refine post2 rfl rfl rfl ?_
              have hs_24 : Sat w_1 [] w_12 := hs_23.sub ((.cons _ .slnil))
              refine .inr ⟨rfl, (hs_1.adds hs_24).sub (.cons _ .slnil), fun l hl he => ?_⟩
              have hg := hgd l hl he
              exact hlo (by rw [hfin l hg]; exact hl)
        · refine .region <| .m rfl rfl <| .e rfl (.eqlN (b := 1) rfl rfl) <| .nil <| .condT rfl (decide_eq_true hk1) <| .seq <| .region <| .m rfl rfl <| .f rfl (.call ent22 rfl ((rtk_ok _ (p1) _ (hr1.ext hs_3.ext) (hb1)).mono fun r_8 w_13 h_8 => ?_))
          obtain ⟨rfl, hp_8⟩ := h_8
          have hs_25 := hs_3.adds hp_8
          refine .m rfl rfl <| .e rfl (.extract rfl rfl) <| .e rfl (.extract rfl rfl) <| .e rfl (.extract rfl rfl) <| .s rfl rfl <| .s rfl rfl <| .s rfl rfl <| .nil <| .seq <| .seq ?_
          have hle1a := uvR_le p1
          refine .mid (fun L' w' => Weak [(0, v), (2, (.slice none 0 0)), (3, (.bool false)), (4, (subSl (encN .u8).s vp ((uvR p0).2.1 + 1) ((p0).length))), (5, (.bool true)), (6, (.int .u64 ((uvR p0).1 : Nat))), (7, (.int .i64 ((uvR p0).2.1 : Nat))), (8, (.int .i64 ((uvR p0).2.2 : Nat))), (9, (.int .u8 c)), (10, (.slice none 0 0)), (11, (.slice none 0 0)), (12, (.int .u64 ((uvR p1).1 : Nat))), (13, (.int .i64 ((uvR p1).2.1 : Nat))), (14, (.int .i64 ((uvR p1).2.2 : Nat))), (31, (.bool false)), (56, (.bool (decide (((((uvR p0).2.2 ≠ 0) ∨ (4096 < (uvR p0).1)) ∨ (p0.length ≤ (uvR p0).2.1)) ∨ (1 < c))))), (66, (.bool (decide (c = 1)))), (87, (.bool (decide ((((uvR p1).2.2 ≠ 0) ∨ (1024 < (uvR p1).1)) ∨ ((p1.length - (uvR p1).2.1) < (uvR p1).1)))))] L' ∧ Sat w_1 [] w') ?_ ?_
          · refine .region <| .m rfl rfl <| .e rfl (.neqN (b := 0) rfl rfl) <| .m rfl rfl ?_
            by_cases hg_6 : (uvR p1).2.2 ≠ 0
            · refine .no rfl rfl rfl (decide_eq_true hg_6) rfl <| .no rfl rfl rfl (decide_eq_true hg_6) rfl <| .e rfl (.pickY rfl (decide_eq_true hg_6) rfl) <| .m rfl rfl <| .no rfl rfl rfl (rfl) rfl <| .no rfl rfl rfl (rfl) rfl <| .no rfl rfl rfl (rfl) rfl <| .no rfl rfl rfl (rfl) rfl <| .no rfl rfl rfl (rfl) rfl <| .no rfl rfl rfl (rfl) rfl <| .no rfl rfl rfl (rfl) rfl <| .e rfl (.pickY rfl (rfl) rfl) <| .nil ?_
              exact ⟨⟨rfl, rfl, rfl, rfl, rfl, rfl, rfl, rfl, rfl, rfl, rfl, rfl, rfl, rfl, rfl, rfl, rfl, congrArg some (congrArg Value.bool (by simp [hg_6])), trivial⟩, hs_25⟩
            · refine .yes rfl rfl rfl (decide_eq_false hg_6) <| .m rfl rfl <| .yes rfl rfl rfl (decide_eq_false hg_6) <| .e rfl (.gtrN (b := 1024) rfl rfl) <| .e rfl (.pickN rfl (decide_eq_false hg_6) rfl) <| .m rfl rfl ?_
              by_cases hg_7 : 1024 < (uvR p1).1
              · refine .no rfl rfl rfl (decide_eq_true hg_7) rfl <| .no rfl rfl rfl (decide_eq_true hg_7) rfl <| .no rfl rfl rfl (decide_eq_true hg_7) rfl <| .no rfl rfl rfl (decide_eq_true hg_7) rfl <| .no rfl rfl rfl (decide_eq_true hg_7) rfl <| .no rfl rfl rfl (decide_eq_true hg_7) rfl <| .no rfl rfl rfl (decide_eq_true hg_7) rfl <| .e rfl (.pickY rfl (decide_eq_true hg_7) rfl) <| .nil ?_
                exact ⟨⟨rfl, rfl, rfl, rfl, rfl, rfl, rfl, rfl, rfl, rfl, rfl, rfl, rfl, rfl, rfl, rfl, rfl, congrArg some (congrArg Value.bool (by simp [hg_6, hg_7])), trivial⟩, hs_25⟩
              · refine .yes rfl rfl rfl (decide_eq_false hg_7) <| .m rfl rfl <| .yes rfl rfl rfl (decide_eq_false hg_7) <| .m rfl rfl <| .yes rfl rfl rfl (decide_eq_false hg_7) <| .e rfl (.lenL Tryz.underlying22 rfl (hr1.ext hs_25.ext)) <| .yes rfl rfl rfl (decide_eq_false hg_7) <| .m rfl rfl <| .yes rfl rfl rfl (decide_eq_false hg_7) <| .e rfl (.subI rfl rfl (by (try simp only [IntKind.bits]); omega) (by omega)) <| .yes rfl rfl rfl (decide_eq_false hg_7) <| .e rfl (.convK (by rw [Tryz.underlying3]; rfl) Tryz.underlying56 rfl (wrap_u rfl (by (try simp only [IntKind.bits]); omega))) <| .yes rfl rfl rfl (decide_eq_false hg_7) <| .e rfl (.gtrN rfl rfl) <| .e rfl (.pickN rfl (decide_eq_false hg_7) rfl) <| .nil ?_
                exact ⟨⟨rfl, rfl, rfl, rfl, rfl, rfl, rfl, rfl, rfl, rfl, rfl, rfl, rfl, rfl, rfl, rfl, rfl, congrArg some (congrArg Value.bool (by simp [hg_6, hg_7])), trivial⟩, hs_25⟩
          · rintro L' w_14 ⟨hw_4, hs_26⟩
            refine .weaken _ hw_4 <| .condD rfl (fun hc_7 => ?_) (fun hc_7 => ?_)
            · refine .seq <| .region <| .s rfl rfl <| .s rfl rfl <| .nil <| .ret ?_
              show PostK _ _ _ _ _ _
              refine post2 rfl rfl rfl ?_
              have hs_27 : Sat w_1 [] w_14 := hs_26.sub (.slnil)
              refine .inr ⟨rfl, (hs_1.adds hs_27).sub (.cons _ .slnil), fun l hl he => ?_⟩
              have hg := hgd l hl he
              have h1 := gd_lens hg (by rw [← hcK l hg]; exact hk1) (hG1 l hg).1
              have h9 := hc_7
              have h8 := uvR_le p1
              omega
            · refine .skip <| .seq <| .seq ?_
              have hle1 := uvR_le p1
              have hok12 : (uvR p1).2.2 = 0 ∧ (uvR p1).1 ≤ 1024 ∧ (uvR p1).2.1 + (uvR p1).1 ≤ p1.length := by have h9 := hc_7; omega
              refine .region <| .m rfl rfl <| .m rfl rfl <| .m rfl rfl <| .m rfl rfl <| .e rfl (.convK (by rw [Tryz.underlying56]; rfl) Tryz.underlying3 rfl (wrap_i (by (try simp only [IntKind.bits]); omega))) <| .e rfl (.addI rfl rfl (by (try simp only [IntKind.bits]); omega)) <| .e rfl (.sliceL (E := encN .u8) (a := (uvR p1).2.1) (c := ((uvR p1).2.1 + (uvR p1).1)) sl22 rfl (hr1.ext hs_26.ext) ⟨_, rfl⟩ ⟨_, rfl⟩ (by omega) (by omega)) <| .e rfl (.lenL Tryz.underlying22 rfl (((hr1.ext hs_26.ext)).sub (a := (uvR p1).2.1) (b := ((uvR p1).2.1 + (uvR p1).1)) (by omega) (by omega))) <| .m rfl rfl <| .nil <| .block ?_
              have hL0b : ∀ y ∈ ((p1).take ((uvR p1).2.1 + (uvR p1).1)).drop ((uvR p1).2.1), y < 256 := fun y hy => hb1 y (List.mem_of_mem_take (List.mem_of_mem_drop hy))
              have hL0n : (((p1).take ((uvR p1).2.1 + (uvR p1).1)).drop ((uvR p1).2.1)).length ≤ 1024 := by rw [List.length_drop, List.length_take]; omega
              have hs_28 := hs_26.newNilL 3 (encN .i64)
              have hs_29 : Sat w_1 [cL (Value.slice none 0 0) 3 (encN .i64) ((((p1).take ((uvR p1).2.1 + (uvR p1).1)).drop ((uvR p1).2.1)).take 0)] w_14 := by
                have hq : [] = (((p1).take ((uvR p1).2.1 + (uvR p1).1)).drop ((uvR p1).2.1)).take 0 := rfl
                rw [← hq]; exact hs_28
              refine .loop (α := Nat × Value) (fun (j, lv) => [(0, v), (4, (subSl (encN .u8).s vp ((uvR p0).2.1 + 1) ((p0).length))), (6, (.int .u64 ((uvR p0).1 : Nat))), (9, (.int .u8 c)), (10, lv), (11, (.slice none 0 0)), (12, (.int .u64 ((uvR p1).1 : Nat))), (13, (.int .i64 ((uvR p1).2.1 : Nat))), (94, (subSl (encN .u8).s (subSl (encN .u8).s vp ((uvR p0).2.1 + 1) ((p0).length)) ((uvR p1).2.1) ((uvR p1).2.1 + (uvR p1).1))), (95, (.int .i64 ((((p1).take ((uvR p1).2.1 + (uvR p1).1)).drop ((uvR p1).2.1)).length : Nat))), (96, (.int .i64 j))]) (fun (j, lv) w' => Sat w_1 [cL lv 3 (encN .i64) ((((p1).take ((uvR p1).2.1 + (uvR p1).1)).drop ((uvR p1).2.1)).take j)] w' ∧ (j ≤ (((p1).take ((uvR p1).2.1 + (uvR p1).1)).drop ((uvR p1).2.1)).length)) (fun (j, lv) => (((p1).take ((uvR p1).2.1 + (uvR p1).1)).drop ((uvR p1).2.1)).length - j) (0, (.slice none 0 0)) ⟨rfl, rfl, rfl, rfl, rfl, rfl, rfl, rfl, rfl, rfl, rfl, trivial⟩ ⟨hs_29, Nat.zero_le _⟩ ?_
              rintro ⟨j, lv⟩ w_15 ⟨hs_30, hj⟩
              show CW _ _ _ _ [(0, v), (4, (subSl (encN .u8).s vp ((uvR p0).2.1 + 1) ((p0).length))), (6, (.int .u64 ((uvR p0).1 : Nat))), (9, (.int .u8 c)), (10, lv), (11, (.slice none 0 0)), (12, (.int .u64 ((uvR p1).1 : Nat))), (13, (.int .i64 ((uvR p1).2.1 : Nat))), (94, (subSl (encN .u8).s (subSl (encN .u8).s vp ((uvR p0).2.1 + 1) ((p0).length)) ((uvR p1).2.1) ((uvR p1).2.1 + (uvR p1).1))), (95, (.int .i64 ((((p1).take ((uvR p1).2.1 + (uvR p1).1)).drop ((uvR p1).2.1)).length : Nat))), (96, (.int .i64 j))] _
              refine .seq <| .region <| .e rfl (.lssN rfl rfl) <| .nil <| .seq <| .condD rfl (fun hc_8 => ?_) (fun hc_8 => ?_)
              · refine .skip <| .seq <| .block <| .seq ?_
                obtain ⟨x, hx⟩ : ∃ x, (((p1).take ((uvR p1).2.1 + (uvR p1).1)).drop ((uvR p1).2.1))[j]? = some x := ⟨_, List.getElem?_eq_getElem hc_8⟩
                have hx256 := hL0b x (mem_of_get hx)
                refine .region <| .e rfl (.idxL (E := encN .u8) sl22 rfl rfl (((hr1.ext hs_30.ext)).sub (a := (uvR p1).2.1) (b := ((uvR p1).2.1 + (uvR p1).1)) (by omega) (by omega)) (by omega)) <| .e rfl (.ldL (E := encN .u8) scal5 rfl (((hr1.ext hs_30.ext)).sub (a := (uvR p1).2.1) (b := ((uvR p1).2.1 + (uvR p1).1)) (by omega) (by omega)) hx (by decide) rfl) <| .s rfl rfl <| .nil <| .region <| .m rfl rfl <| .m rfl rfl <| .e rfl (.convK (by rw [Tryz.underlying5]; rfl) Tryz.underlying3 rfl (wrap_i (by (try simp only [IntKind.bits]); omega))) <| .f rfl (.lit1 (encN .i64) x sl27 rfl hs_30 rfl fun v_2 w_16 hs_31 hch_2 => ?_)
                refine .f rfl (.appendL 0 sl27 hs_31 rfl rfl rfl Tryz.underlying27 (hs_31.rdL 1 rfl) (by simp; omega) (by simp; omega) fun v_3 w_17 hs_32 hch_3 => ?_)
                have hs_32d : Sat w_1 [cL v_3 3 (encN .i64) ((((p1).take ((uvR p1).2.1 + (uvR p1).1)).drop ((uvR p1).2.1)).take j ++ [x])] _ := hs_32.drop 1
                refine .s rfl rfl <| .nil <| .region <| .e rfl (.addI (b := 1) rfl rfl (by omega)) <| .m rfl rfl <| .nil ?_
                have hs_33 : Sat w_1 [cL v_3 3 (encN .i64) ((((p1).take ((uvR p1).2.1 + (uvR p1).1)).drop ((uvR p1).2.1)).take (j + 1))] w_17 := by
                  have hq : (((p1).take ((uvR p1).2.1 + (uvR p1).1)).drop ((uvR p1).2.1)).take j ++ [x] = (((p1).take ((uvR p1).2.1 + (uvR p1).1)).drop ((uvR p1).2.1)).take (j + 1) := by rw [take_succ_of hx]
                  rw [← hq]; exact hs_32d
                exact ⟨(j + 1, v_3), ⟨rfl, rfl, rfl, rfl, rfl, rfl, rfl, rfl, rfl, rfl, rfl, trivial⟩, ⟨hs_33, by omega⟩, (show ((((p1).take ((uvR p1).2.1 + (uvR p1).1)).drop ((uvR p1).2.1)).length - (j + 1)) < ((((p1).take ((uvR p1).2.1 + (uvR p1).1)).drop ((uvR p1).2.1)).length - j) from by omega)⟩
              · refine .exit0 ?_
                have hs_34 : Sat w_1 [cL lv 3 (encN .i64) (((p1).take ((uvR p1).2.1 + (uvR p1).1)).drop ((uvR p1).2.1))] w_15 := by
                  have hq : (((p1).take ((uvR p1).2.1 + (uvR p1).1)).drop ((uvR p1).2.1)).take j = ((p1).take ((uvR p1).2.1 + (uvR p1).1)).drop ((uvR p1).2.1) := by rw [show j = (((p1).take ((uvR p1).2.1 + (uvR p1).1)).drop ((uvR p1).2.1)).length by omega, List.take_length]
                  rw [← hq]; exact hs_30
                refine .region <| .m rfl rfl <| .m rfl rfl <| .m rfl rfl <| .e rfl (.convK (by rw [Tryz.underlying56]; rfl) Tryz.underlying3 rfl (wrap_i (by (try simp only [IntKind.bits]); omega))) <| .e rfl (.addI rfl rfl (by (try simp only [IntKind.bits]); omega)) <| .e rfl (.sliceL (E := encN .u8) (a := ((uvR p1).2.1 + (uvR p1).1)) (c := (p1).length) sl22 rfl (hr1.ext hs_34.ext) ⟨_, rfl⟩ rfl (by omega) (Nat.le_refl _)) <| .s rfl rfl <| .nil <| .seq <| .block ?_
                have hr2 : RdL w_1 (subSl (encN .u8).s (subSl (encN .u8).s vp ((uvR p0).2.1 + 1) ((p0).length)) ((uvR p1).2.1 + (uvR p1).1) ((p1).length)) (encN .u8) (((p1).take ((p1).length)).drop ((uvR p1).2.1 + (uvR p1).1)) := hr1.sub (a := (uvR p1).2.1 + (uvR p1).1) (by omega) (Nat.le_refl _)
                have hS0 : ∀ l, Gd p0 l → (((p1).take ((p1).length)).drop ((uvR p1).2.1 + (uvR p1).1)) = bkT l 0 ∧ (((p1).take ((uvR p1).2.1 + (uvR p1).1)).drop ((uvR p1).2.1)) = symL l := fun l hg => by have h9 := gd_lens hg (by rw [← hcK l hg]; exact hk1) (hG1 l hg).1; exact ⟨by rw [List.take_length]; exact h9.2.2.2.2.2, h9.2.2.2.2.1⟩
                have hb20 : ∀ y ∈ (((p1).take ((p1).length)).drop ((uvR p1).2.1 + (uvR p1).1)), y < 256 := fun y hy => hb1 y (List.mem_of_mem_take (List.mem_of_mem_drop hy))
                have hn20 : (((p1).take ((p1).length)).drop ((uvR p1).2.1 + (uvR p1).1)).length ≤ 900000 := by rw [List.length_drop, List.length_take]; omega
                have hs_35 := hs_34.newNilL 3 (encN .i64)
                refine .loop (α := Nat × Value × List Nat × Value × List Nat) (fun (k, bv3, l3, ov, out) => [(0, v), (4, bv3), (6, (.int .u64 ((uvR p0).1 : Nat))), (9, (.int .u8 c)), (10, lv), (11, ov)]) (fun (k, bv3, l3, ov, out) w' => Sat w_1 [cL lv 3 (encN .i64) (((p1).take ((uvR p1).2.1 + (uvR p1).1)).drop ((uvR p1).2.1)), cL ov 3 (encN .i64) (out)] w' ∧ (RdL w_1 bv3 (encN .u8) l3) ∧ (∀ y ∈ l3, y < 256) ∧ (l3.length ≤ 900000) ∧ (out.length ≤ (uvR p0).1) ∧ (∀ l, Gd p0 l → out = l.take (64 * k) ∧ l3 = bkT l k)) (fun (k, bv3, l3, ov, out) => (uvR p0).1 - out.length) (0, (subSl (encN .u8).s (subSl (encN .u8).s vp ((uvR p0).2.1 + 1) ((p0).length)) ((uvR p1).2.1 + (uvR p1).1) ((p1).length)), ((p1).take ((p1).length)).drop ((uvR p1).2.1 + (uvR p1).1), (.slice none 0 0), []) ⟨rfl, rfl, rfl, rfl, rfl, rfl, trivial⟩ ⟨hs_35, hr2, hb20, hn20, Nat.zero_le _, fun l hg => ⟨rfl, (hS0 l hg).1⟩⟩ ?_
                rintro ⟨k, bv3, l3, ov, out⟩ w_18 ⟨hs_36, hb3, hb3b, hl3, hol, hE⟩
                show CW _ _ _ _ [(0, v), (4, bv3), (6, (.int .u64 ((uvR p0).1 : Nat))), (9, (.int .u8 c)), (10, lv), (11, ov)] _
                refine .seq <| .seq <| .region <| .m rfl rfl <| .e rfl (.lenL Tryz.underlying27 rfl (hs_36.rdL 1 rfl)) <| .m rfl rfl <| .e rfl (.convK (by rw [Tryz.underlying56]; rfl) Tryz.underlying3 rfl (wrap_i (by (try simp only [IntKind.bits]); omega))) <| .e rfl (.lssN rfl rfl) <| .nil <| .condD rfl (fun hc_9 => ?_) (fun hc_9 => ?_)
                · refine .skip <| .block <| .seq ?_
                  have hlt20 : out.length < (uvR p0).1 := hc_9
                  have hle3 := uvR_le l3
                  have hK : ∀ l, Gd p0 l → 64 * k < l.length ∧ out.length = 64 * k := fun l hg => blk_lt (hE l hg).1 (by rw [← (hG1 l hg).2]; exact hlt20)
                  have hB : ∀ l, Gd p0 l → _ := fun l hg => gd_blk1 hg (by rw [← hcK l hg]; exact hk1) (hE l hg).2 (hK l hg).1
                  refine .region <| .m rfl rfl <| .e rfl (.convK (by rw [Tryz.underlying56]; rfl) Tryz.underlying3 rfl (wrap_i (by (try simp only [IntKind.bits]); omega))) <| .m rfl rfl <| .e rfl (.lenL Tryz.underlying27 rfl (hs_36.rdL 1 rfl)) <| .e rfl (.subI rfl rfl (by (try simp only [IntKind.bits]); omega) (by omega)) <| .e rfl (.minN (a := 64) rfl rfl) <| .s rfl rfl <| .nil <| .seq <| .region <| .m rfl rfl <| .f rfl (.call ent22 rfl ((rtk_ok _ (l3) _ (hb3.ext hs_36.ext) (hb3b)).mono fun r_9 w_19 h_9 => ?_))
                  obtain ⟨rfl, hp_9⟩ := h_9
                  have hs_37 := hs_36.adds hp_9
                  refine .m rfl rfl <| .e rfl (.extract rfl rfl) <| .e rfl (.extract rfl rfl) <| .e rfl (.extract rfl rfl) <| .s rfl rfl <| .s rfl rfl <| .s rfl rfl <| .nil <| .seq <| .seq <| .mid (fun L' w' => Weak [(0, v), (4, bv3), (6, (.int .u64 ((uvR p0).1 : Nat))), (9, (.int .u8 c)), (10, lv), (11, ov), (17, (.int .i64 ((min 64 ((uvR p0).1 - out.length)) : Nat))), (18, (.int .u64 ((uvR l3).1 : Nat))), (19, (.int .i64 ((uvR l3).2.1 : Nat))), (20, (.int .i64 ((uvR l3).2.2 : Nat))), (116, (.bool (decide (out.length < (uvR p0).1)))), (134, (.bool (decide (((uvR l3).2.2 ≠ 0) ∨ (65536 < (uvR l3).1)))))] L' ∧ Sat w_1 [cL lv 3 (encN .i64) (((p1).take ((uvR p1).2.1 + (uvR p1).1)).drop ((uvR p1).2.1)), cL ov 3 (encN .i64) (out)] w') ?_ ?_
                  · refine .region <| .m rfl rfl <| .e rfl (.neqN (b := 0) rfl rfl) <| .m rfl rfl ?_
                    by_cases hg_8 : (uvR l3).2.2 ≠ 0
                    · refine .no rfl rfl rfl (decide_eq_true hg_8) rfl <| .no rfl rfl rfl (decide_eq_true hg_8) rfl <| .e rfl (.pickY rfl (decide_eq_true hg_8) rfl) <| .nil ?_
                      exact ⟨⟨rfl, rfl, rfl, rfl, rfl, rfl, rfl, rfl, rfl, rfl, rfl, congrArg some (congrArg Value.bool (by simp [hg_8])), trivial⟩, hs_37⟩
                    · refine .yes rfl rfl rfl (decide_eq_false hg_8) <| .m rfl rfl <| .yes rfl rfl rfl (decide_eq_false hg_8) <| .e rfl (.gtrN (b := 65536) rfl rfl) <| .e rfl (.pickN rfl (decide_eq_false hg_8) rfl) <| .nil ?_
                      exact ⟨⟨rfl, rfl, rfl, rfl, rfl, rfl, rfl, rfl, rfl, rfl, rfl, congrArg some (congrArg Value.bool (by simp [hg_8])), trivial⟩, hs_37⟩
                  · rintro L' w_20 ⟨hw_5, hs_38⟩
                    refine .weaken _ hw_5 <| .condD rfl (fun hc_10 => ?_) (fun hc_10 => ?_)
                    · refine .seq <| .region <| .s rfl rfl <| .s rfl rfl <| .nil <| .ret ?_
                      show PostK _ _ _ _ _ _
                      refine post2 rfl rfl rfl ?_
                      have hs_39 : Sat w_1 [] w_20 := hs_38.sub ((.cons _ (.cons _ .slnil)))
                      refine .inr ⟨rfl, (hs_1.adds hs_39).sub (.cons _ .slnil), fun l hl he => ?_⟩
                      have hg := hgd l hl he
                      have h1 := hB l hg
                      have h9 := hc_10
                      omega
                    · refine .skip <| .seq ?_
                      have hok23 : (uvR l3).2.2 = 0 ∧ (uvR l3).1 ≤ 65536 := by have h9 := hc_10; omega
                      refine .region <| .m rfl rfl <| .m rfl rfl <| .e rfl (.sliceL (E := encN .u8) (a := (uvR l3).2.1) (c := (l3).length) sl22 rfl (hb3.ext hs_38.ext) ⟨_, rfl⟩ rfl (hle3) (Nat.le_refl _)) <| .s rfl rfl <| .nil ?_
                      obtain ⟨d3, hd3⟩ : ∃ d3, d3 = ((l3).take ((l3).length)).drop ((uvR l3).2.1) := ⟨_, rfl⟩
                      have hD : d3 = l3.drop (uvR l3).2.1 := by rw [hd3, List.take_length]
                      have hrd : RdL w_1 (subSl (encN .u8).s bv3 ((uvR l3).2.1) ((l3).length)) (encN .u8) d3 := by rw [hd3]; exact hb3.sub hle3 (Nat.le_refl _)
                      have hbd : ∀ y ∈ d3, y < 256 := fun y hy => hb3b y (List.mem_of_mem_drop (by rw [← hD]; exact hy))
                      have hnd : d3.length = l3.length - (uvR l3).2.1 := by rw [hD, List.length_drop]
                      refine .seq <| .seq <| .region <| .m rfl rfl <| .e rfl (.eqlN (b := 0) rfl rfl) <| .nil <| .condF rfl (decide_eq_false (by omega)) <| .skip <| .seq ?_
                      have hm8 : ((uvR l3).1 + 7) % 2 ^ IntKind.u64.bits = (uvR l3).1 + 7 := Nat.mod_eq_of_lt (by (try simp only [IntKind.bits]); omega)
                      refine .region <| .m rfl rfl <| .e rfl (.addN (b := 7) rfl rfl rfl) <| .e rfl (.convK (by rw [Tryz.underlying56]; rfl) Tryz.underlying3 rfl (wrap_i (by rw [hm8]; omega))) <| .e rfl (.quo (b := 8) rfl rfl (by omega) (by unfold inI64; omega)) <| .s rfl rfl <| .nil ?_
                      have hm7 : ((uvR l3).1 + 7) % 2 ^ 64 = (uvR l3).1 + 7 := Nat.mod_eq_of_lt (by omega)
                      refine .weaken [(0, _), (4, _), (6, _), (9, _), (10, _), (11, _), (17, _), (18, _), (19, _), (20, _), (23, (.int .i64 ((((uvR l3).1 + 7) / 8) : Nat))), (116, _), (134, _), (135, _), (136, _), (137, _), (138, _), (139, _), (166, _), (167, _), (168, _), (169, _)] ⟨rfl, rfl, rfl, rfl, rfl, rfl, rfl, rfl, rfl, rfl, congrArg some (congrArg (fun q : Nat => Value.int .i64 ((q / 8 : Nat) : Int)) hm7), rfl, rfl, rfl, rfl, rfl, rfl, rfl, rfl, rfl, rfl, rfl, trivial⟩ <| .seq <| .seq <| .region <| .m rfl rfl <| .m rfl rfl <| .e rfl (.lenL Tryz.underlying22 rfl (hrd.ext hs_38.ext)) <| .e rfl (.gtrN rfl rfl) <| .nil <| .condD rfl (fun hc_11 => ?_) (fun hc_11 => ?_)
                      · refine .seq <| .region <| .s rfl rfl <| .s rfl rfl <| .nil <| .ret ?_
                        show PostK _ _ _ _ _ _
                        refine post2 rfl rfl rfl ?_
                        have hs_40 : Sat w_1 [] w_20 := hs_38.sub ((.cons _ (.cons _ .slnil)))
                        refine .inr ⟨rfl, (hs_1.adds hs_40).sub (.cons _ .slnil), fun l hl he => ?_⟩
                        have hg := hgd l hl he
                        have h1 := hB l hg
                        have h9 := hc_11
                        omega
                      · refine .skip <| .seq <| .region <| .m rfl rfl <| .m rfl rfl <| .m rfl rfl <| .e rfl (.sliceL (E := encN .u8) (a := 0) (c := (((uvR l3).1 + 7) / 8)) sl22 rfl (hrd.ext hs_38.ext) rfl ⟨_, rfl⟩ (Nat.zero_le _) (by omega)) <| .m rfl rfl <| .e rfl (.convK (by rw [Tryz.underlying56]; rfl) Tryz.underlying3 rfl (wrap_i (by (try simp only [IntKind.bits]); omega))) <| .m rfl rfl <| .f rfl (.call ent24 rfl ((rhdec_ok _ _ (((p1).take ((uvR p1).2.1 + (uvR p1).1)).drop ((uvR p1).2.1)) (((d3).take (((uvR l3).1 + 7) / 8)).drop 0) ((uvR l3).1) ((min 64 ((uvR p0).1 - out.length))) _ (hs_38.rdL 0 rfl) (((hrd.ext hs_38.ext)).sub (a := 0) (b := (((uvR l3).1 + 7) / 8)) (Nat.zero_le _) (by omega)) hL0n (fun y hy => hbd y (List.mem_of_mem_take (List.mem_of_mem_drop hy))) (by rw [List.length_drop, List.length_take]; omega) (by rw [List.length_drop, List.length_take]; omega) (by omega)).mono fun r_10 w_21 h_10 => ?_))
                        obtain ⟨uv_2, ul_2, ue_1, rfl, hp_10, hue_1, hul_2⟩ := h_10
                        have hs_41 := hs_38.adds hp_10
                        refine .m rfl rfl <| .e rfl (.extract rfl rfl) <| .e rfl (.extract rfl rfl) <| .s rfl rfl <| .s rfl rfl <| .nil <| .seq <| .seq <| .region <| .m rfl rfl <| .e rfl (.neqN (b := 0) rfl rfl) <| .nil <| .condD rfl (fun hc_12 => ?_) (fun hc_12 => ?_)
                        · refine .seq <| .region <| .s rfl rfl <| .s rfl rfl <| .nil <| .ret ?_
                          show PostK _ _ _ _ _ _
                          refine post2 rfl rfl rfl ?_
                          have hs_42 : Sat w_1 [] w_21 := hs_41.sub ((.cons _ (.cons _ (.cons _ .slnil))))
                          refine .inr ⟨rfl, (hs_1.adds hs_42).sub (.cons _ .slnil), fun l hl he => ?_⟩
                          have hg := hgd l hl he
                          have h9 := hB l hg
                          rw [← hD] at h9
                          have h8 := h9.2.2.2.2.2 (min 64 ((uvR p0).1 - out.length)) (by rw [(hG1 l hg).2, (hK l hg).2])
                          exact hc_12 (hul_2 _ (by rw [(hS0 l hg).2]; exact h8.1) (by rw [List.drop_zero, (hS0 l hg).2]; exact h8.2)).1
                        · refine .skip ?_
                          have he37 : ue_1 = 0 := by have h9 := hc_12; omega
                          have hlen39 := hue_1 he37
                          have hst : ∀ l, Gd p0 l → ul_2 = chk l k ∧ d3.drop (((uvR l3).1 + 7) / 8) = bkT l (k + 1) := fun l hg => by have h9 := hB l hg; rw [← hD] at h9; have h8 := h9.2.2.2.2.2 (min 64 ((uvR p0).1 - out.length)) (by rw [(hG1 l hg).2, (hK l hg).2]); exact ⟨(hul_2 _ (by rw [(hS0 l hg).2]; exact h8.1) (by rw [List.drop_zero, (hS0 l hg).2]; exact h8.2)).2, h9.2.2.2.2.1⟩
                          have hshp_2 := (hs_41.rdL (E := encN .i64) 1 rfl).shp (by decide)
                          refine .draw (fun w' => Sat w_1 [cL lv 3 (encN .i64) (((p1).take ((uvR p1).2.1 + (uvR p1).1)).drop ((uvR p1).2.1)), cL uv_2 3 (encN .i64) (ul_2)] w') (.free 0 (.free 1 (.free 3 (.free 4 (.free 5 (.one 2 (.free 6 (.free 7 .fin)))))))) mixed (by kernel_rfl) ?_
                          have hs_43 := hs_41.drew
                          have hS_6 : Sat w_1 [_, _] _ := hs_43.sub ((.cons_cons _ (.cons _ (.cons_cons _ .slnil))))
                          refine .m rfl rfl hS_6 <| .m rfl rfl hS_6 <| .m rfl rfl hS_6 <| .m rfl rfl hS_6 <| .e rfl (fun w' hS' => .sliceL (E := encN .u8) (a := (((uvR l3).1 + 7) / 8)) (c := (d3).length) sl22 rfl (hrd.ext hS'.ext) ⟨_, rfl⟩ rfl (by omega) (Nat.le_refl _)) hS_6 <| .f rfl (.appendL 1 sl27 hs_43 rfl rfl rfl Tryz.underlying27 (hs_43.rdL 2 rfl) (by omega) (by omega) fun v_4 w_22 hs_44 hch_4 => ?_)
                          have hS_7 : Sat w_1 [_, _] _ := hs_44.sub ((.cons_cons _ (.cons _ (.cons_cons _ .slnil))))
                          refine ⟨hS_7, ?_⟩
                          refine .e rfl (fun w' hS' => .assign rfl) hS_7 <| .e rfl (fun w' hS' => .assign rfl) hS_7 <| .fin ?_
                          have hs_45 : Sat w_1 [_, cL v_4 3 (encN .i64) (out ++ ul_2)] w_22 := hs_44.sub ((.cons_cons _ (.cons_cons _ (.cons _ .slnil))))
                          exact ⟨(k + 1, (subSl (encN .u8).s (subSl (encN .u8).s bv3 ((uvR l3).2.1) ((l3).length)) (((uvR l3).1 + 7) / 8) ((d3).length)), ((d3).take ((d3).length)).drop (((uvR l3).1 + 7) / 8), v_4, out ++ ul_2), ⟨rfl, rfl, rfl, rfl, rfl, rfl, trivial⟩, ⟨hs_45, hrd.sub (a := ((uvR l3).1 + 7) / 8) (by omega) (Nat.le_refl _), fun y hy => hbd y (List.mem_of_mem_take (List.mem_of_mem_drop hy)), by rw [List.length_drop, List.length_take]; omega, by rw [List.length_append]; omega, fun l hg => ⟨by rw [(hst l hg).1, (hE l hg).1]; exact blk_more l k, by rw [List.take_length]; exact (hst l hg).2⟩⟩, (show ((uvR p0).1 - (out ++ ul_2).length) < ((uvR p0).1 - out.length) from by rw [List.length_append]; omega)⟩
                · refine .exit0 <| .seq <| .seq ?_
                  have hfin : ∀ l, Gd p0 l → out = l := fun l hg => blk_all (hE l hg).1 (by rw [← (hG1 l hg).2]; omega)
                  have hn4096 : out.length ≤ 4096 := by omega
                  obtain ⟨so, rfl, _⟩ := (hs_36.rdL 1 rfl).sv
                  rcases Classical.em (OkN out) with hlo | hlo
                  · refine .draw (fun w' => Sat w_1 [cL lv 3 (encN .i64) (((p1).take ((uvR p1).2.1 + (uvR p1).1)).drop ((uvR p1).2.1)), cL so.val 3 (encN .i64) (out)] w') (.free 0 (.one 1 (.free 2 (.free 3 (.free 4 (.free 7 (.free 8 (.one 5 (.one 6 (.free 9 (.free 10 .fin))))))))))) mixed (by kernel_rfl) ?_
                    have hs_46 := hs_36.drew
                    refine .m rfl rfl hs_46 <| .f rfl (.call ent25 rfl ((rcheck_ok _ (out) _ (hs_46.rdL 1 rfl) hlo).mono fun r_11 w_23 h_11 => ?_))
                    obtain ⟨rfl, hp_11⟩ := h_11
                    have hs_47 := hs_46.adds hp_11
                    have hS_8 : Sat w_1 [_, _] _ := hs_47.sub ((.cons_cons _ (.cons_cons _ .slnil)))
                    refine ⟨hS_8, ?_⟩
                    refine .e rfl (fun w' hS' => .neqN (a := 0) (b := 0) rfl rfl) hS_8 <| .m rfl rfl hS_8 <| .evYes rfl rfl rfl rfl (rfl) rfl (fun w' hS' => .move rfl) hS_8 <| .evYes rfl rfl rfl rfl (rfl) rfl (fun w' hS' => .move rfl) hS_8 <| .evYes rfl rfl rfl rfl (rfl) rfl (fun w' hS' => .bytesStr Tryz.underlying22 Tryz.underlying9 Tryz.underlying5 rfl (hv1.ext hS'.ext)) hS_8 <| .effYes rfl rfl rfl rfl (rfl) rfl (OpE.call ent26 rfl ((rencode_ok _ (out) _ (hs_47.rdL 1 rfl) (hlo)).mono fun r_12 w_24 h_12 => ?_))
                    have hp_12 := h_12
                    have hs_48 := hs_47.adds hp_12
                    have hS_9 : Sat w_1 [_, _] _ := hs_48.sub ((.cons_cons _ (.cons_cons _ (.cons _ .slnil))))
                    refine ⟨hS_9, ?_⟩
                    refine .effYes rfl rfl rfl rfl (rfl) rfl (OpE.ev (Ev.bytesStr Tryz.underlying22 Tryz.underlying9 Tryz.underlying5 rfl (hs_48.rdL 2 rfl)) ⟨hS_9, ?_⟩)
                    refine .evYes rfl rfl rfl rfl (rfl) rfl (fun w' hS' => .strNeq rfl rfl) hS_9 <| .e rfl (fun w' hS' => .pickN rfl (rfl) rfl) hS_9 <| .fin <| .condD rfl (fun hc_13 => ?_) (fun hc_13 => ?_)
                    · refine .seq <| .region <| .s rfl rfl <| .s rfl rfl <| .nil <| .ret ?_
                      show PostK _ _ _ _ _ _
                      refine post2 rfl rfl rfl ?_
                      have hs_49 : Sat w_1 [] w_24 := hs_48.sub ((.cons _ (.cons _ (.cons _ .slnil))))
                      refine .inr ⟨rfl, (hs_1.adds hs_49).sub (.cons _ .slnil), fun l hl he => ?_⟩
                      have hg := hgd l hl he
                      exact hc_13 (by rw [hfin l hg, he])
                    · refine .skip <| .seq <| .region <| .m rfl rfl <| .s rfl rfl <| .s rfl rfl <| .nil <| .ret ?_
                      show PostK _ _ _ _ _ _
                      refine post2 rfl rfl rfl ?_
                      have hs_50 : Sat w_1 [_] w_24 := hs_48.sub ((.cons _ (.cons_cons _ (.cons _ .slnil))))
                      have h8 := (strOf_inj (seal_lt (plK_lt (kindN_le out))) hb).1 (Decidable.not_not.1 hc_13)
                      exact .inl ⟨out, _, hlo, h8.symm, fun l2 hl2 he2 => (hfin l2 (hgd l2 hl2 he2)).symm, rfl, (hs_1.adds hs_50).sub (.cons _ (.refl _))⟩
                  · refine .draw (fun w' => Sat w_1 [cL lv 3 (encN .i64) (((p1).take ((uvR p1).2.1 + (uvR p1).1)).drop ((uvR p1).2.1)), cL so.val 3 (encN .i64) (out)] w') (.free 0 (.one 1 (.free 2 (.free 3 (.free 4 (.free 7 (.free 8 (.one 5 (.one 6 (.free 9 (.free 10 .fin))))))))))) mixed (by kernel_rfl) ?_
                    have hs_51 := hs_36.drew
                    refine .m rfl rfl hs_51 <| .f rfl (.call ent25 rfl ((rcheck_no (hs_51.rdL 1 rfl) hn4096 hlo).mono fun r_13 w_25 h_13 => ?_))
                    obtain ⟨rfl, hp_13⟩ := h_13
                    have hs_52 := hs_51.adds hp_13
                    have hS_10 : Sat w_1 [_, _] _ := hs_52.sub ((.cons_cons _ (.cons_cons _ .slnil)))
                    refine ⟨hS_10, ?_⟩
                    refine .e rfl (fun w' hS' => .neqN (a := 8) (b := 0) rfl rfl) hS_10 <| .m rfl rfl hS_10 <| .no rfl rfl rfl rfl (rfl) rfl hS_10 <| .no rfl rfl rfl rfl (rfl) rfl hS_10 <| .no rfl rfl rfl rfl (rfl) rfl hS_10 <| .effNo rfl rfl rfl rfl (rfl) rfl hS_10 <| .effNo rfl rfl rfl rfl (rfl) rfl hS_10 <| .no rfl rfl rfl rfl (rfl) rfl hS_10 <| .e rfl (fun w' hS' => .pickY rfl (rfl) rfl) hS_10 <| .fin <| .condT rfl (rfl) <| .seq <| .region <| .s rfl rfl <| .s rfl rfl <| .nil <| .ret ?_
                    show PostK _ _ _ _ _ _
                    refine post2 rfl rfl rfl ?_
                    have hs_53 : Sat w_1 [] w_25 := hs_52.sub ((.cons _ (.cons _ .slnil)))
                    refine .inr ⟨rfl, (hs_1.adds hs_53).sub (.cons _ .slnil), fun l hl he => ?_⟩
                    have hg := hgd l hl he
                    exact hlo (by rw [hfin l hg]; exact hl)
  · refine .region <| .m rfl rfl <| .f rfl (.call ent21 rfl ((runseal_bad (hv.ext hs0.ext) hb (by omega) hun).mono fun r_14 w_26 h_14 => ?_))
    obtain ⟨ru_1, rfl, hp_14⟩ := h_14
    have hs_54 := hs0.adds hp_14
    refine .m rfl rfl <| .e rfl (.extract rfl rfl) <| .e rfl (.extract rfl rfl) <| .s rfl rfl <| .s rfl rfl <| .nil <| .seq <| .seq <| .region <| .m rfl rfl <| .e rfl (.notB rfl) <| .nil <| .condT rfl (rfl) <| .seq <| .region <| .s rfl rfl <| .s rfl rfl <| .nil <| .ret ?_
    show PostK _ _ _ _ _ _
    refine post2 rfl rfl rfl ?_
    have hs_55 : Sat w [] w_26 := hs_54.sub (.slnil)
    exact .inr ⟨rfl, hs_55, fun l hl he => hun ⟨_, he⟩⟩
end Go.Proofs.YtecfgjdpghddgaaGreat
namespace Go.Proofs.YtecfgjdpghddgaaGreat
open Go.RowKit Go.Kw
set_option maxRecDepth 100000
theorem rtdec_good {v : Value} {b l : List Nat} {w : World} (hv : RdL w v (encN .u8) b) (hb : ∀ x ∈ b, x < 256) (hbn : b.length ≤ 900000) (hl : OkN l) (he : b = sealN (plK l (kindN l))) : CallsV Tryz.prog 6 [v] w fun r w' => ∃ v', r = .tuple #[v', .bool true] ∧ Sat w [cL v' 3 (encN .i64) l] w' :=
  (rtdec_ok v b w hv hb hbn).mono fun r w' hq => by
    rcases hq with ⟨l2, v', _, _, h1, h2, h3⟩ | ⟨_, _, h1⟩
    · have := h1 l hl he; subst this; exact ⟨v', h2, h3⟩
    · exact absurd he (h1 l hl)
theorem rtdec_bad {v : Value} {b : List Nat} {w : World} (hv : RdL w v (encN .u8) b) (hb : ∀ x ∈ b, x < 256) (hbn : b.length ≤ 900000) (hno : ¬ ∃ l, OkN l ∧ b = sealN (plK l (kindN l))) : CallsV Tryz.prog 6 [v] w fun r w' => r = .tuple #[.slice none 0 0, .bool false] ∧ Sat w [] w' :=
  (rtdec_ok v b w hv hb hbn).mono fun r w' hq => by
    rcases hq with ⟨l2, v', h0, h1, _⟩ | ⟨h1, h2, _⟩
    · exact absurd ⟨l2, h0, h1⟩ hno
    · exact ⟨h1, h2⟩
set_option maxHeartbeats 2000000 in
theorem tokensDecodes_ok (v : Value) (b : List Nat) (w : World) (hv : RdL w v (encN .u8) b) (hb : ∀ x ∈ b, x < 256) (hn : b.length ≤ 9223372036854775807) :
    CallsV Tryz.prog 3 [v] w fun r w' => r = .bool true ∧ Sat w [] w' := by
  have hs0 := Sat.start w
  refine callsV_of Tryz.func3 rfl rfl ?_
  refine .seq <| .region <| .s rfl rfl <| .nil <| .seq <| .seq <| .region <| .m rfl rfl <| .e rfl (.lenL Tryz.underlying22 rfl (hv.ext hs0.ext)) <| .e rfl (.gtrN (b := 500) rfl rfl) <| .nil <| .condD rfl (fun hc_1 => ?_) (fun hc_1 => ?_)
  · refine .seq <| .region <| .s rfl rfl <| .nil <| .ret ?_
    show PostK _ _ _ _ _ _
    refine post1 rfl rfl ?_
    have hs_1 : Sat w [] w := hs0.sub (.slnil)
    exact ⟨rfl, hs_1⟩
  · refine .skip <| .seq ?_
    rcases Classical.em (∃ l, OkN l ∧ b = sealN (plK l (kindN l))) with hgd | hgd
    · obtain ⟨l, hl, he⟩ := hgd
      refine .region <| .m rfl rfl <| .f rfl (.call ent5 rfl ((tdecode_ok _ (b) (l) _ (hv.ext hs0.ext) (hl) (he)).mono fun r_1 w_1 h_1 => ?_))
      obtain ⟨g_1, lv_1, bv_1, ps_1, rfl, hps_1, hp_1⟩ := h_1
      have hs_2 := hs0.adds hp_1
      refine .m rfl rfl <| .e rfl (.extract rfl rfl) <| .e rfl (.extract rfl rfl) <| .s rfl rfl <| .s rfl rfl <| .nil <| .seq <| .region <| .m rfl rfl <| .f rfl (.call ent6 rfl ((rtdec_good (hv.ext hs_2.ext) hb (by omega) hl he).mono fun r_2 w_2 h_2 => ?_))
      obtain ⟨rv_1, rfl, hp_2⟩ := h_2
      have hs_3 := hs_2.adds hp_2
      refine .m rfl rfl <| .e rfl (.extract rfl rfl) <| .e rfl (.extract rfl rfl) <| .s rfl rfl <| .s rfl rfl <| .nil <| .seq <| .seq <| .region <| .m rfl rfl <| .e rfl (.notB rfl) <| .nil <| .condF rfl (rfl) <| .skip <| .seq <| .seq <| .region <| .m rfl rfl <| .e rfl (.neqN (a := 0) (b := 0) rfl rfl) <| .m rfl rfl <| .yes rfl rfl rfl (rfl) <| .m rfl rfl <| .yes rfl rfl rfl (rfl) <| .e rfl (.eqlPt Tryz.underlying23 rfl rfl) <| .e rfl (.pickN rfl (rfl) rfl) <| .nil <| .condF rfl (rfl) <| .skip <| .seq <| .region <| .m rfl rfl <| .m rfl rfl <| .f rfl (.call ent9 rfl ((slen_ok _ ((l).length) _ (hs_3.cell (i := 0) (j := 0) rfl rfl)).mono fun r_3 w_3 h_3 => ?_))
      obtain ⟨rfl, hp_3⟩ := h_3
      have hs_4 : Sat w [cObj g_1 65 [(.int .i64 ((l).length : Nat)), (.int .i64 (kindN l)), lv_1, bv_1, (.int .i64 (0 : Nat)), (.slice none 0 0)], cL lv_1 3 (encN .i64) (lensK l), cL bv_1 97 (encPt) (ps_1), cParts (ps_1), cL (Value.slice none 0 0) 3 (encN .i64) ([]), cL rv_1 3 (encN .i64) (l)] _ := hs_3.adds hp_3
      have hA_1 : Sat w ([cObj g_1 65 [(.int .i64 ((l).length : Nat)), (.int .i64 (kindN l)), lv_1, bv_1, (.int .i64 (0 : Nat)), (.slice none 0 0)], cL lv_1 3 (encN .i64) (lensK l), cL bv_1 97 (encPt) (ps_1), cParts (ps_1), cL (Value.slice none 0 0) 3 (encN .i64) ([])] ++ ([cL rv_1 3 (encN .i64) (l)] ++ [])) _ := (Sat.order [0, 1, 2, 3, 4, 5] (by decide) hs_4.tail).cut 5
      refine .f rfl (.call ent8 rfl ((sslice_ok _ _ _ _ _ _ _ (l) ([]) (ps_1) (0) hA_1 (hl) (hps_1) (CacheOk.zero l) (0) ((l).length) (Nat.zero_le _) (Nat.le_refl _)).mono fun r_4 w_4 h_4 => ?_))
      obtain ⟨slv_1, last_1, kv_1, blk_1, rfl, hca_1, hp_4⟩ := h_4
      have hs_5 : Sat w [cObj g_1 65 [(.int .i64 l.length), (.int .i64 (kindN l)), lv_1, bv_1, (.int .i64 last_1), kv_1], cL lv_1 3 (encN .i64) (lensK l), cL bv_1 97 (encPt) (ps_1), cParts (ps_1), cL kv_1 3 (encN .i64) (blk_1), cL rv_1 3 (encN .i64) (l), cL slv_1 3 (encN .i64) (((l).take ((l).length)).drop 0)] _ := (Sat.order [0, 1, 2, 3, 4, 6, 5] (by decide) hp_4.join).untail
      refine .m rfl rfl <| .e rfl (.extract rfl rfl) <| .e rfl (.extract rfl rfl) <| .s rfl rfl <| .s rfl rfl <| .nil <| .seq <| .drawS hs_5 (.free 0 (.free 1 (.free 2 (.free 3 (.one 4 (.free 5 (.free 6 (.free 7 (.free 10 (.free 11 (.one 8 (.one 9 (.free 12 (.free 13 (.free 14 (.one 15 (.free 16 (.free 17 .fin)))))))))))))))))) mixed (by kernel_rfl) ?_
      have hs_6 := hs_5.drew
      refine .m rfl rfl hs_6 <| .m rfl rfl hs_6 <| .evYes rfl rfl rfl rfl (rfl) rfl (fun w' hS' => .move rfl) hs_6 <| .evYes rfl rfl rfl rfl (rfl) rfl (fun w' hS' => .move rfl) hs_6 <| .effYes rfl rfl rfl rfl (rfl) rfl (OpE.call ent10 rfl ((same_ok _ _ (l) (((l).take ((l).length)).drop 0) _ (hs_6.rdL 5 rfl) (hs_6.rdL 6 rfl) (by have h9 := hl.len; (try simp); omega)).mono fun r_5 w_5 h_5 => ?_))
      obtain ⟨rfl, hp_5⟩ := h_5
      have hs_7 := hs_6.adds hp_5
      have hS_1 : Sat w [_, _, _, _, _, _, _] _ := hs_7.sub ((.cons_cons _ (.cons_cons _ (.cons_cons _ (.cons_cons _ (.cons_cons _ (.cons_cons _ (.cons_cons _ .slnil))))))))
      refine ⟨hS_1, ?_⟩
      refine .e rfl (fun w' hS' => .pickY rfl (rfl) rfl) hS_1 <| .m rfl rfl hS_1 <| .evYes rfl rfl rfl rfl (decide_eq_true (by simp)) rfl (fun w' hS' => .move rfl) hS_1 <| .evYes rfl rfl rfl rfl (decide_eq_true (by simp)) rfl (fun w' hS' => .move rfl) hS_1 <| .evYes rfl rfl rfl rfl (decide_eq_true (by simp)) rfl (fun w' hS' => .bytesStr Tryz.underlying22 Tryz.underlying9 Tryz.underlying5 rfl (hv.ext hS'.ext)) hS_1 <| .effYes rfl rfl rfl rfl (decide_eq_true (by simp)) rfl (OpE.call ent11 rfl ((sencode_ok g_1 l.length (kindN l) lv_1 bv_1 (lensK l) ps_1 _ (hs_7.cell (i := 0) (j := 0) rfl rfl) (hs_7.cell (i := 0) (j := 1) rfl rfl) (hs_7.cell (i := 0) (j := 2) rfl rfl) (hs_7.cell (i := 0) (j := 3) rfl rfl) (hs_7.rdL 1 rfl) (hs_7.rdL 2 rfl) (hs_7.rdParts 3 rfl) (hl.len) (kindN_le _) (lensK_len hl) ((ptsK_b hps_1 hl).1) ((ptsK_b hps_1 hl).2) (by rw [hps_1]; exact ptsK_lt _)).mono fun r_6 w_6 h_6 => ?_))
      have hp_6 := h_6
      have hs_8 := hs_7.adds hp_6
      have hS_2 : Sat w [_, _, _, _, _, _, _] _ := hs_8.sub ((.cons_cons _ (.cons_cons _ (.cons_cons _ (.cons_cons _ (.cons_cons _ (.cons_cons _ (.cons_cons _ (.cons _ .slnil)))))))))
      refine ⟨hS_2, ?_⟩
      refine .effYes rfl rfl rfl rfl (decide_eq_true (by simp)) rfl (OpE.ev (Ev.bytesStr Tryz.underlying22 Tryz.underlying9 Tryz.underlying5 rfl (hs_8.rdL 7 rfl)) ⟨hS_2, ?_⟩)
      refine .evYes rfl rfl rfl rfl (decide_eq_true (by simp)) rfl (fun w' hS' => .strEql rfl rfl) hS_2 <| .e rfl (fun w' hS' => .pickY rfl (decide_eq_true (by simp)) rfl) hS_2 <| .m rfl rfl hS_2 <| .effYes rfl rfl rfl rfl (decide_eq_true (by rw [hps_1, payl_K, ← he])) rfl (OpE.call ent7 rfl ((awake_ok _).mono fun r_7 w_7 h_7 => ?_))
      obtain ⟨rfl, hp_7⟩ := h_7
      have hs_9 := hs_8.adds hp_7
      have hS_3 : Sat w [_, _, _, _, _, _, _] _ := hs_9.sub ((.cons_cons _ (.cons_cons _ (.cons_cons _ (.cons_cons _ (.cons_cons _ (.cons_cons _ (.cons_cons _ (.cons _ .slnil)))))))))
      refine ⟨hS_3, ?_⟩
      refine .e rfl (fun w' hS' => .pickY rfl (decide_eq_true (by rw [hps_1, payl_K, ← he])) rfl) hS_3 <| .e rfl (fun w' hS' => .assign rfl) hS_3 <| .fin <| .ret ?_
      show PostK _ _ _ _ _ _
      refine post1 rfl rfl ?_
      have hs_10 : Sat w [] w_7 := hs_9.sub ((.cons _ (.cons _ (.cons _ (.cons _ (.cons _ (.cons _ (.cons _ (.cons _ .slnil)))))))))
      exact ⟨rfl, hs_10⟩
    · refine .region <| .m rfl rfl <| .f rfl (.call ent5 rfl ((tdecode_no _ b _ (hv.ext hs0.ext) hb (by omega) hgd).mono fun r_8 w_8 h_8 => ?_))
      obtain ⟨rfl, hp_8⟩ := h_8
      have hs_11 := hs0.adds hp_8
      refine .m rfl rfl <| .e rfl (.extract rfl rfl) <| .e rfl (.extract rfl rfl) <| .s rfl rfl <| .s rfl rfl <| .nil <| .seq <| .region <| .m rfl rfl <| .f rfl (.call ent6 rfl ((rtdec_bad (hv.ext hs_11.ext) hb (by omega) hgd).mono fun r_9 w_9 h_9 => ?_))
      obtain ⟨rfl, hp_9⟩ := h_9
      have hs_12 := hs_11.adds hp_9
      refine .m rfl rfl <| .e rfl (.extract rfl rfl) <| .e rfl (.extract rfl rfl) <| .s rfl rfl <| .s rfl rfl <| .nil <| .seq <| .seq <| .region <| .m rfl rfl <| .e rfl (.notB rfl) <| .nil <| .condT rfl (rfl) <| .seq <| .region <| .m rfl rfl <| .e rfl (.eqlN (a := 9) (b := 9) rfl rfl) <| .m rfl rfl <| .yes rfl rfl rfl (rfl) <| .m rfl rfl <| .yes rfl rfl rfl (rfl) <| .e rfl (.eqlPt Tryz.underlying23 rfl rfl) <| .e rfl (.pickY rfl (rfl) rfl) <| .m rfl rfl <| .yes rfl rfl rfl (rfl) <| .f rfl (.call ent7 rfl ((awake_ok _).mono fun r_10 w_10 h_10 => ?_))
      obtain ⟨rfl, hp_10⟩ := h_10
      have hs_13 : Sat w [] _ := hs_12.adds hp_10
      refine .e rfl (.pickY rfl (rfl) rfl) <| .s rfl rfl <| .nil <| .ret ?_
      show PostK _ _ _ _ _ _
      refine post1 rfl rfl ?_
      have hs_14 : Sat w [] w_10 := hs_13.sub (.slnil)
      exact ⟨rfl, hs_14⟩
end Go.Proofs.YtecfgjdpghddgaaGreat
