/- The walks of the functions of F42q, printed by our own program (kwgen.py) out of our descriptions (base.py). -/
import Derived.Test.YtecfgjdpghddgaaGreatDoorF42p
import Derived.Test.YtecfgjdpghddgaaGreatDoorM42d
import Derived.Test.YtecfgjdpghddgaaGreatDoorKd
import Derived.Test.YtecfgjdpghddgaaGreatDoorTab
set_option linter.unusedVariables false
set_option linter.unusedSimpArgs false
set_option linter.unusedSectionVars false
namespace Go.Proofs.YtecfgjdpghddgaaGreatDoor
open Go.RowKit Go.Kw
set_option maxRecDepth 100000
theorem rmanifest_o (av pv rv : Value) (al : List (ByteArray × Bool)) (nx jr : Int) (pl : List Pc) (w : World) (ha : RdL w av encAt al) (hna : al.length ≤ 200000) (hp : RdL w pv encPc pl) (hnp : pl.length ≤ 200000) (hrow : ∀ p ∈ pl, RdL w p.sv.val encTx p.ns) (hdl : ∀ p ∈ pl, p.ns.length ≤ 9223372036854775807) (hrv : rv.oneCell' = true) : CallsV Tryz.prog 8 [(.agg #[av, (.int .i64 (nx)), (.int .i64 (jr)), pv, rv])] w fun r w' => r = .tuple #[.string (manO al nx jr pl), .int .i64 ((manE al nx jr pl : Nat) : Int)] ∧ Sat w [] w' :=
  (rmanifest_n av pv rv al nx jr pl w ha hna hp hnp hrow hdl hrv).mono fun r w' hq => by
    refine ⟨?_, hq.2.2⟩
    unfold manO manE
    cases hb : stB al nx jr pl with
    | false => exact hq.2.1 (stB_no.1 hb)
    | true => exact hq.1 (stB_iff.1 hb)
theorem manifest_o (av pv rv : Value) (al : List (ByteArray × Bool)) (nx jr : Int) (pl : List Pc) (w : World) (ha : RdL w av encAt al) (hna : al.length ≤ 200000) (hp : RdL w pv encPc pl) (hnp : pl.length ≤ 200000) (hrow : ∀ p ∈ pl, RdL w p.sv.val encTx p.ns) (hdl : ∀ p ∈ pl, p.ns.length ≤ 9223372036854775807) (hrv : rv.oneCell' = true) (hgv : GV Tryz.prog 0 w) : CallsV Tryz.prog 7 [(.agg #[av, (.int .i64 (nx)), (.int .i64 (jr)), pv, rv])] w fun r w' => r = .tuple #[.string (manO al nx jr pl), .int .i64 ((manE al nx jr pl : Nat) : Int)] ∧ Sat w [] w' :=
  (manifest_n av pv rv al nx jr pl w ha hna hp hnp hrow hdl hrv hgv).mono fun r w' hq => by
    refine ⟨?_, hq.2.2⟩
    unfold manO manE
    cases hb : stB al nx jr pl with
    | false => exact hq.2.1 (stB_no.1 hb)
    | true => exact hq.1 (stB_iff.1 hb)
set_option maxHeartbeats 2000000 in
theorem rparse_n (s : ByteArray) (w : World) (hn : s.size ≤ 100000) :
    CallsV Tryz.prog 13 [(.string s)] w fun r w' => (∃ (av pv : Value) (a : List (ByteArray × Bool)) (n j : Int) (q : List Pc), goodM s a n j (q.map pcV) ∧ (∀ al nx jr ps, goodM s al nx jr ps → al = a ∧ nx = n ∧ jr = j ∧ ps = q.map pcV) ∧ q.length ≤ 200000 ∧ a.length ≤ 200000 ∧ (∀ p ∈ q, p.ns.length ≤ 200000) ∧ r = .tuple #[.agg #[av, .int .i64 n, .int .i64 j, pv, .slice none 0 0], .int .i64 ((0 : Nat) : Int)] ∧ Sat w [cL av 70 encAt a, cL pv 72 encPc q, cPcs 9 q] w')
  ∨ ((∀ al nx jr ps, ¬ goodM s al nx jr ps) ∧ r = .tuple #[.agg #[.slice none 0 0, .int .i64 ((0 : Nat) : Int), .int .i64 ((0 : Nat) : Int), .slice none 0 0, .slice none 0 0], .int .i64 ((9 : Nat) : Int)] ∧ Sat w [] w') := by
  have hs0 := Sat.start w
  refine callsV_of Tryz.func13 rfl rfl ?_
  refine .seq <| .region <| .f rfl (.alloc hs0 zero27 fun b_1 w_1 hs_1 hch_1 hb_1 => ?_)
  refine .s rfl rfl <| .nil <| .seq <| .seq <| .region <| .m rfl rfl <| .e rfl (.lenStr Tryz.underlying9 rfl) <| .e rfl (.lssN (b := 4) rfl rfl) <| .nil <| .condD rfl (fun hc_1 => ?_) (fun hc_1 => ?_)
  · refine .seq <| .region <| .e rfl (.build bt27 rfl trivial rfl) <| .f rfl (.storeObjA (vs := [(.slice none 0 0), (.int .i64 (0 : Nat)), (.int .i64 (0 : Nat)), (.slice none 0 0), (.slice none 0 0)]) agg27 hs_1 (i := 0) rfl rfl rfl rfl (fun v h => by simp only [List.mem_cons, List.not_mem_nil, or_false] at h; rcases h with rfl | rfl | rfl | rfl | rfl; exact rfl; exact rfl; exact rfl; exact rfl; exact rfl) fun w_2 hs_2 hch_2 => ?_)
    refine .s rfl rfl <| .nil <| .ret ?_
    show PostK _ _ _ _ _ _
    refine post2c (vs := [(.slice none 0 0), (.int .i64 (0 : Nat)), (.int .i64 (0 : Nat)), (.slice none 0 0), (.slice none 0 0)]) rfl rfl rfl agg27 (fun j u hu => hs_2.cell (i := 0) rfl hu) ?_
    have hs_3 : Sat w [] w_2 := hs_2.sub ((.cons _ .slnil))
    exact .inr ⟨fun al nx jr ps hg => by have := (good_body hg).1; omega, rfl, hs_3⟩
  · refine .skip <| .seq <| .region <| .f rfl (.alloc hs_1 zero27 fun b_2 w_3 hs_4 hch_3 hb_2 => ?_)
    refine .nil <| .seq <| .seq <| .region <| .m rfl rfl <| .m rfl rfl <| .e rfl (.lenStr Tryz.underlying9 rfl) <| .e rfl (.subI (b := 4) rfl rfl (by omega) (by omega)) <| .e rfl (.sliceStr (l := 0) (h := (s.size - 4)) Tryz.underlying9 rfl rfl ⟨_, rfl⟩ (by omega) (by omega)) <| .f rfl (.call ent37 rfl ((split_n (s.extract 0 (s.size - 4)) 10 _ (by rw [ByteArray.size_extract]; omega)).mono fun r_1 w_4 h_1 => ?_))
    have hp_1 := h_1
    have hs_5 := hs_4.adds hp_1
    refine .e rfl (.lenL Tryz.underlying61 rfl (hs_5.rdL 2 rfl)) <| .m rfl rfl <| .nil <| .block ?_
    have hs_6 : Sat w [_, _, _] w_4 := hs_5.sub ((.cons_cons _ (.cons_cons _ (.cons_cons _ .slnil))))
    have hs_7 : Sat w [_, _, _, cL (Value.slice none 0 0) 70 (encAt) ([])] _ := hs_6.newNilL 70 encAt
    have hs_8 : Sat w [_, _, _, _, cL (Value.slice none 0 0) 72 (encPc) ([])] _ := hs_7.newNilL 72 encPc
    have hs_9 : Sat w [cObj b_1 27 [(.slice none 0 0), (.int .i64 (0 : Nat)), (.int .i64 (0 : Nat)), (.slice none 0 0), (.slice none 0 0)], cObj b_2 27 [(.slice none 0 0), (.int .i64 (0 : Nat)), (.int .i64 (0 : Nat)), (.slice none 0 0), (.slice none 0 0)], cL r_1 9 (encTx) (cutB 10 (s.extract 0 (s.size - 4))), cL (Value.slice none 0 0) 70 (encAt) ([]), cL (Value.slice none 0 0) 72 (encPc) ([]), cPcs 9 ([])] _ := hs_8.newPcs 9
    have hs_10 : Sat w [cObj b_1 27 [(.slice none 0 0), (.int .i64 (0 : Nat)), (.int .i64 (0 : Nat)), (.slice none 0 0), (.slice none 0 0)], cObj b_2 27 [(.slice none 0 0), (.int .i64 (0 : Nat)), (.int .i64 (0 : Nat)), (.slice none 0 0), (.slice none 0 0)], cL (Value.slice none 0 0) 70 (encAt) ([]), cL (Value.slice none 0 0) 72 (encPc) ([]), cPcs 9 ([]), cL r_1 9 (encTx) (cutB 10 (s.extract 0 (s.size - 4)))] w_4 := ((Sat.order [0, 1, 3, 4, 5, 2] (by decide) hs_9.tail).untail).sub ((.cons_cons _ (.cons_cons _ (.cons_cons _ (.cons_cons _ (.cons_cons _ (.cons_cons _ .slnil)))))))
    have hLl := cutB_length_le 10 (s.extract 0 (s.size - 4)); rw [ByteArray.size_extract] at hLl
    refine .loop (α := Nat × Value × List (ByteArray × Bool) × Int × Int × Value × List Pc) (fun (k, av, a, n, j, pv, q) => [(0, (.string s)), (2, (.pointer (some ⟨b_1, 0, none⟩))), (3, (.int .i64 (0 : Nat))), (4, (.pointer (some ⟨b_2, 0, none⟩))), (19, r_1), (20, (.int .i64 ((cutB 10 (s.extract 0 (s.size - 4))).length : Nat))), (21, (.int .i64 k))]) (fun (k, av, a, n, j, pv, q) w' => Sat w [cObj b_1 27 [(.slice none 0 0), (.int .i64 (0 : Nat)), (.int .i64 (0 : Nat)), (.slice none 0 0), (.slice none 0 0)], cObj b_2 27 [av, (.int .i64 (n)), (.int .i64 (j)), pv, (.slice none 0 0)], cL av 70 (encAt) (a), cL pv 72 (encPc) (q), cPcs 9 (q), cL r_1 9 (encTx) (cutB 10 (s.extract 0 (s.size - 4)))] w' ∧ (k ≤ (cutB 10 (s.extract 0 (s.size - 4))).length) ∧ (a.length ≤ k) ∧ (q.length ≤ k) ∧ (∀ p ∈ q, p.ns.length ≤ 200000) ∧ (∀ al nx jr ps, goodM s al nx jr ps → stAt al nx jr ps k a n j (q.map pcV))) (fun (k, av, a, n, j, pv, q) => (cutB 10 (s.extract 0 (s.size - 4))).length - k) (0, (.slice none 0 0), [], 0, 0, (.slice none 0 0), []) ⟨rfl, rfl, rfl, rfl, rfl, rfl, rfl, trivial⟩ ⟨hs_10, Nat.zero_le _, Nat.le_refl _, Nat.le_refl _, fun p hp => absurd hp (by simp), fun al nx jr ps hg => stAt_zero⟩ ?_
    rintro ⟨k, av, a, n, j, pv, q⟩ w_5 ⟨hs_11, hk, hal, hql, hqd, hI⟩
    show CW _ _ _ _ [(0, (.string s)), (2, (.pointer (some ⟨b_1, 0, none⟩))), (3, (.int .i64 (0 : Nat))), (4, (.pointer (some ⟨b_2, 0, none⟩))), (19, r_1), (20, (.int .i64 ((cutB 10 (s.extract 0 (s.size - 4))).length : Nat))), (21, (.int .i64 k))] _
    refine .seq <| .region <| .e rfl (.lssN rfl rfl) <| .nil <| .seq <| .condD rfl (fun hc_2 => ?_) (fun hc_2 => ?_)
    · refine .skip <| .seq <| .block <| .seq ?_
      obtain ⟨x, hx⟩ : ∃ x, (cutB 10 (s.extract 0 (s.size - 4)))[k]? = some x := ⟨_, List.getElem?_eq_getElem hc_2⟩
      have hxs : x.size ≤ 100000 := by have h9 := cutB_mem_size (mem_of_get hx); rw [ByteArray.size_extract] at h9; omega
      have hwl := cutB_length_le 32 x
      have hw0 := cutB_pos 32 x
      obtain ⟨y0, hy0⟩ : ∃ y0, (cutB 32 x)[0]? = some y0 := ⟨_, List.getElem?_eq_getElem (by omega)⟩
      refine .region <| .e rfl (.idxL (E := encTx) sl61 rfl rfl (hs_11.rdL 5 rfl) (by omega)) <| .e rfl (.ldL (E := encTx) scal9 rfl (hs_11.rdL 5 rfl) hx (by decide) rfl) <| .s rfl rfl <| .nil <| .seq <| .region <| .m rfl rfl <| .f rfl (.call ent37 rfl ((split_n x 32 _ (by omega)).mono fun r_2 w_6 h_2 => ?_))
      have hp_2 := h_2
      have hs_12 := hs_11.adds hp_2
      refine .s rfl rfl <| .nil <| .block <| .seq <| .mid (fun L' w' => Weak [(0, (.string s)), (2, (.pointer (some ⟨b_1, 0, none⟩))), (3, (.int .i64 (0 : Nat))), (4, (.pointer (some ⟨b_2, 0, none⟩))), (6, (.string x)), (7, r_2), (19, r_1), (20, (.int .i64 ((cutB 10 (s.extract 0 (s.size - 4))).length : Nat))), (21, (.int .i64 k)), (22, (.bool (decide (k < (cutB 10 (s.extract 0 (s.size - 4))).length)))), (27, (.bool (decide ((y0 = (ByteArray.mk #[110, 101, 120, 116])) ∧ ((cutB 32 x).length = 2)))))] L' ∧ Sat w [cObj b_1 27 [(.slice none 0 0), (.int .i64 (0 : Nat)), (.int .i64 (0 : Nat)), (.slice none 0 0), (.slice none 0 0)], cObj b_2 27 [av, (.int .i64 (n)), (.int .i64 (j)), pv, (.slice none 0 0)], cL av 70 (encAt) (a), cL pv 72 (encPc) (q), cPcs 9 (q), cL r_1 9 (encTx) (cutB 10 (s.extract 0 (s.size - 4))), cL r_2 9 (encTx) (cutB 32 x)] w') ?_ ?_
      · refine .region <| .m rfl rfl <| .e rfl (.idxL (j := 0) (E := encTx) sl61 rfl rfl (hs_12.rdL 6 rfl) (by omega)) <| .e rfl (.ldL (E := encTx) scal9 rfl (hs_12.rdL 6 rfl) hy0 (by decide) rfl) <| .e rfl (.strEql rfl rfl) <| .m rfl rfl ?_
        by_cases hg_1 : y0 = (ByteArray.mk #[110, 101, 120, 116])
        · refine .yes rfl rfl rfl (decide_eq_true hg_1) <| .m rfl rfl <| .yes rfl rfl rfl (decide_eq_true hg_1) <| .e rfl (.lenL Tryz.underlying61 rfl (hs_12.rdL 6 rfl)) <| .yes rfl rfl rfl (decide_eq_true hg_1) <| .e rfl (.eqlN (b := 2) rfl rfl) <| .e rfl (.pickY rfl (decide_eq_true hg_1) rfl) <| .s rfl rfl <| .nil ?_
          exact ⟨⟨rfl, rfl, rfl, rfl, rfl, rfl, rfl, rfl, rfl, rfl, congrArg some (congrArg Value.bool (by simp [hg_1])), trivial⟩, hs_12⟩
        · refine .no rfl rfl rfl (decide_eq_false hg_1) rfl <| .no rfl rfl rfl (decide_eq_false hg_1) rfl <| .no rfl rfl rfl (decide_eq_false hg_1) rfl <| .e rfl (.pickN rfl (decide_eq_false hg_1) rfl) <| .s rfl rfl <| .nil ?_
          exact ⟨⟨rfl, rfl, rfl, rfl, rfl, rfl, rfl, rfl, rfl, rfl, congrArg some (congrArg Value.bool (by simp [hg_1])), trivial⟩, hs_12⟩
      · rintro L' w_7 ⟨hw_1, hs_13⟩
        refine .weaken _ hw_1 <| .condD rfl (fun hc_3 => ?_) (fun hc_3 => ?_)
        · have hb_next := hc_3
          obtain ⟨y, hy⟩ : ∃ y, (cutB 32 x)[1]? = some y := ⟨_, List.getElem?_eq_getElem (by omega)⟩
          refine .region <| .m rfl rfl <| .e rfl (.idxL (j := 1) (E := encTx) sl61 rfl rfl (hs_13.rdL 6 rfl) (by omega)) <| .e rfl (.ldL (E := encTx) scal9 rfl (hs_13.rdL 6 rfl) hy (by decide) rfl) <| .f rfl (.call ent38 rfl ((numR_n y _).mono fun r_3 w_8 h_3 => ?_))
          obtain ⟨rfl, hp_3⟩ := h_3
          have hs_14 := hs_13.adds hp_3
          refine .e rfl (.fieldAddr fld27_1 rfl rfl) <| .f rfl (.storeObj one3 hs_14 (i := 1) rfl rfl rfl (rfl) rfl fun w_9 hs_15 hch_4 => ?_)
          have hs_15d : Sat w [_, cObj b_2 27 [av, (.int .i64 (numR y)), (.int .i64 (j)), pv, (.slice none 0 0)], _, _, _, _, _] _ := hs_15
          refine .nil <| .region <| .e rfl (.addI (b := 1) rfl rfl (by omega)) <| .m rfl rfl <| .nil ?_
          have hs_16 : Sat w [_, _, _, _, _, _] w_9 := hs_15d.sub ((.cons_cons _ (.cons_cons _ (.cons_cons _ (.cons_cons _ (.cons_cons _ (.cons_cons _ (.cons _ .slnil))))))))
          exact ⟨(k + 1, av, a, (((numR y) : Nat) : Int), j, pv, q), ⟨rfl, rfl, rfl, rfl, rfl, rfl, rfl, trivial⟩, ⟨hs_16, by omega, by omega, by omega, hqd, fun al nx jr ps hg => st_next (good_cls hg ((good_body hg).2) hx) hy0 (hb_next.1.trans rfl) hy (fun e => numR_int (good_bd hg).1 e) (hI _ _ _ _ hg)⟩, (show ((cutB 10 (s.extract 0 (s.size - 4))).length - (k + 1)) < ((cutB 10 (s.extract 0 (s.size - 4))).length - k) from by omega)⟩
        · refine .seq ?_
          have hn_next := hc_3
          refine .mid (fun L' w' => Weak [(0, (.string s)), (2, (.pointer (some ⟨b_1, 0, none⟩))), (3, (.int .i64 (0 : Nat))), (4, (.pointer (some ⟨b_2, 0, none⟩))), (6, (.string x)), (7, r_2), (19, r_1), (20, (.int .i64 ((cutB 10 (s.extract 0 (s.size - 4))).length : Nat))), (21, (.int .i64 k)), (22, (.bool (decide (k < (cutB 10 (s.extract 0 (s.size - 4))).length)))), (27, (.bool (decide ((y0 = (ByteArray.mk #[110, 101, 120, 116])) ∧ ((cutB 32 x).length = 2))))), (42, (.bool (decide ((y0 = (ByteArray.mk #[106, 111, 117, 114, 110, 97, 108])) ∧ ((cutB 32 x).length = 2)))))] L' ∧ Sat w [cObj b_1 27 [(.slice none 0 0), (.int .i64 (0 : Nat)), (.int .i64 (0 : Nat)), (.slice none 0 0), (.slice none 0 0)], cObj b_2 27 [av, (.int .i64 (n)), (.int .i64 (j)), pv, (.slice none 0 0)], cL av 70 (encAt) (a), cL pv 72 (encPc) (q), cPcs 9 (q), cL r_1 9 (encTx) (cutB 10 (s.extract 0 (s.size - 4))), cL r_2 9 (encTx) (cutB 32 x)] w') ?_ ?_
          · refine .region <| .m rfl rfl <| .e rfl (.idxL (j := 0) (E := encTx) sl61 rfl rfl (hs_13.rdL 6 rfl) (by omega)) <| .e rfl (.ldL (E := encTx) scal9 rfl (hs_13.rdL 6 rfl) hy0 (by decide) rfl) <| .e rfl (.strEql rfl rfl) <| .m rfl rfl ?_
            by_cases hg_2 : y0 = (ByteArray.mk #[106, 111, 117, 114, 110, 97, 108])
            · refine .yes rfl rfl rfl (decide_eq_true hg_2) <| .m rfl rfl <| .yes rfl rfl rfl (decide_eq_true hg_2) <| .e rfl (.lenL Tryz.underlying61 rfl (hs_13.rdL 6 rfl)) <| .yes rfl rfl rfl (decide_eq_true hg_2) <| .e rfl (.eqlN (b := 2) rfl rfl) <| .e rfl (.pickY rfl (decide_eq_true hg_2) rfl) <| .s rfl rfl <| .nil ?_
              exact ⟨⟨rfl, rfl, rfl, rfl, rfl, rfl, rfl, rfl, rfl, rfl, rfl, congrArg some (congrArg Value.bool (by simp [hg_2])), trivial⟩, hs_13⟩
            · refine .no rfl rfl rfl (decide_eq_false hg_2) rfl <| .no rfl rfl rfl (decide_eq_false hg_2) rfl <| .no rfl rfl rfl (decide_eq_false hg_2) rfl <| .e rfl (.pickN rfl (decide_eq_false hg_2) rfl) <| .s rfl rfl <| .nil ?_
              exact ⟨⟨rfl, rfl, rfl, rfl, rfl, rfl, rfl, rfl, rfl, rfl, rfl, congrArg some (congrArg Value.bool (by simp [hg_2])), trivial⟩, hs_13⟩
          · rintro L' w_10 ⟨hw_2, hs_17⟩
            refine .weaken _ hw_2 <| .condD rfl (fun hc_4 => ?_) (fun hc_4 => ?_)
            · have hb_jour := hc_4
              obtain ⟨y, hy⟩ : ∃ y, (cutB 32 x)[1]? = some y := ⟨_, List.getElem?_eq_getElem (by omega)⟩
              refine .region <| .m rfl rfl <| .e rfl (.idxL (j := 1) (E := encTx) sl61 rfl rfl (hs_17.rdL 6 rfl) (by omega)) <| .e rfl (.ldL (E := encTx) scal9 rfl (hs_17.rdL 6 rfl) hy (by decide) rfl) <| .f rfl (.call ent38 rfl ((numR_n y _).mono fun r_4 w_11 h_4 => ?_))
              obtain ⟨rfl, hp_4⟩ := h_4
              have hs_18 := hs_17.adds hp_4
              refine .e rfl (.fieldAddr fld27_2 rfl rfl) <| .f rfl (.storeObj one3 hs_18 (i := 1) rfl rfl rfl (rfl) rfl fun w_12 hs_19 hch_5 => ?_)
              refine .nil <| .region <| .e rfl (.addI (b := 1) rfl rfl (by omega)) <| .m rfl rfl <| .nil ?_
              have hs_20 : Sat w [_, _, _, _, _, _] w_12 := hs_19.sub ((.cons_cons _ (.cons_cons _ (.cons_cons _ (.cons_cons _ (.cons_cons _ (.cons_cons _ (.cons _ .slnil))))))))
              exact ⟨(k + 1, av, a, n, (((numR y) : Nat) : Int), pv, q), ⟨rfl, rfl, rfl, rfl, rfl, rfl, rfl, trivial⟩, ⟨hs_20, by omega, by omega, by omega, hqd, fun al nx jr ps hg => st_jour (good_cls hg ((good_body hg).2) hx) hy0 (hb_jour.1.trans rfl) hy (fun e => numR_int (good_bd hg).2.1 e) (hI _ _ _ _ hg)⟩, (show ((cutB 10 (s.extract 0 (s.size - 4))).length - (k + 1)) < ((cutB 10 (s.extract 0 (s.size - 4))).length - k) from by omega)⟩
            · refine .seq ?_
              have hn_jour := hc_4
              refine .mid (fun L' w' => Weak [(0, (.string s)), (2, (.pointer (some ⟨b_1, 0, none⟩))), (3, (.int .i64 (0 : Nat))), (4, (.pointer (some ⟨b_2, 0, none⟩))), (6, (.string x)), (7, r_2), (19, r_1), (20, (.int .i64 ((cutB 10 (s.extract 0 (s.size - 4))).length : Nat))), (21, (.int .i64 k)), (22, (.bool (decide (k < (cutB 10 (s.extract 0 (s.size - 4))).length)))), (27, (.bool (decide ((y0 = (ByteArray.mk #[110, 101, 120, 116])) ∧ ((cutB 32 x).length = 2))))), (42, (.bool (decide ((y0 = (ByteArray.mk #[106, 111, 117, 114, 110, 97, 108])) ∧ ((cutB 32 x).length = 2))))), (57, (.bool (decide ((y0 = (ByteArray.mk #[97, 116, 116, 114, 105, 98, 117, 116, 101])) ∧ ((cutB 32 x).length = 3)))))] L' ∧ Sat w [cObj b_1 27 [(.slice none 0 0), (.int .i64 (0 : Nat)), (.int .i64 (0 : Nat)), (.slice none 0 0), (.slice none 0 0)], cObj b_2 27 [av, (.int .i64 (n)), (.int .i64 (j)), pv, (.slice none 0 0)], cL av 70 (encAt) (a), cL pv 72 (encPc) (q), cPcs 9 (q), cL r_1 9 (encTx) (cutB 10 (s.extract 0 (s.size - 4))), cL r_2 9 (encTx) (cutB 32 x)] w') ?_ ?_
              · refine .region <| .m rfl rfl <| .e rfl (.idxL (j := 0) (E := encTx) sl61 rfl rfl (hs_17.rdL 6 rfl) (by omega)) <| .e rfl (.ldL (E := encTx) scal9 rfl (hs_17.rdL 6 rfl) hy0 (by decide) rfl) <| .e rfl (.strEql rfl rfl) <| .m rfl rfl ?_
                by_cases hg_3 : y0 = (ByteArray.mk #[97, 116, 116, 114, 105, 98, 117, 116, 101])
                · refine .yes rfl rfl rfl (decide_eq_true hg_3) <| .m rfl rfl <| .yes rfl rfl rfl (decide_eq_true hg_3) <| .e rfl (.lenL Tryz.underlying61 rfl (hs_17.rdL 6 rfl)) <| .yes rfl rfl rfl (decide_eq_true hg_3) <| .e rfl (.eqlN (b := 3) rfl rfl) <| .e rfl (.pickY rfl (decide_eq_true hg_3) rfl) <| .s rfl rfl <| .nil ?_
                  exact ⟨⟨rfl, rfl, rfl, rfl, rfl, rfl, rfl, rfl, rfl, rfl, rfl, rfl, congrArg some (congrArg Value.bool (by simp [hg_3])), trivial⟩, hs_17⟩
                · refine .no rfl rfl rfl (decide_eq_false hg_3) rfl <| .no rfl rfl rfl (decide_eq_false hg_3) rfl <| .no rfl rfl rfl (decide_eq_false hg_3) rfl <| .e rfl (.pickN rfl (decide_eq_false hg_3) rfl) <| .s rfl rfl <| .nil ?_
                  exact ⟨⟨rfl, rfl, rfl, rfl, rfl, rfl, rfl, rfl, rfl, rfl, rfl, rfl, congrArg some (congrArg Value.bool (by simp [hg_3])), trivial⟩, hs_17⟩
              · rintro L' w_13 ⟨hw_3, hs_21⟩
                refine .weaken _ hw_3 <| .condD rfl (fun hc_5 => ?_) (fun hc_5 => ?_)
                · have hb_attr := hc_5
                  obtain ⟨y, hy⟩ : ∃ y, (cutB 32 x)[1]? = some y := ⟨_, List.getElem?_eq_getElem (by omega)⟩
                  obtain ⟨z2, hz2⟩ : ∃ z2, (cutB 32 x)[2]? = some z2 := ⟨_, List.getElem?_eq_getElem (by omega)⟩
                  have hshp_1 := (hs_21.rdL (E := encAt) 2 rfl).shp (by decide)
                  refine .draw2 (fun w' => Sat w [cObj b_1 27 [(.slice none 0 0), (.int .i64 (0 : Nat)), (.int .i64 (0 : Nat)), (.slice none 0 0), (.slice none 0 0)], cObj b_2 27 [av, (.int .i64 (n)), (.int .i64 (j)), pv, (.slice none 0 0)], cL pv 72 (encPc) (q), cPcs 9 (q), cL r_1 9 (encTx) (cutB 10 (s.extract 0 (s.size - 4))), cL r_2 9 (encTx) (cutB 32 x)] w') (fun w' => Sat w [cObj b_1 27 [(.slice none 0 0), (.int .i64 (0 : Nat)), (.int .i64 (0 : Nat)), (.slice none 0 0), (.slice none 0 0)], cL pv 72 (encPc) (q), cPcs 9 (q), cL r_1 9 (encTx) (cutB 10 (s.extract 0 (s.size - 4))), cL r_2 9 (encTx) (cutB 32 x)] w') 13 (.free 0 (.free 1 (.free 2 (.free 3 (.free 4 (.free 5 (.free 6 (.free 7 (.free 8 (.free 9 (.one 10 (.one 11 (.free 12 (.bar 13 .fin)))))))))))))) (fun w' h => h.sub ((.cons_cons _ (.cons _ (.cons_cons _ (.cons_cons _ (.cons_cons _ (.cons_cons _ .slnil)))))))) mixed (by kernel_rfl) ?_
                  have hs_22 := hs_21.drew
                  have hS_1 : Sat w [_, _, _, _, _, _] _ := hs_22.sub ((.cons_cons _ (.cons_cons _ (.cons _ (.cons_cons _ (.cons_cons _ (.cons_cons _ (.cons_cons _ .slnil))))))))
                  refine .e rfl (fun w' hS' => .fieldAddr fld27_0 rfl rfl) hS_1 <| .e rfl (fun w' hS' => .load scal23 rfl (hS'.cell (i := 1) (j := 0) rfl rfl)) hS_1 <| .m rfl rfl hS_1 <| .e rfl (fun w' hS' => .idxL (j := 1) (E := encTx) sl61 rfl rfl (hS'.rdL 5 rfl) (by omega)) hS_1 <| .e rfl (fun w' hS' => .ldL (E := encTx) scal9 rfl (hS'.rdL 5 rfl) hy (by decide) rfl) hS_1 <| .m rfl rfl hS_1 <| .e rfl (fun w' hS' => .idxL (j := 2) (E := encTx) sl61 rfl rfl (hS'.rdL 5 rfl) (by omega)) hS_1 <| .e rfl (fun w' hS' => .ldL (E := encTx) scal9 rfl (hS'.rdL 5 rfl) hz2 (by decide) rfl) hS_1 <| .e rfl (fun w' hS' => .strEql rfl rfl) hS_1 <| .e rfl (fun w' hS' => .build bt70 rfl ⟨rfl, rfl, trivial⟩ rfl) hS_1 <| .f rfl (.lit1A (encAt) (y, decide (z2 = (ByteArray.mk #[49]))) sl23 (by decide) (by decide) hs_22 rfl fun v_1 w_14 hs_23 hch_6 => ?_)
                  have hS_2 : Sat w [_, _, _, _, _, _] _ := hs_23.sub ((.cons_cons _ (.cons_cons _ (.cons _ (.cons_cons _ (.cons_cons _ (.cons_cons _ (.cons_cons _ (.cons _ .slnil)))))))))
                  refine ⟨hS_2, ?_⟩
                  refine .f rfl (.appendL 2 sl23 hs_23 rfl rfl rfl Tryz.underlying23 (hs_23.rdL 7 rfl) (by simp only [List.length_cons, List.length_nil]; omega) (by simp only [List.length_cons, List.length_nil]; omega) fun v_2 w_15 hs_24 hch_7 => ?_)
                  have hs_24d : Sat w [_, _, cL v_2 70 (encAt) (a ++ [(y, decide (z2 = (ByteArray.mk #[49])))]), _, _, _, _] _ := hs_24.drop 7
                  have hS_3 : Sat w [_, _, _, _, _, _] _ := hs_24d.sub ((.cons_cons _ (.cons_cons _ (.cons _ (.cons_cons _ (.cons_cons _ (.cons_cons _ (.cons_cons _ .slnil))))))))
                  refine ⟨hS_3, ?_⟩
                  refine .e rfl (fun w' hS' => .fieldAddr fld27_0 rfl rfl) hS_3 <| .bar rfl rfl rfl (OpE.storeObj one23 hs_24d (i := 1) rfl rfl rfl ((hs_24d.rdL 2 rfl).oneCell) rfl fun w_16 hs_25 hch_8 => ?_)
                  have hS_4 : Sat w [_, _, _, _, _] _ := hs_25.sub ((.cons_cons _ (.cons _ (.cons _ (.cons_cons _ (.cons_cons _ (.cons_cons _ (.cons_cons _ .slnil))))))))
                  refine ⟨hS_4, ?_⟩
                  refine .fin <| .region <| .e rfl (.addI (b := 1) rfl rfl (by omega)) <| .m rfl rfl <| .nil ?_
                  have hs_26 : Sat w [_, cObj b_2 27 [v_2, (.int .i64 (n)), (.int .i64 (j)), pv, (.slice none 0 0)], cL v_2 70 (encAt) (a ++ [(y, decide (z2 = (ByteArray.mk #[49])))]), _, _, _] w_16 := hs_25.sub ((.cons_cons _ (.cons_cons _ (.cons_cons _ (.cons_cons _ (.cons_cons _ (.cons_cons _ (.cons _ .slnil))))))))
                  exact ⟨(k + 1, v_2, a ++ [(y, decide (z2 = (ByteArray.mk #[49])))], n, j, pv, q), ⟨rfl, rfl, rfl, rfl, rfl, rfl, rfl, trivial⟩, ⟨hs_26, by omega, by rw [List.length_append, List.length_singleton]; omega, by omega, hqd, fun al nx jr ps hg => st_attr (good_cls hg ((good_body hg).2) hx) hy0 (hb_attr.1.trans rfl) hy (fun z hz => (by rw [hz2] at hz; cases hz; rfl)) (hI _ _ _ _ hg)⟩, (show ((cutB 10 (s.extract 0 (s.size - 4))).length - (k + 1)) < ((cutB 10 (s.extract 0 (s.size - 4))).length - k) from by omega)⟩
                · refine .seq ?_
                  have hn_attr := hc_5
                  refine .mid (fun L' w' => Weak [(0, (.string s)), (2, (.pointer (some ⟨b_1, 0, none⟩))), (3, (.int .i64 (0 : Nat))), (4, (.pointer (some ⟨b_2, 0, none⟩))), (6, (.string x)), (7, r_2), (19, r_1), (20, (.int .i64 ((cutB 10 (s.extract 0 (s.size - 4))).length : Nat))), (21, (.int .i64 k)), (22, (.bool (decide (k < (cutB 10 (s.extract 0 (s.size - 4))).length)))), (27, (.bool (decide ((y0 = (ByteArray.mk #[110, 101, 120, 116])) ∧ ((cutB 32 x).length = 2))))), (42, (.bool (decide ((y0 = (ByteArray.mk #[106, 111, 117, 114, 110, 97, 108])) ∧ ((cutB 32 x).length = 2))))), (57, (.bool (decide ((y0 = (ByteArray.mk #[97, 116, 116, 114, 105, 98, 117, 116, 101])) ∧ ((cutB 32 x).length = 3))))), (80, (.bool (decide ((y0 = (ByteArray.mk #[112, 105, 101, 99, 101])) ∧ (2 ≤ (cutB 32 x).length)))))] L' ∧ Sat w [cObj b_1 27 [(.slice none 0 0), (.int .i64 (0 : Nat)), (.int .i64 (0 : Nat)), (.slice none 0 0), (.slice none 0 0)], cObj b_2 27 [av, (.int .i64 (n)), (.int .i64 (j)), pv, (.slice none 0 0)], cL av 70 (encAt) (a), cL pv 72 (encPc) (q), cPcs 9 (q), cL r_1 9 (encTx) (cutB 10 (s.extract 0 (s.size - 4))), cL r_2 9 (encTx) (cutB 32 x)] w') ?_ ?_
                  · refine .region <| .m rfl rfl <| .e rfl (.idxL (j := 0) (E := encTx) sl61 rfl rfl (hs_21.rdL 6 rfl) (by omega)) <| .e rfl (.ldL (E := encTx) scal9 rfl (hs_21.rdL 6 rfl) hy0 (by decide) rfl) <| .e rfl (.strEql rfl rfl) <| .m rfl rfl ?_
                    by_cases hg_4 : y0 = (ByteArray.mk #[112, 105, 101, 99, 101])
                    · refine .yes rfl rfl rfl (decide_eq_true hg_4) <| .m rfl rfl <| .yes rfl rfl rfl (decide_eq_true hg_4) <| .e rfl (.lenL Tryz.underlying61 rfl (hs_21.rdL 6 rfl)) <| .yes rfl rfl rfl (decide_eq_true hg_4) <| .e rfl (.geqN (b := 2) rfl rfl) <| .e rfl (.pickY rfl (decide_eq_true hg_4) rfl) <| .s rfl rfl <| .nil ?_
                      exact ⟨⟨rfl, rfl, rfl, rfl, rfl, rfl, rfl, rfl, rfl, rfl, rfl, rfl, rfl, congrArg some (congrArg Value.bool (by simp [hg_4])), trivial⟩, hs_21⟩
                    · refine .no rfl rfl rfl (decide_eq_false hg_4) rfl <| .no rfl rfl rfl (decide_eq_false hg_4) rfl <| .no rfl rfl rfl (decide_eq_false hg_4) rfl <| .e rfl (.pickN rfl (decide_eq_false hg_4) rfl) <| .s rfl rfl <| .nil ?_
                      exact ⟨⟨rfl, rfl, rfl, rfl, rfl, rfl, rfl, rfl, rfl, rfl, rfl, rfl, rfl, congrArg some (congrArg Value.bool (by simp [hg_4])), trivial⟩, hs_21⟩
                  · rintro L' w_17 ⟨hw_4, hs_27⟩
                    refine .weaken _ hw_4 <| .condD rfl (fun hc_6 => ?_) (fun hc_6 => ?_)
                    · have hb_piece := hc_6
                      obtain ⟨y, hy⟩ : ∃ y, (cutB 32 x)[1]? = some y := ⟨_, List.getElem?_eq_getElem (by omega)⟩
                      have hshp_2 := (hs_27.rdL (E := encPc) 3 rfl).shp (by decide)
                      refine .draw2 (fun w' => Sat w [cObj b_1 27 [(.slice none 0 0), (.int .i64 (0 : Nat)), (.int .i64 (0 : Nat)), (.slice none 0 0), (.slice none 0 0)], cObj b_2 27 [av, (.int .i64 (n)), (.int .i64 (j)), pv, (.slice none 0 0)], cL av 70 (encAt) (a), cPcs 9 (q), cL r_1 9 (encTx) (cutB 10 (s.extract 0 (s.size - 4))), cL r_2 9 (encTx) (cutB 32 x)] w') (fun w' => Sat w [cObj b_1 27 [(.slice none 0 0), (.int .i64 (0 : Nat)), (.int .i64 (0 : Nat)), (.slice none 0 0), (.slice none 0 0)], cL av 70 (encAt) (a), cPcs 9 (q), cL r_1 9 (encTx) (cutB 10 (s.extract 0 (s.size - 4))), cL r_2 9 (encTx) (cutB 32 x)] w') 14 (.free 0 (.free 1 (.free 2 (.free 3 (.free 4 (.free 7 (.free 8 (.two 5 6 (.one 6 (.one 9 (.free 10 (.one 11 (.one 12 (.free 13 (.bar 14 .fin))))))) (.one 5 (.one 9 (.free 10 (.one 11 (.one 12 (.free 13 (.bar 14 .fin))))))))))))))) (fun w' h => h.sub ((.cons_cons _ (.cons _ (.cons_cons _ (.cons_cons _ (.cons_cons _ (.cons_cons _ .slnil)))))))) mixed (by kernel_rfl) ?_
                      have hs_28 := hs_27.drew
                      have hS_5 : Sat w [_, _, _, _, _, _] _ := hs_28.sub ((.cons_cons _ (.cons_cons _ (.cons_cons _ (.cons _ (.cons_cons _ (.cons_cons _ (.cons_cons _ .slnil))))))))
                      refine .e rfl (fun w' hS' => .fieldAddr fld27_3 rfl rfl) hS_5 <| .e rfl (fun w' hS' => .load scal24 rfl (hS'.cell (i := 1) (j := 3) rfl rfl)) hS_5 <| .m rfl rfl hS_5 <| .e rfl (fun w' hS' => .idxL (j := 1) (E := encTx) sl61 rfl rfl (hS'.rdL 5 rfl) (by omega)) hS_5 <| .e rfl (fun w' hS' => .ldL (E := encTx) scal9 rfl (hS'.rdL 5 rfl) hy (by decide) rfl) hS_5 <| .m rfl rfl hS_5 <| .e rfl (fun w' hS' => .sliceL (E := encTx) (a := 2) (c := (cutB 32 x).length) sl61 rfl (hS'.rdL 5 rfl) ⟨_, rfl⟩ rfl (by omega) (by omega)) hS_5 <| .two rfl rfl rfl rfl rfl rfl (OpE.call ent38 rfl ((numR_n y _).mono fun r_5 w_18 h_5 => ?_)) (OpE.lit0 (encTx) sl61 hs_28 fun v_3 w_19 hs_29 hch_9 => ?_)
                      · obtain ⟨rfl, hp_5⟩ := h_5
                        have hs_30 := hs_28.adds hp_5
                        have hS_6 : Sat w [_, _, _, _, _, _] _ := hs_30.sub ((.cons_cons _ (.cons_cons _ (.cons_cons _ (.cons _ (.cons_cons _ (.cons_cons _ (.cons_cons _ .slnil))))))))
                        refine ⟨hS_6, ?_⟩
                        refine .f rfl (.lit0 (encTx) sl61 hs_30 fun v_4 w_20 hs_31 hch_10 => ?_)
                        have hS_7 : Sat w [_, _, _, _, _, _] _ := hs_31.sub ((.cons_cons _ (.cons_cons _ (.cons_cons _ (.cons _ (.cons_cons _ (.cons_cons _ (.cons_cons _ (.cons _ .slnil)))))))))
                        refine ⟨hS_7, ?_⟩
                        refine .f rfl (.appendL 7 sl61 hs_31 rfl rfl rfl Tryz.underlying61 (((hs_31.rdL 6 rfl)).sub (a := 2) (b := (cutB 32 x).length) (by omega) (by omega)) (by simp; omega) (by simp; omega) fun v_5 w_21 hs_32 hch_11 => ?_)
                        obtain ⟨sv_1, hsv_1, hsv_1n⟩ := (hs_32.rdL 7 rfl).sv
                        subst hsv_1
                        have hS_8 : Sat w [_, _, _, _, _, _] _ := hs_32.sub ((.cons_cons _ (.cons_cons _ (.cons_cons _ (.cons _ (.cons_cons _ (.cons_cons _ (.cons_cons _ (.cons _ .slnil)))))))))
                        refine ⟨hS_8, ?_⟩
                        refine .e rfl (fun w' hS' => .build bt72 rfl ⟨rfl, rfl, trivial⟩ rfl) hS_8 <| .f rfl (.lit1A (encPc) (⟨(((numR y) : Nat) : Int), sv_1, ((cutB 32 x).take ((cutB 32 x).length)).drop 2⟩) sl24 (by decide) (by decide) hs_32 rfl fun v_6 w_22 hs_33 hch_12 => ?_)
                        have hS_9 : Sat w [_, _, _, _, _, _] _ := hs_33.sub ((.cons_cons _ (.cons_cons _ (.cons_cons _ (.cons _ (.cons_cons _ (.cons_cons _ (.cons_cons _ (.cons _ (.cons _ .slnil))))))))))
                        refine ⟨hS_9, ?_⟩
                        refine .f rfl (.appendL 3 sl24 hs_33 rfl rfl rfl Tryz.underlying24 (hs_33.rdL 8 rfl) (by simp only [List.length_cons, List.length_nil]; omega) (by simp only [List.length_cons, List.length_nil]; omega) fun v_7 w_23 hs_34 hch_13 => ?_)
                        have hs_34d : Sat w [_, _, _, cL v_7 72 (encPc) (q ++ [⟨(((numR y) : Nat) : Int), sv_1, ((cutB 32 x).take ((cutB 32 x).length)).drop 2⟩]), _, _, _, cL sv_1.val 9 (encTx) (((cutB 32 x).take ((cutB 32 x).length)).drop 2)] _ := hs_34.drop 8
                        have hS_10 : Sat w [_, _, _, _, _, _] _ := hs_34d.sub ((.cons_cons _ (.cons_cons _ (.cons_cons _ (.cons _ (.cons_cons _ (.cons_cons _ (.cons_cons _ (.cons _ .slnil)))))))))
                        refine ⟨hS_10, ?_⟩
                        refine .e rfl (fun w' hS' => .fieldAddr fld27_3 rfl rfl) hS_10 <| .bar rfl rfl rfl (OpE.storeObj one24 hs_34d (i := 1) rfl rfl rfl ((hs_34d.rdL 3 rfl).oneCell) rfl fun w_24 hs_35 hch_14 => ?_)
                        have hS_11 : Sat w [_, _, _, _, _] _ := hs_35.sub ((.cons_cons _ (.cons _ (.cons_cons _ (.cons _ (.cons_cons _ (.cons_cons _ (.cons_cons _ (.cons _ .slnil)))))))))
                        refine ⟨hS_11, ?_⟩
                        refine .fin ?_
                        have hs_36 : Sat w [_, cObj b_2 27 [av, (.int .i64 (n)), (.int .i64 (j)), v_7, (.slice none 0 0)], _, cL v_7 72 (encPc) (q ++ [⟨(((numR y) : Nat) : Int), sv_1, ((cutB 32 x).take ((cutB 32 x).length)).drop 2⟩]), _, _, cL sv_1.val 9 (encTx) (((cutB 32 x).take ((cutB 32 x).length)).drop 2)] w_24 := hs_35.sub ((.cons_cons _ (.cons_cons _ (.cons_cons _ (.cons_cons _ (.cons_cons _ (.cons_cons _ (.cons _ (.cons_cons _ .slnil)))))))))
                        have hs_37 : Sat w [_, _, _, _, _, _, cL sv_1.val 9 (encTx) ((cutB 32 x).drop 2)] w_24 := hs_36.reL 6 rfl (show ((cutB 32 x).take ((cutB 32 x).length)).drop 2 = (cutB 32 x).drop 2 from by simp only [List.nil_append, List.take_length])
                        have hs_38 : Sat w [_, _, _, cL v_7 72 (encPc) (q ++ [⟨(((numR y) : Nat) : Int), sv_1, (cutB 32 x).drop 2⟩]), _, _, _] w_24 := hs_37.reL 3 rfl (show q ++ [⟨(((numR y) : Nat) : Int), sv_1, ((cutB 32 x).take ((cutB 32 x).length)).drop 2⟩] = q ++ [⟨(((numR y) : Nat) : Int), sv_1, (cutB 32 x).drop 2⟩] from by rw [List.take_length])
                        have hs_39 : Sat w [cObj b_1 27 [(.slice none 0 0), (.int .i64 (0 : Nat)), (.int .i64 (0 : Nat)), (.slice none 0 0), (.slice none 0 0)], cObj b_2 27 [av, (.int .i64 (n)), (.int .i64 (j)), v_7, (.slice none 0 0)], cL av 70 (encAt) (a), cL v_7 72 (encPc) (q ++ [⟨(((numR y) : Nat) : Int), sv_1, (cutB 32 x).drop 2⟩]), cPcs 9 (q ++ [⟨(((numR y) : Nat) : Int), sv_1, (cutB 32 x).drop 2⟩]), cL r_1 9 (encTx) (cutB 10 (s.extract 0 (s.size - 4)))] w_24 := Sat.pushPcs (A := [cObj b_1 27 [(.slice none 0 0), (.int .i64 (0 : Nat)), (.int .i64 (0 : Nat)), (.slice none 0 0), (.slice none 0 0)], cObj b_2 27 [av, (.int .i64 (n)), (.int .i64 (j)), v_7, (.slice none 0 0)], cL av 70 (encAt) (a), cL v_7 72 (encPc) (q ++ [⟨(((numR y) : Nat) : Int), sv_1, (cutB 32 x).drop 2⟩]), cPcs 9 (q), cL r_1 9 (encTx) (cutB 10 (s.extract 0 (s.size - 4)))]) hs_38 4 rfl
                        refine .region <| .e rfl (.addI (b := 1) rfl rfl (by omega)) <| .m rfl rfl <| .nil ?_
                        exact ⟨(k + 1, av, a, n, j, v_7, q ++ [⟨(((numR y) : Nat) : Int), sv_1, (cutB 32 x).drop 2⟩]), ⟨rfl, rfl, rfl, rfl, rfl, rfl, rfl, trivial⟩, ⟨hs_39, by omega, by omega, by rw [List.length_append, List.length_singleton]; omega, fun p hp => by rcases List.mem_append.1 hp with hp | hp; exact hqd p hp; rw [List.mem_singleton.1 hp]; show (List.drop 2 (cutB 32 x)).length ≤ 200000; rw [List.length_drop]; omega, fun al nx jr ps hg => by rw [List.map_append]; exact st_piece (good_cls hg ((good_body hg).2) hx) hy0 (hb_piece.1.trans rfl) hy (fun p hp e => numR_int ((good_bd hg).2.2 p hp) e) (hI _ _ _ _ hg)⟩, (show ((cutB 10 (s.extract 0 (s.size - 4))).length - (k + 1)) < ((cutB 10 (s.extract 0 (s.size - 4))).length - k) from by omega)⟩
                      · skip
                        have hS_12 : Sat w [_, _, _, _, _, _] _ := hs_29.sub ((.cons_cons _ (.cons_cons _ (.cons_cons _ (.cons _ (.cons_cons _ (.cons_cons _ (.cons_cons _ (.cons _ .slnil)))))))))
                        refine ⟨hS_12, ?_⟩
                        refine .f rfl (.call ent38 rfl ((numR_n y _).mono fun r_6 w_25 h_6 => ?_))
                        obtain ⟨rfl, hp_6⟩ := h_6
                        have hs_40 := hs_29.adds hp_6
                        have hS_13 : Sat w [_, _, _, _, _, _] _ := hs_40.sub ((.cons_cons _ (.cons_cons _ (.cons_cons _ (.cons _ (.cons_cons _ (.cons_cons _ (.cons_cons _ (.cons _ .slnil)))))))))
                        refine ⟨hS_13, ?_⟩
                        refine .f rfl (.appendL 7 sl61 hs_40 rfl rfl rfl Tryz.underlying61 (((hs_40.rdL 6 rfl)).sub (a := 2) (b := (cutB 32 x).length) (by omega) (by omega)) (by simp; omega) (by simp; omega) fun v_8 w_26 hs_41 hch_15 => ?_)
                        obtain ⟨sv_2, hsv_2, hsv_2n⟩ := (hs_41.rdL 7 rfl).sv
                        subst hsv_2
                        have hS_14 : Sat w [_, _, _, _, _, _] _ := hs_41.sub ((.cons_cons _ (.cons_cons _ (.cons_cons _ (.cons _ (.cons_cons _ (.cons_cons _ (.cons_cons _ (.cons _ .slnil)))))))))
                        refine ⟨hS_14, ?_⟩
                        refine .e rfl (fun w' hS' => .build bt72 rfl ⟨rfl, rfl, trivial⟩ rfl) hS_14 <| .f rfl (.lit1A (encPc) (⟨(((numR y) : Nat) : Int), sv_2, ((cutB 32 x).take ((cutB 32 x).length)).drop 2⟩) sl24 (by decide) (by decide) hs_41 rfl fun v_9 w_27 hs_42 hch_16 => ?_)
                        have hS_15 : Sat w [_, _, _, _, _, _] _ := hs_42.sub ((.cons_cons _ (.cons_cons _ (.cons_cons _ (.cons _ (.cons_cons _ (.cons_cons _ (.cons_cons _ (.cons _ (.cons _ .slnil))))))))))
                        refine ⟨hS_15, ?_⟩
                        refine .f rfl (.appendL 3 sl24 hs_42 rfl rfl rfl Tryz.underlying24 (hs_42.rdL 8 rfl) (by simp only [List.length_cons, List.length_nil]; omega) (by simp only [List.length_cons, List.length_nil]; omega) fun v_10 w_28 hs_43 hch_17 => ?_)
                        have hs_43d : Sat w [_, _, _, cL v_10 72 (encPc) (q ++ [⟨(((numR y) : Nat) : Int), sv_2, ((cutB 32 x).take ((cutB 32 x).length)).drop 2⟩]), _, _, _, cL sv_2.val 9 (encTx) (((cutB 32 x).take ((cutB 32 x).length)).drop 2)] _ := hs_43.drop 8
                        have hS_16 : Sat w [_, _, _, _, _, _] _ := hs_43d.sub ((.cons_cons _ (.cons_cons _ (.cons_cons _ (.cons _ (.cons_cons _ (.cons_cons _ (.cons_cons _ (.cons _ .slnil)))))))))
                        refine ⟨hS_16, ?_⟩
                        refine .e rfl (fun w' hS' => .fieldAddr fld27_3 rfl rfl) hS_16 <| .bar rfl rfl rfl (OpE.storeObj one24 hs_43d (i := 1) rfl rfl rfl ((hs_43d.rdL 3 rfl).oneCell) rfl fun w_29 hs_44 hch_18 => ?_)
                        have hS_17 : Sat w [_, _, _, _, _] _ := hs_44.sub ((.cons_cons _ (.cons _ (.cons_cons _ (.cons _ (.cons_cons _ (.cons_cons _ (.cons_cons _ (.cons _ .slnil)))))))))
                        refine ⟨hS_17, ?_⟩
                        refine .fin ?_
                        have hs_45 : Sat w [_, cObj b_2 27 [av, (.int .i64 (n)), (.int .i64 (j)), v_10, (.slice none 0 0)], _, cL v_10 72 (encPc) (q ++ [⟨(((numR y) : Nat) : Int), sv_2, ((cutB 32 x).take ((cutB 32 x).length)).drop 2⟩]), _, _, cL sv_2.val 9 (encTx) (((cutB 32 x).take ((cutB 32 x).length)).drop 2)] w_29 := hs_44.sub ((.cons_cons _ (.cons_cons _ (.cons_cons _ (.cons_cons _ (.cons_cons _ (.cons_cons _ (.cons _ (.cons_cons _ .slnil)))))))))
                        have hs_46 : Sat w [_, _, _, _, _, _, cL sv_2.val 9 (encTx) ((cutB 32 x).drop 2)] w_29 := hs_45.reL 6 rfl (show ((cutB 32 x).take ((cutB 32 x).length)).drop 2 = (cutB 32 x).drop 2 from by simp only [List.nil_append, List.take_length])
                        have hs_47 : Sat w [_, _, _, cL v_10 72 (encPc) (q ++ [⟨(((numR y) : Nat) : Int), sv_2, (cutB 32 x).drop 2⟩]), _, _, _] w_29 := hs_46.reL 3 rfl (show q ++ [⟨(((numR y) : Nat) : Int), sv_2, ((cutB 32 x).take ((cutB 32 x).length)).drop 2⟩] = q ++ [⟨(((numR y) : Nat) : Int), sv_2, (cutB 32 x).drop 2⟩] from by rw [List.take_length])
                        have hs_48 : Sat w [cObj b_1 27 [(.slice none 0 0), (.int .i64 (0 : Nat)), (.int .i64 (0 : Nat)), (.slice none 0 0), (.slice none 0 0)], cObj b_2 27 [av, (.int .i64 (n)), (.int .i64 (j)), v_10, (.slice none 0 0)], cL av 70 (encAt) (a), cL v_10 72 (encPc) (q ++ [⟨(((numR y) : Nat) : Int), sv_2, (cutB 32 x).drop 2⟩]), cPcs 9 (q ++ [⟨(((numR y) : Nat) : Int), sv_2, (cutB 32 x).drop 2⟩]), cL r_1 9 (encTx) (cutB 10 (s.extract 0 (s.size - 4)))] w_29 := Sat.pushPcs (A := [cObj b_1 27 [(.slice none 0 0), (.int .i64 (0 : Nat)), (.int .i64 (0 : Nat)), (.slice none 0 0), (.slice none 0 0)], cObj b_2 27 [av, (.int .i64 (n)), (.int .i64 (j)), v_10, (.slice none 0 0)], cL av 70 (encAt) (a), cL v_10 72 (encPc) (q ++ [⟨(((numR y) : Nat) : Int), sv_2, (cutB 32 x).drop 2⟩]), cPcs 9 (q), cL r_1 9 (encTx) (cutB 10 (s.extract 0 (s.size - 4)))]) hs_47 4 rfl
                        refine .region <| .e rfl (.addI (b := 1) rfl rfl (by omega)) <| .m rfl rfl <| .nil ?_
                        exact ⟨(k + 1, av, a, n, j, v_10, q ++ [⟨(((numR y) : Nat) : Int), sv_2, (cutB 32 x).drop 2⟩]), ⟨rfl, rfl, rfl, rfl, rfl, rfl, rfl, trivial⟩, ⟨hs_48, by omega, by omega, by rw [List.length_append, List.length_singleton]; omega, fun p hp => by rcases List.mem_append.1 hp with hp | hp; exact hqd p hp; rw [List.mem_singleton.1 hp]; show (List.drop 2 (cutB 32 x)).length ≤ 200000; rw [List.length_drop]; omega, fun al nx jr ps hg => by rw [List.map_append]; exact st_piece (good_cls hg ((good_body hg).2) hx) hy0 (hb_piece.1.trans rfl) hy (fun p hp e => numR_int ((good_bd hg).2.2 p hp) e) (hI _ _ _ _ hg)⟩, (show ((cutB 10 (s.extract 0 (s.size - 4))).length - (k + 1)) < ((cutB 10 (s.extract 0 (s.size - 4))).length - k) from by omega)⟩
                    · refine .skip ?_
                      have hn_piece := hc_6
                      refine .region <| .e rfl (.addI (b := 1) rfl rfl (by omega)) <| .m rfl rfl <| .nil ?_
                      have hs_49 : Sat w [_, _, _, _, _, _] w_17 := hs_27.sub ((.cons_cons _ (.cons_cons _ (.cons_cons _ (.cons_cons _ (.cons_cons _ (.cons_cons _ (.cons _ .slnil))))))))
                      exact ⟨(k + 1, av, a, n, j, pv, q), ⟨rfl, rfl, rfl, rfl, rfl, rfl, rfl, trivial⟩, ⟨hs_49, by omega, by omega, by omega, hqd, fun al nx jr ps hg => st_none (good_cls hg ((good_body hg).2) hx) hy0 hn_next hn_jour hn_attr hn_piece (hI _ _ _ _ hg)⟩, (show ((cutB 10 (s.extract 0 (s.size - 4))).length - (k + 1)) < ((cutB 10 (s.extract 0 (s.size - 4))).length - k) from by omega)⟩
    · refine .exit0 <| .seq <| .seq ?_
      have hend : ∀ al nx jr ps, goodM s al nx jr ps → al = a ∧ nx = n ∧ jr = j ∧ ps = q.map pcV := fun al nx jr ps hg => good_end hg ((good_body hg).2) (by omega) (hI _ _ _ _ hg)
      refine .region <| .e rfl (.ldObj agg27 rfl hs_11 (i := 1) rfl rfl) <| .f rfl (.call ent8 rfl ((rmanifest_o av pv (Value.slice none 0 0) (a) (n) (j) (q) _ (hs_11.rdL 2 rfl) (by omega) (hs_11.rdL 3 rfl) (by omega) (hs_11.rdPcs 4 rfl) (fun p hp => by have := hqd p hp; omega) rfl).mono fun r_7 w_30 h_7 => ?_))
      obtain ⟨rfl, hp_7⟩ := h_7
      have hs_50 := hs_11.adds hp_7
      refine .m rfl rfl <| .e rfl (.extract rfl rfl) <| .e rfl (.extract rfl rfl) <| .s rfl rfl <| .s rfl rfl <| .nil <| .seq <| .mid (fun L' w' => Weak [(0, (.string s)), (2, (.pointer (some ⟨b_1, 0, none⟩))), (3, (.int .i64 (0 : Nat))), (4, (.pointer (some ⟨b_2, 0, none⟩))), (8, (.string (manO (a) (n) (j) (q)))), (9, (.int .i64 ((manE (a) (n) (j) (q)) : Nat))), (19, r_1), (20, (.int .i64 ((cutB 10 (s.extract 0 (s.size - 4))).length : Nat))), (21, (.int .i64 k)), (22, (.bool (decide (k < (cutB 10 (s.extract 0 (s.size - 4))).length)))), (116, (.bool (decide (((manE (a) (n) (j) (q)) ≠ 0) ∨ ((manO (a) (n) (j) (q)) ≠ s)))))] L' ∧ Sat w [cObj b_1 27 [(.slice none 0 0), (.int .i64 (0 : Nat)), (.int .i64 (0 : Nat)), (.slice none 0 0), (.slice none 0 0)], cObj b_2 27 [av, (.int .i64 (n)), (.int .i64 (j)), pv, (.slice none 0 0)], cL av 70 (encAt) (a), cL pv 72 (encPc) (q), cPcs 9 (q), cL r_1 9 (encTx) (cutB 10 (s.extract 0 (s.size - 4)))] w') ?_ ?_
      · refine .region <| .m rfl rfl <| .e rfl (.neqN (b := 0) rfl rfl) <| .m rfl rfl ?_
        by_cases hg_5 : (manE (a) (n) (j) (q)) ≠ 0
        · refine .no rfl rfl rfl (decide_eq_true hg_5) rfl <| .no rfl rfl rfl (decide_eq_true hg_5) rfl <| .no rfl rfl rfl (decide_eq_true hg_5) rfl <| .e rfl (.pickY rfl (decide_eq_true hg_5) rfl) <| .nil ?_
          exact ⟨⟨rfl, rfl, rfl, rfl, rfl, rfl, rfl, rfl, rfl, rfl, congrArg some (congrArg Value.bool (by simp [hg_5])), trivial⟩, hs_50⟩
        · refine .yes rfl rfl rfl (decide_eq_false hg_5) <| .m rfl rfl <| .yes rfl rfl rfl (decide_eq_false hg_5) <| .m rfl rfl <| .yes rfl rfl rfl (decide_eq_false hg_5) <| .e rfl (.strNeq rfl rfl) <| .e rfl (.pickN rfl (decide_eq_false hg_5) rfl) <| .nil ?_
          exact ⟨⟨rfl, rfl, rfl, rfl, rfl, rfl, rfl, rfl, rfl, rfl, congrArg some (congrArg Value.bool (by simp [hg_5])), trivial⟩, hs_50⟩
      · rintro L' w_31 ⟨hw_5, hs_51⟩
        refine .weaken _ hw_5 <| .condD rfl (fun hc_7 => ?_) (fun hc_7 => ?_)
        · refine .seq <| .region <| .e rfl (.build bt27 rfl trivial rfl) <| .f rfl (.storeObjA (vs := [(.slice none 0 0), (.int .i64 (0 : Nat)), (.int .i64 (0 : Nat)), (.slice none 0 0), (.slice none 0 0)]) agg27 hs_51 (i := 0) rfl rfl rfl rfl (fun v h => by simp only [List.mem_cons, List.not_mem_nil, or_false] at h; rcases h with rfl | rfl | rfl | rfl | rfl; exact rfl; exact rfl; exact rfl; exact rfl; exact rfl) fun w_32 hs_52 hch_19 => ?_)
          refine .s rfl rfl <| .nil <| .ret ?_
          show PostK _ _ _ _ _ _
          refine post2c (vs := [(.slice none 0 0), (.int .i64 (0 : Nat)), (.int .i64 (0 : Nat)), (.slice none 0 0), (.slice none 0 0)]) rfl rfl rfl agg27 (fun j u hu => hs_52.cell (i := 0) rfl hu) ?_
          have hs_53 : Sat w [] w_32 := hs_52.sub ((.cons _ (.cons _ (.cons _ (.cons _ (.cons _ (.cons _ .slnil)))))))
          exact .inr ⟨bad_of hend hc_7, rfl, hs_53⟩
        · refine .skip <| .seq <| .region <| .e rfl (.ldObj agg27 rfl hs_51 (i := 1) rfl rfl) <| .f rfl (.storeObjA (vs := [av, (.int .i64 (n)), (.int .i64 (j)), pv, (.slice none 0 0)]) agg27 hs_51 (i := 0) rfl rfl rfl rfl (fun v h => by simp only [List.mem_cons, List.not_mem_nil, or_false] at h; rcases h with rfl | rfl | rfl | rfl | rfl; exact (hs_51.rdL 2 rfl).oneCell; exact rfl; exact rfl; exact (hs_51.rdL 3 rfl).oneCell; exact rfl) fun w_33 hs_54 hch_20 => ?_)
          refine .s rfl rfl <| .nil <| .ret ?_
          show PostK _ _ _ _ _ _
          refine post2c (vs := [av, (.int .i64 (n)), (.int .i64 (j)), pv, (.slice none 0 0)]) rfl rfl rfl agg27 (fun j u hu => hs_54.cell (i := 0) rfl hu) ?_
          have hs_55 : Sat w [_, _, _] w_33 := hs_54.sub ((.cons _ (.cons _ (.cons_cons _ (.cons_cons _ (.cons_cons _ (.cons _ .slnil)))))))
          exact .inl ⟨_, _, _, _, _, _, good_of hc_7, hend, by omega, by omega, fun p hp => by have := hqd p hp; omega, rfl, hs_55⟩
end Go.Proofs.YtecfgjdpghddgaaGreatDoor
namespace Go.Proofs.YtecfgjdpghddgaaGreatDoor
open Go.RowKit Go.Kw
set_option maxRecDepth 100000
theorem number_n (s : ByteArray) (w : World) (hn : s.size ≤ 1000000) (hgv : GV Tryz.prog 0 w) :
    CallsV Tryz.prog 31 [(.string s)] w fun r w' => r = .int .i64 (numP s) ∧ Sat w [] w' := by
  have hs0 := Sat.start w
  refine callsV_of Tryz.func31 rfl rfl ?_
  refine .seq <| .region <| .s rfl rfl <| .nil <| .seq <| .region <| .m rfl rfl <| .f rfl (.call ent61 rfl ((atoi_n s _ hn (hgv.sat hs0)).mono fun r_1 w_1 h_1 => ?_))
  obtain ⟨ua, rfl, hp_1⟩ := h_1
  have hs_1 := hs0.adds hp_1
  refine .m rfl rfl <| .e rfl (.extract rfl rfl) <| .e rfl (.extract rfl rfl) <| .s rfl rfl <| .s rfl rfl <| .nil <| .seq <| .region <| .m rfl rfl <| .s rfl rfl <| .nil <| .ret ?_
  show PostK _ _ _ _ _ _
  refine post1 rfl rfl ?_
  exact ⟨rfl, hs_1⟩
theorem parse_no (s : ByteArray) (w : World) (hn : s.size ≤ 100000) (hgv : GV Tryz.prog 0 w) (hno : ¬ ∃ p, strB s = sealN p) :
    CallsV Tryz.prog 9 [(.string s)] w fun r w' => (∃ (av pv : Value) (a : List (ByteArray × Bool)) (n j : Int) (q : List Pc), goodM s a n j (q.map pcV) ∧ (∀ al nx jr ps, goodM s al nx jr ps → al = a ∧ nx = n ∧ jr = j ∧ ps = q.map pcV) ∧ q.length ≤ 200000 ∧ a.length ≤ 200000 ∧ (∀ p ∈ q, p.ns.length ≤ 200000) ∧ r = .tuple #[.agg #[av, .int .i64 n, .int .i64 j, pv, .slice none 0 0], .int .i64 ((0 : Nat) : Int)] ∧ Sat w [cL av 70 encAt a, cL pv 72 encPc q, cPcs 9 q] w')
  ∨ ((∀ al nx jr ps, ¬ goodM s al nx jr ps) ∧ r = .tuple #[.agg #[.slice none 0 0, .int .i64 ((0 : Nat) : Int), .int .i64 ((0 : Nat) : Int), .slice none 0 0, .slice none 0 0], .int .i64 ((9 : Nat) : Int)] ∧ Sat w [] w') := by
  have hs0 := Sat.start w
  refine callsV_of Tryz.func9 rfl rfl ?_
  refine .seq <| .region <| .f rfl (.alloc hs0 zero27 fun b_1 w_1 hs_1 hch_1 hb_1 => ?_)
  refine .s rfl rfl <| .nil <| .seq <| .region <| .m rfl rfl <| .f rfl (.toBytes Tryz.underlying9 Tryz.underlying43 Tryz.underlying5 hs_1 rfl (by omega) fun v_1 w_2 hs_2 => ?_)
  refine .f rfl (.call ent29 rfl ((unseal_no (hs_2.rdRo 1 rfl) (strB_lt s) (by rw [strB_length]; omega) hno).mono fun r_1 w_3 h_1 => ?_))
  obtain ⟨ue_1, hue_1, rfl, hp_1⟩ := h_1
  have hs_3 : Sat w [_, _] _ := hs_2.adds hp_1
  refine .m rfl rfl <| .e rfl (.extract rfl rfl) <| .e rfl (.extract rfl rfl) <| .s rfl rfl <| .s rfl rfl <| .nil <| .seq <| .seq <| .region <| .m rfl rfl <| .e rfl (.neq rfl rfl) <| .nil <| .condT rfl (decide_eq_true hue_1) <| .seq <| .region <| .e rfl (.build bt27 rfl trivial rfl) <| .f rfl (.storeObjA (vs := [(.slice none 0 0), (.int .i64 (0 : Nat)), (.int .i64 (0 : Nat)), (.slice none 0 0), (.slice none 0 0)]) agg27 hs_3 (i := 0) rfl rfl rfl rfl (fun v h => by simp only [List.mem_cons, List.not_mem_nil, or_false] at h; rcases h with rfl | rfl | rfl | rfl | rfl; exact rfl; exact rfl; exact rfl; exact rfl; exact rfl) fun w_4 hs_4 hch_2 => ?_)
  refine .s rfl rfl <| .nil <| .ret ?_
  show PostK _ _ _ _ _ _
  refine post2c (vs := [(.slice none 0 0), (.int .i64 (0 : Nat)), (.int .i64 (0 : Nat)), (.slice none 0 0), (.slice none 0 0)]) rfl rfl rfl agg27 (fun j u hu => hs_4.cell (i := 0) rfl hu) ?_
  have hs_5 : Sat w [] w_4 := hs_4.sub ((.cons _ (.cons _ .slnil)))
  exact .inr ⟨fun al nx jr ps hg => hno ⟨_, good_seal hg⟩, rfl, hs_5⟩
set_option maxHeartbeats 2000000 in
theorem parse_yes (s : ByteArray) (w : World) (hn : s.size ≤ 100000) (hgv : GV Tryz.prog 0 w) (p : List Nat) (hp : strB s = sealN p) :
    CallsV Tryz.prog 9 [(.string s)] w fun r w' => (∃ (av pv : Value) (a : List (ByteArray × Bool)) (n j : Int) (q : List Pc), goodM s a n j (q.map pcV) ∧ (∀ al nx jr ps, goodM s al nx jr ps → al = a ∧ nx = n ∧ jr = j ∧ ps = q.map pcV) ∧ q.length ≤ 200000 ∧ a.length ≤ 200000 ∧ (∀ p ∈ q, p.ns.length ≤ 200000) ∧ r = .tuple #[.agg #[av, .int .i64 n, .int .i64 j, pv, .slice none 0 0], .int .i64 ((0 : Nat) : Int)] ∧ Sat w [cL av 70 encAt a, cL pv 72 encPc q, cPcs 9 q] w')
  ∨ ((∀ al nx jr ps, ¬ goodM s al nx jr ps) ∧ r = .tuple #[.agg #[.slice none 0 0, .int .i64 ((0 : Nat) : Int), .int .i64 ((0 : Nat) : Int), .slice none 0 0, .slice none 0 0], .int .i64 ((9 : Nat) : Int)] ∧ Sat w [] w') := by
  have hs0 := Sat.start w
  have hpn : p.length + 4 = s.size := by have h9 := congrArg List.length hp; rw [strB_length, sealN_length] at h9; omega
  have hpl : ∀ x ∈ p, x < 256 := fun x hx => strB_lt s x (by rw [hp]; exact List.mem_append_left _ hx)
  refine callsV_of Tryz.func9 rfl rfl ?_
  refine .seq <| .region <| .f rfl (.alloc hs0 zero27 fun b_1 w_1 hs_1 hch_1 hb_1 => ?_)
  refine .s rfl rfl <| .nil <| .seq <| .region <| .m rfl rfl <| .f rfl (.toBytes Tryz.underlying9 Tryz.underlying43 Tryz.underlying5 hs_1 rfl (by omega) fun v_1 w_2 hs_2 => ?_)
  refine .f rfl (.call ent29 rfl ((unseal_p _ _ p _ (hs_2.rdRo 1 rfl) hp hpl (by omega)).mono fun r_1 w_3 h_1 => ?_))
  obtain ⟨uv_1, rfl, hp_1⟩ := h_1
  have hs_3 : Sat w [_, _, cL uv_1 5 (encN .u8) (p)] _ := hs_2.adds hp_1
  refine .m rfl rfl <| .e rfl (.extract rfl rfl) <| .e rfl (.extract rfl rfl) <| .s rfl rfl <| .s rfl rfl <| .nil <| .seq <| .seq <| .region <| .m rfl rfl <| .e rfl (.neqN (a := 0) (b := 0) rfl rfl) <| .nil <| .condF rfl (decide_eq_false (by simp)) <| .skip <| .seq <| .region <| .f rfl (.alloc hs_3 zero27 fun b_2 w_4 hs_4 hch_2 hb_2 => ?_)
  refine .nil <| .seq <| .seq <| .region <| .m rfl rfl <| .e rfl (.bytesStr Tryz.underlying43 Tryz.underlying9 Tryz.underlying5 rfl (hs_4.rdL 2 rfl)) <| .f rfl (.call ent30 rfl ((gsplit_n (strOf (p)) 10 _ (by rw [strOf_size]; omega) (hgv.sat hs_4)).mono fun r_2 w_5 h_2 => ?_))
  have hp_2 := h_2
  have hs_5 := hs_4.adds hp_2
  refine .e rfl (.lenL Tryz.underlying61 rfl (hs_5.rdL 4 rfl)) <| .m rfl rfl <| .nil <| .block ?_
  have hs_6 : Sat w [_, _, _] w_5 := hs_5.sub ((.cons_cons _ (.cons _ (.cons _ (.cons_cons _ (.cons_cons _ .slnil))))))
  have hs_7 : Sat w [_, _, _, cL (Value.slice none 0 0) 70 (encAt) ([])] _ := hs_6.newNilL 70 encAt
  have hs_8 : Sat w [_, _, _, _, cL (Value.slice none 0 0) 72 (encPc) ([])] _ := hs_7.newNilL 72 encPc
  have hs_9 : Sat w [cObj b_1 27 [(.slice none 0 0), (.int .i64 (0 : Nat)), (.int .i64 (0 : Nat)), (.slice none 0 0), (.slice none 0 0)], cObj b_2 27 [(.slice none 0 0), (.int .i64 (0 : Nat)), (.int .i64 (0 : Nat)), (.slice none 0 0), (.slice none 0 0)], cL r_2 9 (encTx) (cutB 10 (strOf (p))), cL (Value.slice none 0 0) 70 (encAt) ([]), cL (Value.slice none 0 0) 72 (encPc) ([]), cPcs 9 ([])] _ := hs_8.newPcs 9
  have hs_10 : Sat w [cObj b_1 27 [(.slice none 0 0), (.int .i64 (0 : Nat)), (.int .i64 (0 : Nat)), (.slice none 0 0), (.slice none 0 0)], cObj b_2 27 [(.slice none 0 0), (.int .i64 (0 : Nat)), (.int .i64 (0 : Nat)), (.slice none 0 0), (.slice none 0 0)], cL (Value.slice none 0 0) 70 (encAt) ([]), cL (Value.slice none 0 0) 72 (encPc) ([]), cPcs 9 ([]), cL r_2 9 (encTx) (cutB 10 (strOf (p)))] w_5 := ((Sat.order [0, 1, 3, 4, 5, 2] (by decide) hs_9.tail).untail).sub ((.cons_cons _ (.cons_cons _ (.cons_cons _ (.cons_cons _ (.cons_cons _ (.cons_cons _ .slnil)))))))
  have hLl := cutB_length_le 10 (strOf p); rw [strOf_size] at hLl
  refine .loop (α := Nat × Value × List (ByteArray × Bool) × Int × Int × Value × List Pc) (fun (k, av, a, n, j, pv, q) => [(0, (.string s)), (2, (.pointer (some ⟨b_1, 0, none⟩))), (3, (.int .i64 (0 : Nat))), (6, (.pointer (some ⟨b_2, 0, none⟩))), (23, r_2), (24, (.int .i64 ((cutB 10 (strOf (p))).length : Nat))), (25, (.int .i64 k))]) (fun (k, av, a, n, j, pv, q) w' => Sat w [cObj b_1 27 [(.slice none 0 0), (.int .i64 (0 : Nat)), (.int .i64 (0 : Nat)), (.slice none 0 0), (.slice none 0 0)], cObj b_2 27 [av, (.int .i64 (n)), (.int .i64 (j)), pv, (.slice none 0 0)], cL av 70 (encAt) (a), cL pv 72 (encPc) (q), cPcs 9 (q), cL r_2 9 (encTx) (cutB 10 (strOf (p)))] w' ∧ (k ≤ (cutB 10 (strOf p)).length) ∧ (a.length ≤ k) ∧ (q.length ≤ k) ∧ (∀ p ∈ q, p.ns.length ≤ 200000) ∧ (∀ al nx jr ps, goodM s al nx jr ps → stAt al nx jr ps k a n j (q.map pcV))) (fun (k, av, a, n, j, pv, q) => (cutB 10 (strOf p)).length - k) (0, (.slice none 0 0), [], 0, 0, (.slice none 0 0), []) ⟨rfl, rfl, rfl, rfl, rfl, rfl, rfl, trivial⟩ ⟨hs_10, Nat.zero_le _, Nat.le_refl _, Nat.le_refl _, fun p hp => absurd hp (by simp), fun al nx jr ps hg => stAt_zero⟩ ?_
  rintro ⟨k, av, a, n, j, pv, q⟩ w_6 ⟨hs_11, hk, hal, hql, hqd, hI⟩
  show CW _ _ _ _ [(0, (.string s)), (2, (.pointer (some ⟨b_1, 0, none⟩))), (3, (.int .i64 (0 : Nat))), (6, (.pointer (some ⟨b_2, 0, none⟩))), (23, r_2), (24, (.int .i64 ((cutB 10 (strOf (p))).length : Nat))), (25, (.int .i64 k))] _
  refine .seq <| .region <| .e rfl (.lssN rfl rfl) <| .nil <| .seq <| .condD rfl (fun hc_1 => ?_) (fun hc_1 => ?_)
  · refine .skip <| .seq <| .block <| .seq ?_
    obtain ⟨x, hx⟩ : ∃ x, (cutB 10 (strOf (p)))[k]? = some x := ⟨_, List.getElem?_eq_getElem hc_1⟩
    have hxs : x.size ≤ 100000 := by have h9 := cutB_mem_size (mem_of_get hx); rw [strOf_size] at h9; omega
    have hwl := cutB_length_le 32 x
    have hw0 := cutB_pos 32 x
    obtain ⟨y0, hy0⟩ : ∃ y0, (cutB 32 x)[0]? = some y0 := ⟨_, List.getElem?_eq_getElem (by omega)⟩
    refine .region <| .e rfl (.idxL (E := encTx) sl61 rfl rfl (hs_11.rdL 5 rfl) (by omega)) <| .e rfl (.ldL (E := encTx) scal9 rfl (hs_11.rdL 5 rfl) hx (by decide) rfl) <| .s rfl rfl <| .nil <| .seq <| .region <| .m rfl rfl <| .f rfl (.call ent30 rfl ((gsplit_n x 32 _ (by omega) (hgv.sat hs_11)).mono fun r_3 w_7 h_3 => ?_))
    have hp_3 := h_3
    have hs_12 := hs_11.adds hp_3
    refine .s rfl rfl <| .nil <| .seq <| .seq <| .region <| .m rfl rfl <| .e rfl (.lenL Tryz.underlying61 rfl (hs_12.rdL 6 rfl)) <| .e rfl (.lssN (b := 2) rfl rfl) <| .nil <| .condD rfl (fun hc_2 => ?_) (fun hc_2 => ?_)
    · refine .exit0 <| .region <| .e rfl (.addI (b := 1) rfl rfl (by omega)) <| .m rfl rfl <| .nil ?_
      have hs_13 : Sat w [_, _, _, _, _, _] w_7 := hs_12.sub ((.cons_cons _ (.cons_cons _ (.cons_cons _ (.cons_cons _ (.cons_cons _ (.cons_cons _ (.cons _ .slnil))))))))
      exact ⟨(k + 1, av, a, n, j, pv, q), ⟨rfl, rfl, rfl, rfl, rfl, rfl, rfl, trivial⟩, ⟨hs_13, by omega, by omega, by omega, hqd, fun al nx jr ps hg => st_none (good_cls hg (good_p hp hg) hx) hy0 (fun h9 => absurd h9.2 (by omega)) (fun h9 => absurd h9.2 (by omega)) (fun h9 => absurd h9.2 (by omega)) (fun h9 => absurd h9.2 (by omega)) (hI _ _ _ _ hg)⟩, (show ((cutB 10 (strOf p)).length - (k + 1)) < ((cutB 10 (strOf p)).length - k) from by omega)⟩
    · refine .skip <| .seq ?_
      have hlen2 := hc_2
      refine .region <| .m rfl rfl <| .e rfl (.idxL (j := 0) (E := encTx) sl61 rfl rfl (hs_12.rdL 6 rfl) (by omega)) <| .e rfl (.ldL (E := encTx) scal9 rfl (hs_12.rdL 6 rfl) hy0 (by decide) rfl) <| .nil <| .block <| .seq <| .region <| .e rfl (.strEql rfl rfl) <| .s rfl rfl <| .nil <| .condD rfl (fun hc_3 => ?_) (fun hc_3 => ?_)
      · have hb_next := hc_3
        obtain ⟨y, hy⟩ : ∃ y, (cutB 32 x)[1]? = some y := ⟨_, List.getElem?_eq_getElem (by omega)⟩
        refine .region <| .m rfl rfl <| .e rfl (.idxL (j := 1) (E := encTx) sl61 rfl rfl (hs_12.rdL 6 rfl) (by omega)) <| .e rfl (.ldL (E := encTx) scal9 rfl (hs_12.rdL 6 rfl) hy (by decide) rfl) <| .f rfl (.call ent31 rfl ((number_n y _ (by have h9 := cutB_mem_size (mem_of_get hy); omega) (hgv.sat hs_12)).mono fun r_4 w_8 h_4 => ?_))
        obtain ⟨rfl, hp_4⟩ := h_4
        have hs_14 := hs_12.adds hp_4
        refine .e rfl (.fieldAddr fld27_1 rfl rfl) <| .f rfl (.storeObj one3 hs_14 (i := 1) rfl rfl rfl (rfl) rfl fun w_9 hs_15 hch_3 => ?_)
        refine .nil <| .region <| .e rfl (.addI (b := 1) rfl rfl (by omega)) <| .m rfl rfl <| .nil ?_
        have hs_16 : Sat w [_, _, _, _, _, _] w_9 := hs_15.sub ((.cons_cons _ (.cons_cons _ (.cons_cons _ (.cons_cons _ (.cons_cons _ (.cons_cons _ (.cons _ .slnil))))))))
        exact ⟨(k + 1, av, a, (numP y), j, pv, q), ⟨rfl, rfl, rfl, rfl, rfl, rfl, rfl, trivial⟩, ⟨hs_16, by omega, by omega, by omega, hqd, fun al nx jr ps hg => st_next (good_cls hg (good_p hp hg) hx) hy0 (hb_next.trans rfl) hy (fun e => numP_int (good_bd hg).1 e) (hI _ _ _ _ hg)⟩, (show ((cutB 10 (strOf p)).length - (k + 1)) < ((cutB 10 (strOf p)).length - k) from by omega)⟩
      · refine .seq ?_
        have hn_next := hc_3
        refine .region <| .e rfl (.strEql rfl rfl) <| .s rfl rfl <| .nil <| .condD rfl (fun hc_4 => ?_) (fun hc_4 => ?_)
        · have hb_jour := hc_4
          obtain ⟨y, hy⟩ : ∃ y, (cutB 32 x)[1]? = some y := ⟨_, List.getElem?_eq_getElem (by omega)⟩
          refine .region <| .m rfl rfl <| .e rfl (.idxL (j := 1) (E := encTx) sl61 rfl rfl (hs_12.rdL 6 rfl) (by omega)) <| .e rfl (.ldL (E := encTx) scal9 rfl (hs_12.rdL 6 rfl) hy (by decide) rfl) <| .f rfl (.call ent31 rfl ((number_n y _ (by have h9 := cutB_mem_size (mem_of_get hy); omega) (hgv.sat hs_12)).mono fun r_5 w_10 h_5 => ?_))
          obtain ⟨rfl, hp_5⟩ := h_5
          have hs_17 := hs_12.adds hp_5
          refine .e rfl (.fieldAddr fld27_2 rfl rfl) <| .f rfl (.storeObj one3 hs_17 (i := 1) rfl rfl rfl (rfl) rfl fun w_11 hs_18 hch_4 => ?_)
          refine .nil <| .region <| .e rfl (.addI (b := 1) rfl rfl (by omega)) <| .m rfl rfl <| .nil ?_
          have hs_19 : Sat w [_, _, _, _, _, _] w_11 := hs_18.sub ((.cons_cons _ (.cons_cons _ (.cons_cons _ (.cons_cons _ (.cons_cons _ (.cons_cons _ (.cons _ .slnil))))))))
          exact ⟨(k + 1, av, a, n, (numP y), pv, q), ⟨rfl, rfl, rfl, rfl, rfl, rfl, rfl, trivial⟩, ⟨hs_19, by omega, by omega, by omega, hqd, fun al nx jr ps hg => st_jour (good_cls hg (good_p hp hg) hx) hy0 (hb_jour.trans rfl) hy (fun e => numP_int (good_bd hg).2.1 e) (hI _ _ _ _ hg)⟩, (show ((cutB 10 (strOf p)).length - (k + 1)) < ((cutB 10 (strOf p)).length - k) from by omega)⟩
        · refine .seq ?_
          have hn_jour := hc_4
          refine .region <| .e rfl (.strEql rfl rfl) <| .s rfl rfl <| .nil <| .condD rfl (fun hc_5 => ?_) (fun hc_5 => ?_)
          · have hb_attr := hc_5
            obtain ⟨y, hy⟩ : ∃ y, (cutB 32 x)[1]? = some y := ⟨_, List.getElem?_eq_getElem (by omega)⟩
            obtain ⟨z2, hz2⟩ : ∃ z2, 2 < (cutB 32 x).length → (cutB 32 x)[2]? = some z2 := by rcases Nat.lt_or_ge 2 (cutB 32 x).length with h | h; exact ⟨_, fun _ => List.getElem?_eq_getElem h⟩; exact ⟨ByteArray.empty, fun h9 => absurd h9 (by omega)⟩
            have hshp_1 := (hs_12.rdL (E := encAt) 2 rfl).shp (by decide)
            refine .draw2 (fun w' => Sat w [cObj b_1 27 [(.slice none 0 0), (.int .i64 (0 : Nat)), (.int .i64 (0 : Nat)), (.slice none 0 0), (.slice none 0 0)], cObj b_2 27 [av, (.int .i64 (n)), (.int .i64 (j)), pv, (.slice none 0 0)], cL pv 72 (encPc) (q), cPcs 9 (q), cL r_2 9 (encTx) (cutB 10 (strOf (p))), cL r_3 9 (encTx) (cutB 32 x)] w') (fun w' => Sat w [cObj b_1 27 [(.slice none 0 0), (.int .i64 (0 : Nat)), (.int .i64 (0 : Nat)), (.slice none 0 0), (.slice none 0 0)], cL pv 72 (encPc) (q), cPcs 9 (q), cL r_2 9 (encTx) (cutB 10 (strOf (p))), cL r_3 9 (encTx) (cutB 32 x)] w') 18 (.free 0 (.free 1 (.free 2 (.free 3 (.free 4 (.free 5 (.free 6 (.free 7 (.free 8 (.free 9 (.free 10 (.free 11 (.free 12 (.free 13 (.free 14 (.one 15 (.one 16 (.free 17 (.bar 18 .fin))))))))))))))))))) (fun w' h => h.sub ((.cons_cons _ (.cons _ (.cons_cons _ (.cons_cons _ (.cons_cons _ (.cons_cons _ .slnil)))))))) mixed (by kernel_rfl) ?_
            have hs_20 := hs_12.drew
            have hS_1 : Sat w [_, _, _, _, _, _] _ := hs_20.sub ((.cons_cons _ (.cons_cons _ (.cons _ (.cons_cons _ (.cons_cons _ (.cons_cons _ (.cons_cons _ .slnil))))))))
            refine .e rfl (fun w' hS' => .fieldAddr fld27_0 rfl rfl) hS_1 <| .e rfl (fun w' hS' => .load scal23 rfl (hS'.cell (i := 1) (j := 0) rfl rfl)) hS_1 <| .m rfl rfl hS_1 <| .e rfl (fun w' hS' => .idxL (j := 1) (E := encTx) sl61 rfl rfl (hS'.rdL 5 rfl) (by omega)) hS_1 <| .e rfl (fun w' hS' => .ldL (E := encTx) scal9 rfl (hS'.rdL 5 rfl) hy (by decide) rfl) hS_1 <| .m rfl rfl hS_1 <| .e rfl (fun w' hS' => .lenL Tryz.underlying61 rfl (hS'.rdL 5 rfl)) hS_1 <| .e rfl (fun w' hS' => .gtrN (b := 2) rfl rfl) hS_1 <| .m rfl rfl hS_1 ?_
            by_cases hg_1 : 2 < (cutB 32 x).length
            · refine .evYes rfl rfl rfl rfl (decide_eq_true hg_1) rfl (fun w' hS' => .move rfl) hS_1 <| .evYes rfl rfl rfl rfl (decide_eq_true hg_1) rfl (fun w' hS' => .idxL (j := 2) (E := encTx) sl61 rfl rfl (hS'.rdL 5 rfl) (by omega)) hS_1 <| .evYes rfl rfl rfl rfl (decide_eq_true hg_1) rfl (fun w' hS' => .ldL (E := encTx) scal9 rfl (hS'.rdL 5 rfl) (hz2 (by omega)) (by decide) rfl) hS_1 <| .evYes rfl rfl rfl rfl (decide_eq_true hg_1) rfl (fun w' hS' => .strEql rfl rfl) hS_1 <| .e rfl (fun w' hS' => .pickY rfl (decide_eq_true hg_1) rfl) hS_1 <| .e rfl (fun w' hS' => .build bt70 rfl ⟨rfl, rfl, trivial⟩ rfl) hS_1 <| .f rfl (.lit1A (encAt) (y, decide (z2 = (ByteArray.mk #[49]))) sl23 (by decide) (by decide) hs_20 rfl fun v_2 w_12 hs_21 hch_5 => ?_)
              have hS_2 : Sat w [_, _, _, _, _, _] _ := hs_21.sub ((.cons_cons _ (.cons_cons _ (.cons _ (.cons_cons _ (.cons_cons _ (.cons_cons _ (.cons_cons _ (.cons _ .slnil)))))))))
              refine ⟨hS_2, ?_⟩
              refine .f rfl (.appendL 2 sl23 hs_21 rfl rfl rfl Tryz.underlying23 (hs_21.rdL 7 rfl) (by simp only [List.length_cons, List.length_nil]; omega) (by simp only [List.length_cons, List.length_nil]; omega) fun v_3 w_13 hs_22 hch_6 => ?_)
              have hs_22d : Sat w [_, _, cL v_3 70 (encAt) (a ++ [(y, decide (z2 = (ByteArray.mk #[49])))]), _, _, _, _] _ := hs_22.drop 7
              have hS_3 : Sat w [_, _, _, _, _, _] _ := hs_22d.sub ((.cons_cons _ (.cons_cons _ (.cons _ (.cons_cons _ (.cons_cons _ (.cons_cons _ (.cons_cons _ .slnil))))))))
              refine ⟨hS_3, ?_⟩
              refine .e rfl (fun w' hS' => .fieldAddr fld27_0 rfl rfl) hS_3 <| .bar rfl rfl rfl (OpE.storeObj one23 hs_22d (i := 1) rfl rfl rfl ((hs_22d.rdL 2 rfl).oneCell) rfl fun w_14 hs_23 hch_7 => ?_)
              have hS_4 : Sat w [_, _, _, _, _] _ := hs_23.sub ((.cons_cons _ (.cons _ (.cons _ (.cons_cons _ (.cons_cons _ (.cons_cons _ (.cons_cons _ .slnil))))))))
              refine ⟨hS_4, ?_⟩
              refine .fin <| .weaken [(0, _), (2, _), (3, _), (6, _), (8, _), (9, _), (23, _), (24, _), (25, _), (26, _), (33, _), (36, _), (37, _), (44, _), (51, _)] ⟨rfl, rfl, rfl, rfl, rfl, rfl, rfl, rfl, rfl, rfl, rfl, rfl, rfl, rfl, rfl, trivial⟩ <| .region <| .e rfl (.addI (b := 1) rfl rfl (by omega)) <| .m rfl rfl <| .nil ?_
              have hs_24 : Sat w [_, cObj b_2 27 [v_3, (.int .i64 (n)), (.int .i64 (j)), pv, (.slice none 0 0)], cL v_3 70 (encAt) (a ++ [(y, decide (z2 = (ByteArray.mk #[49])))]), _, _, _] w_14 := hs_23.sub ((.cons_cons _ (.cons_cons _ (.cons_cons _ (.cons_cons _ (.cons_cons _ (.cons_cons _ (.cons _ .slnil))))))))
              exact ⟨(k + 1, v_3, a ++ [(y, decide (z2 = (ByteArray.mk #[49])))], n, j, pv, q), ⟨rfl, rfl, rfl, rfl, rfl, rfl, rfl, trivial⟩, ⟨hs_24, by omega, by rw [List.length_append, List.length_singleton]; omega, by omega, hqd, fun al nx jr ps hg => st_attr (good_cls hg (good_p hp hg) hx) hy0 (hb_attr.trans rfl) hy (fun z hz => (by first | (rw [hz2 (by omega)] at hz; cases hz; rfl) | (have h9 := (List.getElem?_eq_some_iff.1 hz).1; omega))) (hI _ _ _ _ hg)⟩, (show ((cutB 10 (strOf p)).length - (k + 1)) < ((cutB 10 (strOf p)).length - k) from by omega)⟩
            · refine .no rfl rfl rfl rfl (decide_eq_false hg_1) rfl hS_1 <| .no rfl rfl rfl rfl (decide_eq_false hg_1) rfl hS_1 <| .no rfl rfl rfl rfl (decide_eq_false hg_1) rfl hS_1 <| .no rfl rfl rfl rfl (decide_eq_false hg_1) rfl hS_1 <| .e rfl (fun w' hS' => .pickN rfl (decide_eq_false hg_1) rfl) hS_1 <| .e rfl (fun w' hS' => .build bt70 rfl ⟨rfl, rfl, trivial⟩ rfl) hS_1 <| .f rfl (.lit1A (encAt) (y, false) sl23 (by decide) (by decide) hs_20 rfl fun v_4 w_15 hs_25 hch_8 => ?_)
              have hS_5 : Sat w [_, _, _, _, _, _] _ := hs_25.sub ((.cons_cons _ (.cons_cons _ (.cons _ (.cons_cons _ (.cons_cons _ (.cons_cons _ (.cons_cons _ (.cons _ .slnil)))))))))
              refine ⟨hS_5, ?_⟩
              refine .f rfl (.appendL 2 sl23 hs_25 rfl rfl rfl Tryz.underlying23 (hs_25.rdL 7 rfl) (by simp only [List.length_cons, List.length_nil]; omega) (by simp only [List.length_cons, List.length_nil]; omega) fun v_5 w_16 hs_26 hch_9 => ?_)
              have hs_26d : Sat w [_, _, cL v_5 70 (encAt) (a ++ [(y, false)]), _, _, _, _] _ := hs_26.drop 7
              have hS_6 : Sat w [_, _, _, _, _, _] _ := hs_26d.sub ((.cons_cons _ (.cons_cons _ (.cons _ (.cons_cons _ (.cons_cons _ (.cons_cons _ (.cons_cons _ .slnil))))))))
              refine ⟨hS_6, ?_⟩
              refine .e rfl (fun w' hS' => .fieldAddr fld27_0 rfl rfl) hS_6 <| .bar rfl rfl rfl (OpE.storeObj one23 hs_26d (i := 1) rfl rfl rfl ((hs_26d.rdL 2 rfl).oneCell) rfl fun w_17 hs_27 hch_10 => ?_)
              have hS_7 : Sat w [_, _, _, _, _] _ := hs_27.sub ((.cons_cons _ (.cons _ (.cons _ (.cons_cons _ (.cons_cons _ (.cons_cons _ (.cons_cons _ .slnil))))))))
              refine ⟨hS_7, ?_⟩
              refine .fin <| .weaken [(0, _), (2, _), (3, _), (6, _), (8, _), (9, _), (23, _), (24, _), (25, _), (26, _), (33, _), (36, _), (37, _), (44, _), (51, _)] ⟨rfl, rfl, rfl, rfl, rfl, rfl, rfl, rfl, rfl, rfl, rfl, rfl, rfl, rfl, rfl, trivial⟩ <| .region <| .e rfl (.addI (b := 1) rfl rfl (by omega)) <| .m rfl rfl <| .nil ?_
              have hs_28 : Sat w [_, cObj b_2 27 [v_5, (.int .i64 (n)), (.int .i64 (j)), pv, (.slice none 0 0)], cL v_5 70 (encAt) (a ++ [(y, false)]), _, _, _] w_17 := hs_27.sub ((.cons_cons _ (.cons_cons _ (.cons_cons _ (.cons_cons _ (.cons_cons _ (.cons_cons _ (.cons _ .slnil))))))))
              exact ⟨(k + 1, v_5, a ++ [(y, false)], n, j, pv, q), ⟨rfl, rfl, rfl, rfl, rfl, rfl, rfl, trivial⟩, ⟨hs_28, by omega, by rw [List.length_append, List.length_singleton]; omega, by omega, hqd, fun al nx jr ps hg => st_attr (good_cls hg (good_p hp hg) hx) hy0 (hb_attr.trans rfl) hy (fun z hz => (by first | (rw [hz2 (by omega)] at hz; cases hz; rfl) | (have h9 := (List.getElem?_eq_some_iff.1 hz).1; omega))) (hI _ _ _ _ hg)⟩, (show ((cutB 10 (strOf p)).length - (k + 1)) < ((cutB 10 (strOf p)).length - k) from by omega)⟩
          · refine .seq ?_
            have hn_attr := hc_5
            refine .region <| .e rfl (.strEql rfl rfl) <| .s rfl rfl <| .nil <| .condD rfl (fun hc_6 => ?_) (fun hc_6 => ?_)
            · have hb_piece := hc_6
              obtain ⟨y, hy⟩ : ∃ y, (cutB 32 x)[1]? = some y := ⟨_, List.getElem?_eq_getElem (by omega)⟩
              have hshp_2 := (hs_12.rdL (E := encPc) 3 rfl).shp (by decide)
              refine .draw2 (fun w' => Sat w [cObj b_1 27 [(.slice none 0 0), (.int .i64 (0 : Nat)), (.int .i64 (0 : Nat)), (.slice none 0 0), (.slice none 0 0)], cObj b_2 27 [av, (.int .i64 (n)), (.int .i64 (j)), pv, (.slice none 0 0)], cL av 70 (encAt) (a), cPcs 9 (q), cL r_2 9 (encTx) (cutB 10 (strOf (p))), cL r_3 9 (encTx) (cutB 32 x)] w') (fun w' => Sat w [cObj b_1 27 [(.slice none 0 0), (.int .i64 (0 : Nat)), (.int .i64 (0 : Nat)), (.slice none 0 0), (.slice none 0 0)], cL av 70 (encAt) (a), cPcs 9 (q), cL r_2 9 (encTx) (cutB 10 (strOf (p))), cL r_3 9 (encTx) (cutB 32 x)] w') 13 (.free 0 (.free 1 (.free 2 (.free 3 (.free 4 (.free 6 (.free 7 (.one 5 (.one 8 (.free 9 (.one 10 (.one 11 (.free 12 (.bar 13 .fin)))))))))))))) (fun w' h => h.sub ((.cons_cons _ (.cons _ (.cons_cons _ (.cons_cons _ (.cons_cons _ (.cons_cons _ .slnil)))))))) mixed (by kernel_rfl) ?_
              have hs_29 := hs_12.drew
              have hS_8 : Sat w [_, _, _, _, _, _] _ := hs_29.sub ((.cons_cons _ (.cons_cons _ (.cons_cons _ (.cons _ (.cons_cons _ (.cons_cons _ (.cons_cons _ .slnil))))))))
              refine .e rfl (fun w' hS' => .fieldAddr fld27_3 rfl rfl) hS_8 <| .e rfl (fun w' hS' => .load scal24 rfl (hS'.cell (i := 1) (j := 3) rfl rfl)) hS_8 <| .m rfl rfl hS_8 <| .e rfl (fun w' hS' => .idxL (j := 1) (E := encTx) sl61 rfl rfl (hS'.rdL 5 rfl) (by omega)) hS_8 <| .e rfl (fun w' hS' => .ldL (E := encTx) scal9 rfl (hS'.rdL 5 rfl) hy (by decide) rfl) hS_8 <| .m rfl rfl hS_8 <| .e rfl (fun w' hS' => .sliceL (E := encTx) (a := 2) (c := (cutB 32 x).length) sl61 rfl (hS'.rdL 5 rfl) ⟨_, rfl⟩ rfl (by omega) (by omega)) hS_8 <| .f rfl (.call ent31 rfl ((number_n y _ (by have h9 := cutB_mem_size (mem_of_get hy); omega) (hgv.sat hs_29)).mono fun r_6 w_18 h_6 => ?_))
              obtain ⟨rfl, hp_6⟩ := h_6
              have hs_30 := hs_29.adds hp_6
              have hS_9 : Sat w [_, _, _, _, _, _] _ := hs_30.sub ((.cons_cons _ (.cons_cons _ (.cons_cons _ (.cons _ (.cons_cons _ (.cons_cons _ (.cons_cons _ .slnil))))))))
              refine ⟨hS_9, ?_⟩
              refine .f rfl (.call ent32 rfl ((clone_n _ (((cutB 32 x).take ((cutB 32 x).length)).drop 2) _ (((hs_30.rdL 6 rfl)).sub (a := 2) (b := (cutB 32 x).length) (by omega) (by omega)) (by simp; omega)).mono fun r_7 w_19 h_7 => ?_))
              have hp_7 := h_7
              have hs_31 := hs_30.adds hp_7
              obtain ⟨sv_1, hsv_1, hsv_1n⟩ := (hs_31.rdL 7 rfl).sv
              subst hsv_1
              have hS_10 : Sat w [_, _, _, _, _, _] _ := hs_31.sub ((.cons_cons _ (.cons_cons _ (.cons_cons _ (.cons _ (.cons_cons _ (.cons_cons _ (.cons_cons _ (.cons _ .slnil)))))))))
              refine ⟨hS_10, ?_⟩
              refine .e rfl (fun w' hS' => .build bt72 rfl ⟨rfl, rfl, trivial⟩ rfl) hS_10 <| .f rfl (.lit1A (encPc) (⟨(numP y), sv_1, ((cutB 32 x).take ((cutB 32 x).length)).drop 2⟩) sl24 (by decide) (by decide) hs_31 rfl fun v_6 w_20 hs_32 hch_11 => ?_)
              have hS_11 : Sat w [_, _, _, _, _, _] _ := hs_32.sub ((.cons_cons _ (.cons_cons _ (.cons_cons _ (.cons _ (.cons_cons _ (.cons_cons _ (.cons_cons _ (.cons _ (.cons _ .slnil))))))))))
              refine ⟨hS_11, ?_⟩
              refine .f rfl (.appendL 3 sl24 hs_32 rfl rfl rfl Tryz.underlying24 (hs_32.rdL 8 rfl) (by simp only [List.length_cons, List.length_nil]; omega) (by simp only [List.length_cons, List.length_nil]; omega) fun v_7 w_21 hs_33 hch_12 => ?_)
              have hs_33d : Sat w [_, _, _, cL v_7 72 (encPc) (q ++ [⟨(numP y), sv_1, ((cutB 32 x).take ((cutB 32 x).length)).drop 2⟩]), _, _, _, cL sv_1.val 9 (encTx) (((cutB 32 x).take ((cutB 32 x).length)).drop 2)] _ := hs_33.drop 8
              have hS_12 : Sat w [_, _, _, _, _, _] _ := hs_33d.sub ((.cons_cons _ (.cons_cons _ (.cons_cons _ (.cons _ (.cons_cons _ (.cons_cons _ (.cons_cons _ (.cons _ .slnil)))))))))
              refine ⟨hS_12, ?_⟩
              refine .e rfl (fun w' hS' => .fieldAddr fld27_3 rfl rfl) hS_12 <| .bar rfl rfl rfl (OpE.storeObj one24 hs_33d (i := 1) rfl rfl rfl ((hs_33d.rdL 3 rfl).oneCell) rfl fun w_22 hs_34 hch_13 => ?_)
              have hS_13 : Sat w [_, _, _, _, _] _ := hs_34.sub ((.cons_cons _ (.cons _ (.cons_cons _ (.cons _ (.cons_cons _ (.cons_cons _ (.cons_cons _ (.cons _ .slnil)))))))))
              refine ⟨hS_13, ?_⟩
              refine .fin ?_
              have hs_35 : Sat w [_, cObj b_2 27 [av, (.int .i64 (n)), (.int .i64 (j)), v_7, (.slice none 0 0)], _, cL v_7 72 (encPc) (q ++ [⟨(numP y), sv_1, ((cutB 32 x).take ((cutB 32 x).length)).drop 2⟩]), _, _, cL sv_1.val 9 (encTx) (((cutB 32 x).take ((cutB 32 x).length)).drop 2)] w_22 := hs_34.sub ((.cons_cons _ (.cons_cons _ (.cons_cons _ (.cons_cons _ (.cons_cons _ (.cons_cons _ (.cons _ (.cons_cons _ .slnil)))))))))
              have hs_36 : Sat w [_, _, _, _, _, _, cL sv_1.val 9 (encTx) ((cutB 32 x).drop 2)] w_22 := hs_35.reL 6 rfl (show ((cutB 32 x).take ((cutB 32 x).length)).drop 2 = (cutB 32 x).drop 2 from by rw [List.take_length])
              have hs_37 : Sat w [_, _, _, cL v_7 72 (encPc) (q ++ [⟨(numP y), sv_1, (cutB 32 x).drop 2⟩]), _, _, _] w_22 := hs_36.reL 3 rfl (show q ++ [⟨(numP y), sv_1, ((cutB 32 x).take ((cutB 32 x).length)).drop 2⟩] = q ++ [⟨(numP y), sv_1, (cutB 32 x).drop 2⟩] from by rw [List.take_length])
              have hs_38 : Sat w [cObj b_1 27 [(.slice none 0 0), (.int .i64 (0 : Nat)), (.int .i64 (0 : Nat)), (.slice none 0 0), (.slice none 0 0)], cObj b_2 27 [av, (.int .i64 (n)), (.int .i64 (j)), v_7, (.slice none 0 0)], cL av 70 (encAt) (a), cL v_7 72 (encPc) (q ++ [⟨(numP y), sv_1, (cutB 32 x).drop 2⟩]), cPcs 9 (q ++ [⟨(numP y), sv_1, (cutB 32 x).drop 2⟩]), cL r_2 9 (encTx) (cutB 10 (strOf (p)))] w_22 := Sat.pushPcs (A := [cObj b_1 27 [(.slice none 0 0), (.int .i64 (0 : Nat)), (.int .i64 (0 : Nat)), (.slice none 0 0), (.slice none 0 0)], cObj b_2 27 [av, (.int .i64 (n)), (.int .i64 (j)), v_7, (.slice none 0 0)], cL av 70 (encAt) (a), cL v_7 72 (encPc) (q ++ [⟨(numP y), sv_1, (cutB 32 x).drop 2⟩]), cPcs 9 (q), cL r_2 9 (encTx) (cutB 10 (strOf (p)))]) hs_37 4 rfl
              refine .region <| .e rfl (.addI (b := 1) rfl rfl (by omega)) <| .m rfl rfl <| .nil ?_
              exact ⟨(k + 1, av, a, n, j, v_7, q ++ [⟨(numP y), sv_1, (cutB 32 x).drop 2⟩]), ⟨rfl, rfl, rfl, rfl, rfl, rfl, rfl, trivial⟩, ⟨hs_38, by omega, by omega, by rw [List.length_append, List.length_singleton]; omega, fun p hp => by rcases List.mem_append.1 hp with hp | hp; exact hqd p hp; rw [List.mem_singleton.1 hp]; show (List.drop 2 (cutB 32 x)).length ≤ 200000; rw [List.length_drop]; omega, fun al nx jr ps hg => by rw [List.map_append]; exact st_piece (good_cls hg (good_p hp hg) hx) hy0 (hb_piece.trans rfl) hy (fun p hp e => numP_int ((good_bd hg).2.2 p hp) e) (hI _ _ _ _ hg)⟩, (show ((cutB 10 (strOf p)).length - (k + 1)) < ((cutB 10 (strOf p)).length - k) from by omega)⟩
            · refine .skip ?_
              have hn_piece := hc_6
              refine .region <| .e rfl (.addI (b := 1) rfl rfl (by omega)) <| .m rfl rfl <| .nil ?_
              have hs_39 : Sat w [_, _, _, _, _, _] w_7 := hs_12.sub ((.cons_cons _ (.cons_cons _ (.cons_cons _ (.cons_cons _ (.cons_cons _ (.cons_cons _ (.cons _ .slnil))))))))
              exact ⟨(k + 1, av, a, n, j, pv, q), ⟨rfl, rfl, rfl, rfl, rfl, rfl, rfl, trivial⟩, ⟨hs_39, by omega, by omega, by omega, hqd, fun al nx jr ps hg => st_none (good_cls hg (good_p hp hg) hx) hy0 (fun h9 => hn_next (h9.1.trans rfl)) (fun h9 => hn_jour (h9.1.trans rfl)) (fun h9 => hn_attr (h9.1.trans rfl)) (fun h9 => hn_piece (h9.1.trans rfl)) (hI _ _ _ _ hg)⟩, (show ((cutB 10 (strOf p)).length - (k + 1)) < ((cutB 10 (strOf p)).length - k) from by omega)⟩
  · refine .exit0 <| .seq <| .seq ?_
    have hend : ∀ al nx jr ps, goodM s al nx jr ps → al = a ∧ nx = n ∧ jr = j ∧ ps = q.map pcV := fun al nx jr ps hg => good_end hg (good_p hp hg) (by omega) (hI _ _ _ _ hg)
    refine .region <| .e rfl (.ldObj agg27 rfl hs_11 (i := 1) rfl rfl) <| .f rfl (.call ent7 rfl ((manifest_o av pv (Value.slice none 0 0) (a) (n) (j) (q) _ (hs_11.rdL 2 rfl) (by omega) (hs_11.rdL 3 rfl) (by omega) (hs_11.rdPcs 4 rfl) (fun p hp => by have := hqd p hp; omega) rfl (hgv.sat hs_11)).mono fun r_8 w_23 h_8 => ?_))
    obtain ⟨rfl, hp_8⟩ := h_8
    have hs_40 := hs_11.adds hp_8
    refine .m rfl rfl <| .e rfl (.extract rfl rfl) <| .e rfl (.extract rfl rfl) <| .s rfl rfl <| .s rfl rfl <| .nil <| .seq <| .mid (fun L' w' => Weak [(0, (.string s)), (2, (.pointer (some ⟨b_1, 0, none⟩))), (3, (.int .i64 (0 : Nat))), (6, (.pointer (some ⟨b_2, 0, none⟩))), (10, (.string (manO (a) (n) (j) (q)))), (11, (.int .i64 ((manE (a) (n) (j) (q)) : Nat))), (23, r_2), (24, (.int .i64 ((cutB 10 (strOf (p))).length : Nat))), (25, (.int .i64 k)), (26, (.bool (decide (k < (cutB 10 (strOf (p))).length)))), (98, (.bool (decide (((manE (a) (n) (j) (q)) ≠ 0) ∨ ((manO (a) (n) (j) (q)) ≠ s)))))] L' ∧ Sat w [cObj b_1 27 [(.slice none 0 0), (.int .i64 (0 : Nat)), (.int .i64 (0 : Nat)), (.slice none 0 0), (.slice none 0 0)], cObj b_2 27 [av, (.int .i64 (n)), (.int .i64 (j)), pv, (.slice none 0 0)], cL av 70 (encAt) (a), cL pv 72 (encPc) (q), cPcs 9 (q), cL r_2 9 (encTx) (cutB 10 (strOf (p)))] w') ?_ ?_
    · refine .region <| .m rfl rfl <| .e rfl (.neqN (b := 0) rfl rfl) <| .m rfl rfl ?_
      by_cases hg_2 : (manE (a) (n) (j) (q)) ≠ 0
      · refine .no rfl rfl rfl (decide_eq_true hg_2) rfl <| .no rfl rfl rfl (decide_eq_true hg_2) rfl <| .no rfl rfl rfl (decide_eq_true hg_2) rfl <| .e rfl (.pickY rfl (decide_eq_true hg_2) rfl) <| .nil ?_
        exact ⟨⟨rfl, rfl, rfl, rfl, rfl, rfl, rfl, rfl, rfl, rfl, congrArg some (congrArg Value.bool (by simp [hg_2])), trivial⟩, hs_40⟩
      · refine .yes rfl rfl rfl (decide_eq_false hg_2) <| .m rfl rfl <| .yes rfl rfl rfl (decide_eq_false hg_2) <| .m rfl rfl <| .yes rfl rfl rfl (decide_eq_false hg_2) <| .e rfl (.strNeq rfl rfl) <| .e rfl (.pickN rfl (decide_eq_false hg_2) rfl) <| .nil ?_
        exact ⟨⟨rfl, rfl, rfl, rfl, rfl, rfl, rfl, rfl, rfl, rfl, congrArg some (congrArg Value.bool (by simp [hg_2])), trivial⟩, hs_40⟩
    · rintro L' w_24 ⟨hw_1, hs_41⟩
      refine .weaken _ hw_1 <| .condD rfl (fun hc_7 => ?_) (fun hc_7 => ?_)
      · refine .seq <| .region <| .e rfl (.build bt27 rfl trivial rfl) <| .f rfl (.storeObjA (vs := [(.slice none 0 0), (.int .i64 (0 : Nat)), (.int .i64 (0 : Nat)), (.slice none 0 0), (.slice none 0 0)]) agg27 hs_41 (i := 0) rfl rfl rfl rfl (fun v h => by simp only [List.mem_cons, List.not_mem_nil, or_false] at h; rcases h with rfl | rfl | rfl | rfl | rfl; exact rfl; exact rfl; exact rfl; exact rfl; exact rfl) fun w_25 hs_42 hch_14 => ?_)
        refine .s rfl rfl <| .nil <| .ret ?_
        show PostK _ _ _ _ _ _
        refine post2c (vs := [(.slice none 0 0), (.int .i64 (0 : Nat)), (.int .i64 (0 : Nat)), (.slice none 0 0), (.slice none 0 0)]) rfl rfl rfl agg27 (fun j u hu => hs_42.cell (i := 0) rfl hu) ?_
        have hs_43 : Sat w [] w_25 := hs_42.sub ((.cons _ (.cons _ (.cons _ (.cons _ (.cons _ (.cons _ .slnil)))))))
        exact .inr ⟨bad_of hend hc_7, rfl, hs_43⟩
      · refine .skip <| .seq <| .region <| .e rfl (.ldObj agg27 rfl hs_41 (i := 1) rfl rfl) <| .f rfl (.storeObjA (vs := [av, (.int .i64 (n)), (.int .i64 (j)), pv, (.slice none 0 0)]) agg27 hs_41 (i := 0) rfl rfl rfl rfl (fun v h => by simp only [List.mem_cons, List.not_mem_nil, or_false] at h; rcases h with rfl | rfl | rfl | rfl | rfl; exact (hs_41.rdL 2 rfl).oneCell; exact rfl; exact rfl; exact (hs_41.rdL 3 rfl).oneCell; exact rfl) fun w_26 hs_44 hch_15 => ?_)
        refine .s rfl rfl <| .nil <| .ret ?_
        show PostK _ _ _ _ _ _
        refine post2c (vs := [av, (.int .i64 (n)), (.int .i64 (j)), pv, (.slice none 0 0)]) rfl rfl rfl agg27 (fun j u hu => hs_44.cell (i := 0) rfl hu) ?_
        have hs_45 : Sat w [_, _, _] w_26 := hs_44.sub ((.cons _ (.cons _ (.cons_cons _ (.cons_cons _ (.cons_cons _ (.cons _ .slnil)))))))
        exact .inl ⟨_, _, _, _, _, _, good_of hc_7, hend, by omega, by omega, fun p hp => by have := hqd p hp; omega, rfl, hs_45⟩
theorem parse_n (s : ByteArray) (w : World) (hn : s.size ≤ 100000) (hgv : GV Tryz.prog 0 w) : CallsV Tryz.prog 9 [.string s] w fun r w' => (∃ (av pv : Value) (a : List (ByteArray × Bool)) (n j : Int) (q : List Pc), goodM s a n j (q.map pcV) ∧ (∀ al nx jr ps, goodM s al nx jr ps → al = a ∧ nx = n ∧ jr = j ∧ ps = q.map pcV) ∧ q.length ≤ 200000 ∧ a.length ≤ 200000 ∧ (∀ p ∈ q, p.ns.length ≤ 200000) ∧ r = .tuple #[.agg #[av, .int .i64 n, .int .i64 j, pv, .slice none 0 0], .int .i64 ((0 : Nat) : Int)] ∧ Sat w [cL av 70 encAt a, cL pv 72 encPc q, cPcs 9 q] w')
  ∨ ((∀ al nx jr ps, ¬ goodM s al nx jr ps) ∧ r = .tuple #[.agg #[.slice none 0 0, .int .i64 ((0 : Nat) : Int), .int .i64 ((0 : Nat) : Int), .slice none 0 0, .slice none 0 0], .int .i64 ((9 : Nat) : Int)] ∧ Sat w [] w') := by
  by_cases h : ∃ p, strB s = sealN p
  · obtain ⟨p, hp⟩ := h
    exact parse_yes s w hn hgv p hp
  · exact parse_no s w hn hgv h
end Go.Proofs.YtecfgjdpghddgaaGreatDoor
