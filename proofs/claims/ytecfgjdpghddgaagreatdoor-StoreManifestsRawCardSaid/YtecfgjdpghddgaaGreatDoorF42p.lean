/- The walks of the functions of F42p, printed by our own program (kwgen.py) out of our descriptions (base.py). -/
import Derived.Test.YtecfgjdpghddgaaGreatDoorF42w
import Derived.Test.YtecfgjdpghddgaaGreatDoorKp
import Derived.Test.YtecfgjdpghddgaaGreatDoorKd
import Derived.Test.YtecfgjdpghddgaaGreatDoorTab
set_option linter.unusedVariables false
set_option linter.unusedSimpArgs false
set_option linter.unusedSectionVars false
namespace Go.Proofs.YtecfgjdpghddgaaGreatDoor
open Go.RowKit Go.Kw
set_option maxRecDepth 100000
theorem line_n (w0 w : World) (cs : List Chunk) (b : Nat) (p v wv : Value) (l : List UInt8) (x : ByteArray) (ws : List ByteArray) (hp : selfP b p) (hs : Sat w0 ([cObj b 60 [p, v], cL v 5 (encN .u8) (toN l)] ++ cs) w) (hv : RdL w wv encTx (x :: ws)) (hn : (x :: ws).length ≤ 1000000) (hl : l.length + (nl (lineL x.data.toList (ws.map fun n => n.data.toList))).length ≤ 1000000) :
    CallsV Tryz.prog 20 [wv, (.pointer (some ⟨b, 0, none⟩))] w fun r w' => ∃ v', r = .tuple #[] ∧ Sat w0 ([cObj b 60 [(.pointer (some ⟨b, 0, none⟩)), v'], cL v' 5 (encN .u8) (toN (l ++ nl (lineL x.data.toList (ws.map fun n => n.data.toList))))] ++ cs) w' := by
  have hl2 : (nl (lineL x.data.toList (ws.map fun n => n.data.toList))).length = (lineL x.data.toList (ws.map fun n => n.data.toList)).length + 1 := by unfold nl; simp
  refine callsV_of Tryz.func20 rfl rfl ?_
  refine .region <| .m rfl rfl <| .f rfl (.call ent22 rfl ((join_n _ x ws _ hv hn (by omega)).mono fun r_1 w_1 h_1 => ?_))
  obtain ⟨rfl, hp_1⟩ := h_1
  have hs_1 : Sat w0 ([cObj b 60 [p, v], cL v 5 (encN .u8) (toN l)] ++ cs) _ := (hs.adds hp_1).mid
  refine .e rfl (.strAdd rfl rfl (by rw [bs_size, lit_size]; simp; omega)) ?_
  have hA_1 : Sat w0 ([cObj b 60 [p, v], cL v 5 (encN .u8) (toN l)] ++ ([] ++ cs)) _ := (Sat.order [0, 1] (by decide) hs_1).cut 2
  refine .f rfl (.call ent21 rfl ((wstr_n _ _ _ _ _ _ (toN l) (((bs (lineL x.data.toList (ws.map fun n => n.data.toList))) ++ (ByteArray.mk #[10]))) hp hA_1 (by rw [toN_len, ByteArray.size_append, bs_size, lit_size]; simp; omega)).mono fun r_2 w_2 h_2 => ?_))
  obtain ⟨bv_1, rfl, hp_2⟩ := h_2
  have hs_2 : Sat w0 ([cObj b 60 [(.pointer (some ⟨b, 0, none⟩)), bv_1], cL bv_1 5 (encN .u8) (toN l ++ strB ((bs (lineL x.data.toList (ws.map fun n => n.data.toList))) ++ (ByteArray.mk #[10])))] ++ cs) _ := hp_2
  refine .nil ?_
  show PostK _ _ _ _ _ _
  refine post0 rfl ?_
  have hs_3 : Sat w0 ([_, cL bv_1 5 (encN .u8) (toN (l ++ nl (lineL x.data.toList (ws.map fun n => n.data.toList))))] ++ cs) w_2 := hs_2.reL 1 rfl (show toN l ++ strB ((bs (lineL x.data.toList (ws.map fun n => n.data.toList))) ++ (ByteArray.mk #[10])) = toN (l ++ nl (lineL x.data.toList (ws.map fun n => n.data.toList))) from by unfold toN strB nl; simp [app_data, bs_data])
  exact ⟨_, rfl, hs_3⟩
set_option maxHeartbeats 1000000 in
theorem manifest_n (av pv rv : Value) (al : List (ByteArray × Bool)) (nx jr : Int) (pl : List Pc) (w : World) (ha : RdL w av encAt al) (hna : al.length ≤ 200000) (hp : RdL w pv encPc pl) (hnp : pl.length ≤ 200000) (hrow : ∀ p ∈ pl, RdL w p.sv.val encTx p.ns) (hdl : ∀ p ∈ pl, p.ns.length ≤ 9223372036854775807) (hrv : rv.oneCell' = true) (hgv : GV Tryz.prog 0 w) :
    CallsV Tryz.prog 7 [(.agg #[av, (.int .i64 (nx)), (.int .i64 (jr)), pv, rv])] w fun r w' => (stOk al nx jr pl → r = .tuple #[.string (manT al nx jr (pl.map pcV)), .int .i64 ((0 : Nat) : Int)]) ∧ (¬ stOk al nx jr pl → r = .tuple #[.string ByteArray.empty, .int .i64 ((1 : Nat) : Int)]) ∧ Sat w [] w' := by
  have hs0 := Sat.start w
  refine callsV_of Tryz.func7 rfl rfl ?_
  refine .seq <| .region <| .f rfl (.box hs0 rfl fun b_1 w_1 hs_1 hch_1 hb_1 => ?_)
  refine .s rfl rfl <| .s rfl rfl <| .nil <| .seq <| .seq <| .region <| .e rfl (.ldObj agg27 rfl hs_1 (i := 0) rfl rfl) <| .f rfl (.call ent19 rfl ((valid_n av pv rv al nx jr pl _ (ha.ext hs_1.ext) hna (hp.ext hs_1.ext) hnp (fun p h9 => (hrow p h9).ext hs_1.ext) hdl hrv).mono fun r_1 w_2 h_1 => ?_))
  obtain ⟨rfl, hp_1⟩ := h_1
  have hs_2 := hs_1.adds hp_1
  refine .e rfl (.notB rfl) <| .nil <| .cond rfl (fun hc_1 => ?_) (fun hc_1 => ?_)
  · refine .seq <| .region <| .s rfl rfl <| .s rfl rfl <| .nil <| .ret ?_
    show PostK _ _ _ _ _ _
    refine post2 rfl rfl rfl ?_
    have hs_3 : Sat w [] w_2 := hs_2.sub ((.cons _ .slnil))
    have hno : stB al nx jr pl = false := by simpa using hc_1
    exact ⟨fun h9 => (by rw [stB_iff.2 h9] at hno; cases hno), fun _ => rfl, hs_3⟩
  · refine .skip <| .seq ?_
    have hok := stB_iff.1 (by simpa using hc_1)
    have hd1 := decN_length (k := 9) (n := nx.toNat) (by have := hok.2.1; omega)
    have hd2 := decN_length (k := 9) (n := jr.toNat) (by have := hok.2.1; have := hok.2.2.2.1; omega)
    have hk1 := hok.2.1
    have hk2 := hok.2.2.1
    have hk3 := hok.2.2.2.1
    refine .region <| .f rfl (.alloc hs_2 zero60 fun b_2 w_3 hs_4 hch_2 hb_2 => ?_)
    refine .nil ?_
    have hs_5 := hs_4.newNilL 5 (encN .u8)
    refine .seq <| .region <| .e rfl (.makeFunc1 rfl) <| .s rfl rfl <| .nil <| .seq <| .region <| .m rfl rfl <| .f rfl (.litN (encTx) [(ByteArray.mk #[99, 111, 114, 112, 111, 114, 97]), (ByteArray.mk #[49])] sl61 rfl ⟨rfl, rfl, trivial⟩ rfl rfl rfl rfl (by decide) (by decide) hs_5 fun v_1 w_4 hs_6 hch_3 => ?_)
    have hs_6d : Sat w [cObj b_1 27 [av, (.int .i64 (nx)), (.int .i64 (jr)), pv, rv], cObj b_2 60 [(.pointer none), (.slice none 0 0)], cL (Value.slice none 0 0) 5 (encN .u8) (toN ([])), cL v_1 9 (encTx) ([(ByteArray.mk #[99, 111, 114, 112, 111, 114, 97]), (ByteArray.mk #[49])])] _ := hs_6
    have hA_1 : Sat w ([cObj b_2 60 [(.pointer none), (.slice none 0 0)], cL (Value.slice none 0 0) 5 (encN .u8) (toN ([]))] ++ ([cObj b_1 27 [av, (.int .i64 (nx)), (.int .i64 (jr)), pv, rv], cL v_1 9 (encTx) ([(ByteArray.mk #[99, 111, 114, 112, 111, 114, 97]), (ByteArray.mk #[49])])] ++ [])) _ := (Sat.order [1, 2, 0, 3] (by decide) hs_6d.tail).cut 2
    refine .f rfl (.callv ent20 rfl rfl ((line_n _ _ _ _ _ _ _ ([]) (ByteArray.mk #[99, 111, 114, 112, 111, 114, 97]) ([ByteArray.mk #[49]]) (.inl rfl) hA_1 (hs_6d.rdL 3 rfl) (by simp) (by decide)).mono fun r_2 w_5 h_2 => ?_))
    obtain ⟨bv_1, rfl, hp_2⟩ := h_2
    have hs_7 : Sat w [cObj b_1 27 [av, (.int .i64 (nx)), (.int .i64 (jr)), pv, rv], cObj b_2 60 [(.pointer (some ⟨b_2, 0, none⟩)), bv_1], cL bv_1 5 (encN .u8) (toN ([] ++ nl (lineL (ByteArray.mk #[99, 111, 114, 112, 111, 114, 97]).data.toList (([ByteArray.mk #[49]]).map fun n => n.data.toList)))), cL v_1 9 (encTx) ([(ByteArray.mk #[99, 111, 114, 112, 111, 114, 97]), (ByteArray.mk #[49])])] _ := (Sat.order [2, 0, 1, 3] (by decide) hp_2.join).untail
    have hs_8 : Sat w [_, _, cL bv_1 5 (encN .u8) (toN (nl (lineL kCorp [[49]]))), _] w_5 := hs_7.reL 2 rfl (show toN ([] ++ nl (lineL (ByteArray.mk #[99, 111, 114, 112, 111, 114, 97]).data.toList (([ByteArray.mk #[49]]).map fun n => n.data.toList))) = toN (nl (lineL kCorp [[49]])) from congrArg toN (rfl))
    refine .nil <| .seq <| .region <| .m rfl rfl <| .e rfl (.fieldAddr fld27_1 rfl rfl) <| .e rfl (.load scal3 rfl (hs_8.cell (i := 0) (j := 1) rfl rfl)) <| .f rfl (.call ent23 rfl ((itoa_n nx _ (by omega) (by omega) (hgv.sat hs_8)).mono fun r_3 w_6 h_3 => ?_))
    obtain ⟨rfl, hp_3⟩ := h_3
    have hs_9 := hs_8.adds hp_3
    refine .f rfl (.litN (encTx) [(ByteArray.mk #[110, 101, 120, 116]), (decS (nx).toNat)] sl61 rfl ⟨rfl, rfl, trivial⟩ rfl rfl rfl rfl (by decide) (by decide) hs_9 fun v_2 w_7 hs_10 hch_4 => ?_)
    have hs_10d : Sat w [cObj b_1 27 [av, (.int .i64 (nx)), (.int .i64 (jr)), pv, rv], cObj b_2 60 [(.pointer (some ⟨b_2, 0, none⟩)), bv_1], cL bv_1 5 (encN .u8) (toN (nl (lineL kCorp [[49]]))), cL v_1 9 (encTx) ([(ByteArray.mk #[99, 111, 114, 112, 111, 114, 97]), (ByteArray.mk #[49])]), cL v_2 9 (encTx) ([(ByteArray.mk #[110, 101, 120, 116]), (decS (nx).toNat)])] _ := hs_10
    have hA_2 : Sat w ([cObj b_2 60 [(.pointer (some ⟨b_2, 0, none⟩)), bv_1], cL bv_1 5 (encN .u8) (toN (nl (lineL kCorp [[49]])))] ++ ([cObj b_1 27 [av, (.int .i64 (nx)), (.int .i64 (jr)), pv, rv], cL v_1 9 (encTx) ([(ByteArray.mk #[99, 111, 114, 112, 111, 114, 97]), (ByteArray.mk #[49])]), cL v_2 9 (encTx) ([(ByteArray.mk #[110, 101, 120, 116]), (decS (nx).toNat)])] ++ [])) _ := (Sat.order [1, 2, 0, 3, 4] (by decide) hs_10d.tail).cut 2
    refine .f rfl (.callv ent20 rfl rfl ((line_n _ _ _ _ _ _ _ (nl (lineL kCorp [[49]])) (ByteArray.mk #[110, 101, 120, 116]) ([decS nx.toNat]) (.inr rfl) hA_2 (hs_10d.rdL 4 rfl) (by simp) (by rw [← List.length_append]; show (nl (lineL kCorp [[49]]) ++ nl (lineL kNext [decN nx.toNat])).length ≤ _; simp [nl, lineL, kCorp, kNext]; omega)).mono fun r_4 w_8 h_4 => ?_))
    obtain ⟨bv_2, rfl, hp_4⟩ := h_4
    have hs_11 : Sat w [cObj b_1 27 [av, (.int .i64 (nx)), (.int .i64 (jr)), pv, rv], cObj b_2 60 [(.pointer (some ⟨b_2, 0, none⟩)), bv_2], cL bv_2 5 (encN .u8) (toN (nl (lineL kCorp [[49]]) ++ nl (lineL (ByteArray.mk #[110, 101, 120, 116]).data.toList (([decS nx.toNat]).map fun n => n.data.toList)))), cL v_1 9 (encTx) ([(ByteArray.mk #[99, 111, 114, 112, 111, 114, 97]), (ByteArray.mk #[49])]), cL v_2 9 (encTx) ([(ByteArray.mk #[110, 101, 120, 116]), (decS (nx).toNat)])] _ := (Sat.order [2, 0, 1, 3, 4] (by decide) hp_4.join).untail
    have hs_12 : Sat w [_, _, cL bv_2 5 (encN .u8) (toN (nl (lineL kCorp [[49]]) ++ nl (lineL kNext [decN nx.toNat]))), _, _] w_8 := hs_11.reL 2 rfl (show toN (nl (lineL kCorp [[49]]) ++ nl (lineL (ByteArray.mk #[110, 101, 120, 116]).data.toList (([decS nx.toNat]).map fun n => n.data.toList))) = toN (nl (lineL kCorp [[49]]) ++ nl (lineL kNext [decN nx.toNat])) from congrArg toN (rfl))
    refine .nil <| .seq <| .region <| .m rfl rfl <| .e rfl (.fieldAddr fld27_2 rfl rfl) <| .e rfl (.load scal3 rfl (hs_12.cell (i := 0) (j := 2) rfl rfl)) <| .f rfl (.call ent23 rfl ((itoa_n jr _ (by omega) (by omega) (hgv.sat hs_12)).mono fun r_5 w_9 h_5 => ?_))
    obtain ⟨rfl, hp_5⟩ := h_5
    have hs_13 := hs_12.adds hp_5
    refine .f rfl (.litN (encTx) [(ByteArray.mk #[106, 111, 117, 114, 110, 97, 108]), (decS (jr).toNat)] sl61 rfl ⟨rfl, rfl, trivial⟩ rfl rfl rfl rfl (by decide) (by decide) hs_13 fun v_3 w_10 hs_14 hch_5 => ?_)
    have hs_14d : Sat w [cObj b_1 27 [av, (.int .i64 (nx)), (.int .i64 (jr)), pv, rv], cObj b_2 60 [(.pointer (some ⟨b_2, 0, none⟩)), bv_2], cL bv_2 5 (encN .u8) (toN (nl (lineL kCorp [[49]]) ++ nl (lineL kNext [decN nx.toNat]))), cL v_1 9 (encTx) ([(ByteArray.mk #[99, 111, 114, 112, 111, 114, 97]), (ByteArray.mk #[49])]), cL v_2 9 (encTx) ([(ByteArray.mk #[110, 101, 120, 116]), (decS (nx).toNat)]), cL v_3 9 (encTx) ([(ByteArray.mk #[106, 111, 117, 114, 110, 97, 108]), (decS (jr).toNat)])] _ := hs_14
    have hA_3 : Sat w ([cObj b_2 60 [(.pointer (some ⟨b_2, 0, none⟩)), bv_2], cL bv_2 5 (encN .u8) (toN (nl (lineL kCorp [[49]]) ++ nl (lineL kNext [decN nx.toNat])))] ++ ([cObj b_1 27 [av, (.int .i64 (nx)), (.int .i64 (jr)), pv, rv], cL v_1 9 (encTx) ([(ByteArray.mk #[99, 111, 114, 112, 111, 114, 97]), (ByteArray.mk #[49])]), cL v_2 9 (encTx) ([(ByteArray.mk #[110, 101, 120, 116]), (decS (nx).toNat)]), cL v_3 9 (encTx) ([(ByteArray.mk #[106, 111, 117, 114, 110, 97, 108]), (decS (jr).toNat)])] ++ [])) _ := (Sat.order [1, 2, 0, 3, 4, 5] (by decide) hs_14d.tail).cut 2
    refine .f rfl (.callv ent20 rfl rfl ((line_n _ _ _ _ _ _ _ (nl (lineL kCorp [[49]]) ++ nl (lineL kNext [decN nx.toNat])) (ByteArray.mk #[106, 111, 117, 114, 110, 97, 108]) ([decS jr.toNat]) (.inr rfl) hA_3 (hs_14d.rdL 5 rfl) (by simp) (by rw [← List.length_append]; show (nl (lineL kCorp [[49]]) ++ nl (lineL kNext [decN nx.toNat]) ++ nl (lineL kJour [decN jr.toNat])).length ≤ _; simp [nl, lineL, kCorp, kNext, kJour]; omega)).mono fun r_6 w_11 h_6 => ?_))
    obtain ⟨bv_3, rfl, hp_6⟩ := h_6
    have hs_15 : Sat w [cObj b_1 27 [av, (.int .i64 (nx)), (.int .i64 (jr)), pv, rv], cObj b_2 60 [(.pointer (some ⟨b_2, 0, none⟩)), bv_3], cL bv_3 5 (encN .u8) (toN (nl (lineL kCorp [[49]]) ++ nl (lineL kNext [decN nx.toNat]) ++ nl (lineL (ByteArray.mk #[106, 111, 117, 114, 110, 97, 108]).data.toList (([decS jr.toNat]).map fun n => n.data.toList)))), cL v_1 9 (encTx) ([(ByteArray.mk #[99, 111, 114, 112, 111, 114, 97]), (ByteArray.mk #[49])]), cL v_2 9 (encTx) ([(ByteArray.mk #[110, 101, 120, 116]), (decS (nx).toNat)]), cL v_3 9 (encTx) ([(ByteArray.mk #[106, 111, 117, 114, 110, 97, 108]), (decS (jr).toNat)])] _ := (Sat.order [2, 0, 1, 3, 4, 5] (by decide) hp_6.join).untail
    have hs_16 : Sat w [_, _, cL bv_3 5 (encN .u8) (toN (atP al nx jr 0)), _, _, _] w_11 := hs_15.reL 2 rfl (show toN (nl (lineL kCorp [[49]]) ++ nl (lineL kNext [decN nx.toNat]) ++ nl (lineL (ByteArray.mk #[106, 111, 117, 114, 110, 97, 108]).data.toList (([decS jr.toNat]).map fun n => n.data.toList))) = toN (atP al nx jr 0) from congrArg toN (hdr_l))
    refine .nil <| .seq <| .seq <| .region <| .e rfl (.fieldAddr fld27_0 rfl rfl) <| .e rfl (.load scal23 rfl (hs_16.cell (i := 0) (j := 0) rfl rfl)) <| .e rfl (.lenL Tryz.underlying23 rfl (ha.ext hs_16.ext)) <| .m rfl rfl <| .nil <| .block ?_
    have hs_17 : Sat w [_, _, _] w_11 := hs_16.sub ((.cons_cons _ (.cons_cons _ (.cons_cons _ (.cons _ (.cons _ (.cons _ .slnil)))))))
    refine .loop (α := Nat × Value) (fun (k, bv) => [(1, (.pointer (some ⟨b_1, 0, none⟩))), (4, (.pointer (some ⟨b_2, 0, none⟩))), (5, (.func (.func 20) #[] #[(.pointer (some ⟨b_2, 0, none⟩))])), (31, av), (32, (.int .i64 al.length)), (33, (.int .i64 k))]) (fun (k, bv) w' => Sat w [cObj b_1 27 [av, (.int .i64 (nx)), (.int .i64 (jr)), pv, rv], cObj b_2 60 [(.pointer (some ⟨b_2, 0, none⟩)), bv], cL bv 5 (encN .u8) (toN (atP al nx jr k))] w' ∧ (k ≤ al.length)) (fun (k, bv) => al.length - k) (0, bv_3) ⟨rfl, rfl, rfl, rfl, rfl, rfl, trivial⟩ ⟨hs_17, Nat.zero_le _⟩ ?_
    rintro ⟨k, bv⟩ w_12 ⟨hs_18, hk⟩
    show CW _ _ _ _ [(1, (.pointer (some ⟨b_1, 0, none⟩))), (4, (.pointer (some ⟨b_2, 0, none⟩))), (5, (.func (.func 20) #[] #[(.pointer (some ⟨b_2, 0, none⟩))])), (31, av), (32, (.int .i64 al.length)), (33, (.int .i64 k))] _
    refine .seq <| .region <| .e rfl (.lssN rfl rfl) <| .nil <| .seq <| .condD rfl (fun hc_2 => ?_) (fun hc_2 => ?_)
    · refine .skip <| .seq <| .block <| .seq ?_
      obtain ⟨x, hx⟩ : ∃ x, (al)[k]? = some x := ⟨_, List.getElem?_eq_getElem hc_2⟩
      refine .region <| .e rfl (.idxL (E := encAt) sl23 rfl rfl (ha.ext hs_18.ext) (by omega)) <| .e rfl (.ldAgg (E := encAt) agg70 rfl (ha.ext hs_18.ext) hx (by decide)) <| .f rfl (.alloc hs_18 zero70 fun b_3 w_13 hs_19 hch_6 hb_3 => ?_)
      refine .f rfl (.storeObjA (vs := (encAt).enc x) agg70 hs_19 (i := 3) rfl rfl rfl rfl ((encAt).one _) fun w_14 hs_20 hch_7 => ?_)
      refine .nil <| .seq <| .region <| .s rfl rfl <| .nil <| .seqMid (fun L' w' => ∃ (b2 : ByteArray), Weak [(1, (.pointer (some ⟨b_1, 0, none⟩))), (4, (.pointer (some ⟨b_2, 0, none⟩))), (5, (.func (.func 20) #[] #[(.pointer (some ⟨b_2, 0, none⟩))])), (7, (.pointer (some ⟨b_3, 0, none⟩))), (8, (.string b2)), (31, av), (32, (.int .i64 al.length)), (33, (.int .i64 k))] L' ∧ Sat w [cObj b_1 27 [av, (.int .i64 (nx)), (.int .i64 (jr)), pv, rv], cObj b_2 60 [(.pointer (some ⟨b_2, 0, none⟩)), bv], cL bv 5 (encN .u8) (toN (atP al nx jr k)), cObj b_3 70 [(.string x.1), (.bool x.2)]] w' ∧ (b2 = bs (setL x.2))) ?_ ?_
      · refine .seq <| .region <| .e rfl (.fieldAddr fld70_1 rfl rfl) <| .e rfl (.load scal4 rfl (hs_20.cell (i := 3) (j := 1) rfl rfl)) <| .nil <| .cond rfl (fun hc_3 => ?_) (fun hc_3 => ?_)
        · refine .region <| .s rfl rfl <| .nil ?_
          exact ⟨(ByteArray.mk #[49]), ⟨rfl, rfl, rfl, rfl, rfl, rfl, rfl, rfl, trivial⟩, hs_20, by rw [hc_3]; rfl⟩
        · refine .skip ?_
          exact ⟨(ByteArray.mk #[48]), ⟨rfl, rfl, rfl, rfl, rfl, rfl, rfl, rfl, trivial⟩, hs_20, by rw [hc_3]; rfl⟩
      · rintro L' w_15 ⟨b2, hw_1, hs_21, hb2⟩
        refine .weaken _ hw_1 <| .region <| .m rfl rfl <| .e rfl (.fieldAddr fld70_0 rfl rfl) <| .e rfl (.load scal9 rfl (hs_21.cell (i := 3) (j := 0) rfl rfl)) <| .m rfl rfl <| .f rfl (.litN (encTx) [(ByteArray.mk #[97, 116, 116, 114, 105, 98, 117, 116, 101]), x.1, b2] sl61 rfl ⟨rfl, rfl, rfl, trivial⟩ rfl rfl rfl rfl (by decide) (by decide) hs_21 fun v_4 w_16 hs_22 hch_8 => ?_)
        have hs_22d : Sat w [cObj b_1 27 [av, (.int .i64 (nx)), (.int .i64 (jr)), pv, rv], cObj b_2 60 [(.pointer (some ⟨b_2, 0, none⟩)), bv], cL bv 5 (encN .u8) (toN (atP al nx jr k)), cObj b_3 70 [(.string x.1), (.bool x.2)], cL v_4 9 (encTx) ([(ByteArray.mk #[97, 116, 116, 114, 105, 98, 117, 116, 101]), x.1, b2])] _ := hs_22
        have hA_4 : Sat w ([cObj b_2 60 [(.pointer (some ⟨b_2, 0, none⟩)), bv], cL bv 5 (encN .u8) (toN (atP al nx jr k))] ++ ([cObj b_1 27 [av, (.int .i64 (nx)), (.int .i64 (jr)), pv, rv], cObj b_3 70 [(.string x.1), (.bool x.2)], cL v_4 9 (encTx) ([(ByteArray.mk #[97, 116, 116, 114, 105, 98, 117, 116, 101]), x.1, b2])] ++ [])) _ := (Sat.order [1, 2, 0, 3, 4] (by decide) hs_22d.tail).cut 2
        refine .f rfl (.callv ent20 rfl rfl ((line_n _ _ _ _ _ _ _ (atP al nx jr k) (ByteArray.mk #[97, 116, 116, 114, 105, 98, 117, 116, 101]) ([x.1, b2]) (.inr rfl) hA_4 (hs_22d.rdL 4 rfl) (by simp) (by rw [← List.length_append, at_l hx hb2]; have := atP_len (k := k + 1) hok; omega)).mono fun r_7 w_17 h_7 => ?_))
        obtain ⟨bv_4, rfl, hp_7⟩ := h_7
        have hs_23 : Sat w [cObj b_1 27 [av, (.int .i64 (nx)), (.int .i64 (jr)), pv, rv], cObj b_2 60 [(.pointer (some ⟨b_2, 0, none⟩)), bv_4], cL bv_4 5 (encN .u8) (toN (atP al nx jr k ++ nl (lineL (ByteArray.mk #[97, 116, 116, 114, 105, 98, 117, 116, 101]).data.toList (([x.1, b2]).map fun n => n.data.toList)))), cObj b_3 70 [(.string x.1), (.bool x.2)], cL v_4 9 (encTx) ([(ByteArray.mk #[97, 116, 116, 114, 105, 98, 117, 116, 101]), x.1, b2])] _ := (Sat.order [2, 0, 1, 3, 4] (by decide) hp_7.join).untail
        have hs_24 : Sat w [_, _, cL bv_4 5 (encN .u8) (toN (atP al nx jr (k + 1))), _, _] w_17 := hs_23.reL 2 rfl (show toN (atP al nx jr k ++ nl (lineL (ByteArray.mk #[97, 116, 116, 114, 105, 98, 117, 116, 101]).data.toList (([x.1, b2]).map fun n => n.data.toList))) = toN (atP al nx jr (k + 1)) from congrArg toN (at_l hx hb2))
        refine .nil <| .region <| .e rfl (.addI (b := 1) rfl rfl (by omega)) <| .m rfl rfl <| .nil ?_
        have hs_25 : Sat w [_, _, _] w_17 := hs_24.sub ((.cons_cons _ (.cons_cons _ (.cons_cons _ (.cons _ (.cons _ .slnil))))))
        exact ⟨(k + 1, bv_4), ⟨rfl, rfl, rfl, rfl, rfl, rfl, trivial⟩, ⟨hs_25, by omega⟩, (show (al.length - (k + 1)) < (al.length - k) from by omega)⟩
    · refine .exit0 <| .seq <| .seq <| .region <| .e rfl (.fieldAddr fld27_3 rfl rfl) <| .e rfl (.load scal24 rfl (hs_18.cell (i := 0) (j := 3) rfl rfl)) <| .e rfl (.lenL Tryz.underlying24 rfl (hp.ext hs_18.ext)) <| .m rfl rfl <| .nil <| .block ?_
      have hs_26 : Sat w [_, cObj b_2 60 [(.pointer (some ⟨b_2, 0, none⟩)), bv], cL bv 5 (encN .u8) (toN (atP al nx jr k))] w_12 := hs_18.sub ((.cons_cons _ (.cons_cons _ (.cons_cons _ .slnil))))
      have hs_27 : Sat w [_, _, cL bv 5 (encN .u8) (toN (pcP al nx jr pl 0))] w_12 := hs_26.reL 2 rfl (show toN (atP al nx jr k) = toN (pcP al nx jr pl 0) from congrArg toN (pcP_zero (by omega)))
      refine .loop (α := Nat × Value) (fun (k, bv) => [(1, (.pointer (some ⟨b_1, 0, none⟩))), (4, (.pointer (some ⟨b_2, 0, none⟩))), (5, (.func (.func 20) #[] #[(.pointer (some ⟨b_2, 0, none⟩))])), (47, pv), (48, (.int .i64 pl.length)), (49, (.int .i64 k))]) (fun (k, bv) w' => Sat w [cObj b_1 27 [av, (.int .i64 (nx)), (.int .i64 (jr)), pv, rv], cObj b_2 60 [(.pointer (some ⟨b_2, 0, none⟩)), bv], cL bv 5 (encN .u8) (toN (pcP al nx jr pl k))] w' ∧ (k ≤ pl.length)) (fun (k, bv) => pl.length - k) (0, bv) ⟨rfl, rfl, rfl, rfl, rfl, rfl, trivial⟩ ⟨hs_27, Nat.zero_le _⟩ ?_
      rintro ⟨k, bv⟩ w_18 ⟨hs_28, hk⟩
      show CW _ _ _ _ [(1, (.pointer (some ⟨b_1, 0, none⟩))), (4, (.pointer (some ⟨b_2, 0, none⟩))), (5, (.func (.func 20) #[] #[(.pointer (some ⟨b_2, 0, none⟩))])), (47, pv), (48, (.int .i64 pl.length)), (49, (.int .i64 k))] _
      refine .seq <| .region <| .e rfl (.lssN rfl rfl) <| .nil <| .seq <| .condD rfl (fun hc_4 => ?_) (fun hc_4 => ?_)
      · refine .skip <| .seq <| .block <| .seq ?_
        obtain ⟨x, hx⟩ : ∃ x, (pl)[k]? = some x := ⟨_, List.getElem?_eq_getElem hc_4⟩
        obtain ⟨hp1, hp2, hp3⟩ := hok.pcs x (mem_of_get hx)
        have hxd := hp3.2
        refine .region <| .e rfl (.idxL (E := encPc) sl24 rfl rfl (hp.ext hs_28.ext) (by omega)) <| .e rfl (.ldAgg (E := encPc) agg72 rfl (hp.ext hs_28.ext) hx (by decide)) <| .f rfl (.alloc hs_28 zero72 fun b_4 w_19 hs_29 hch_9 hb_4 => ?_)
        refine .f rfl (.storeObjA (vs := (encPc).enc x) agg72 hs_29 (i := 3) rfl rfl rfl rfl ((encPc).one _) fun w_20 hs_30 hch_10 => ?_)
        refine .nil ?_
        have hshp_1 := (hs_30.rdL (E := encN .u8) 2 rfl).shp (by decide)
        refine .draw (fun w' => Sat w [cObj b_1 27 [av, (.int .i64 (nx)), (.int .i64 (jr)), pv, rv], cObj b_4 72 [(.int .i64 (x.f)), x.sv.val]] w') (.free 0 (.free 1 (.free 2 (.free 5 (.free 6 (.one 3 (.one 4 (.one 7 (.one 8 .fin))))))))) mixed (by kernel_rfl) ?_
        have hs_31 := hs_30.drew
        have hS_1 : Sat w [_, _] _ := hs_31.sub ((.cons_cons _ (.cons _ (.cons _ (.cons_cons _ .slnil)))))
        refine .m rfl rfl hS_1 <| .e rfl (fun w' hS' => .fieldAddr fld72_0 rfl rfl) hS_1 <| .e rfl (fun w' hS' => .load scal3 rfl (hS'.cell (i := 1) (j := 0) rfl rfl)) hS_1 <| .e rfl (fun w' hS' => .fieldAddr fld72_1 rfl rfl) hS_1 <| .e rfl (fun w' hS' => .load scal61 rfl (hS'.cell (i := 1) (j := 1) rfl rfl)) hS_1 <| .f rfl (.call ent23 rfl ((itoa_n x.f _ (by omega) (by omega) (hgv.sat hs_31)).mono fun r_8 w_21 h_8 => ?_))
        obtain ⟨rfl, hp_8⟩ := h_8
        have hs_32 := hs_31.adds hp_8
        have hS_2 : Sat w [_, _] _ := hs_32.sub ((.cons_cons _ (.cons _ (.cons _ (.cons_cons _ .slnil)))))
        refine ⟨hS_2, ?_⟩
        refine .f rfl (.litN (encTx) [(ByteArray.mk #[112, 105, 101, 99, 101]), (decS (x.f).toNat)] sl61 rfl ⟨rfl, rfl, trivial⟩ rfl rfl rfl rfl (by decide) (by decide) hs_32 fun v_5 w_22 hs_33 hch_11 => ?_)
        have hS_3 : Sat w [_, _] _ := hs_33.sub ((.cons_cons _ (.cons _ (.cons _ (.cons_cons _ (.cons _ .slnil))))))
        refine ⟨hS_3, ?_⟩
        refine .f rfl (.appendL 4 sl61 hs_33 rfl rfl rfl Tryz.underlying61 ((hrow x (mem_of_get hx)).ext hs_33.ext) (by simp; omega) (by simp; omega) fun v_6 w_23 hs_34 hch_12 => ?_)
        have hs_34d : Sat w [cObj b_1 27 [av, (.int .i64 (nx)), (.int .i64 (jr)), pv, rv], cObj b_2 60 [(.pointer (some ⟨b_2, 0, none⟩)), bv], cL bv 5 (encN .u8) (toN (pcP al nx jr pl k)), cObj b_4 72 [(.int .i64 (x.f)), x.sv.val], cL v_6 9 (encTx) ([(ByteArray.mk #[112, 105, 101, 99, 101]), (decS (x.f).toNat)] ++ x.ns)] _ := hs_34
        have hS_4 : Sat w [_, _] _ := hs_34d.sub ((.cons_cons _ (.cons _ (.cons _ (.cons_cons _ (.cons _ .slnil))))))
        refine ⟨hS_4, ?_⟩
        have hA_5 : Sat w ([cObj b_2 60 [(.pointer (some ⟨b_2, 0, none⟩)), bv], cL bv 5 (encN .u8) (toN (pcP al nx jr pl k))] ++ ([cObj b_1 27 [av, (.int .i64 (nx)), (.int .i64 (jr)), pv, rv], cObj b_4 72 [(.int .i64 (x.f)), x.sv.val], cL v_6 9 (encTx) ([(ByteArray.mk #[112, 105, 101, 99, 101]), (decS (x.f).toNat)] ++ x.ns)] ++ [])) _ := (Sat.order [1, 2, 0, 3, 4] (by decide) hs_34d.tail).cut 2
        refine .f rfl (.callv ent20 rfl rfl ((line_n _ _ _ _ _ _ _ (pcP al nx jr pl k) (ByteArray.mk #[112, 105, 101, 99, 101]) (decS x.f.toNat :: x.ns) (.inr rfl) hA_5 (hs_34d.rdL 4 rfl) (by simp; omega) (by rw [← List.length_append, pc_l hx]; have := pcP_len (k := k + 1) hok; omega)).mono fun r_9 w_24 h_9 => ?_))
        obtain ⟨bv_5, rfl, hp_9⟩ := h_9
        have hs_35 : Sat w [cObj b_1 27 [av, (.int .i64 (nx)), (.int .i64 (jr)), pv, rv], cObj b_2 60 [(.pointer (some ⟨b_2, 0, none⟩)), bv_5], cL bv_5 5 (encN .u8) (toN (pcP al nx jr pl k ++ nl (lineL (ByteArray.mk #[112, 105, 101, 99, 101]).data.toList ((decS x.f.toNat :: x.ns).map fun n => n.data.toList)))), cObj b_4 72 [(.int .i64 (x.f)), x.sv.val], cL v_6 9 (encTx) ([(ByteArray.mk #[112, 105, 101, 99, 101]), (decS (x.f).toNat)] ++ x.ns)] _ := (Sat.order [2, 0, 1, 3, 4] (by decide) hp_9.join).untail
        have hs_36 : Sat w [_, _, cL bv_5 5 (encN .u8) (toN (pcP al nx jr pl (k + 1))), _, _] w_24 := hs_35.reL 2 rfl (show toN (pcP al nx jr pl k ++ nl (lineL (ByteArray.mk #[112, 105, 101, 99, 101]).data.toList ((decS x.f.toNat :: x.ns).map fun n => n.data.toList))) = toN (pcP al nx jr pl (k + 1)) from congrArg toN (pc_l hx))
        have hS_5 : Sat w [_, _] _ := hs_36.sub ((.cons_cons _ (.cons _ (.cons _ (.cons_cons _ (.cons _ .slnil))))))
        refine ⟨hS_5, ?_⟩
        refine .fin <| .region <| .e rfl (.addI (b := 1) rfl rfl (by omega)) <| .m rfl rfl <| .nil ?_
        have hs_37 : Sat w [_, cObj b_2 60 [(.pointer (some ⟨b_2, 0, none⟩)), bv_5], cL bv_5 5 (encN .u8) (toN (pcP al nx jr pl (k + 1)))] w_24 := hs_36.sub ((.cons_cons _ (.cons_cons _ (.cons_cons _ (.cons _ (.cons _ .slnil))))))
        exact ⟨(k + 1, bv_5), ⟨rfl, rfl, rfl, rfl, rfl, rfl, trivial⟩, ⟨hs_37, by omega⟩, (show (pl.length - (k + 1)) < (pl.length - k) from by omega)⟩
      · refine .exit0 <| .seq <| .region ?_
        have hA_6 := Sat.order [1, 2, 0] (by decide) hs_28.tail
        refine .f rfl (.call ent25 rfl ((bstr_n _ _ _ _ _ _ (pcP al nx jr pl k) (.inr rfl) hA_6).mono fun r_10 w_25 h_10 => ?_))
        obtain ⟨rfl, hp_10⟩ := h_10
        refine .f rfl (.toBytes Tryz.underlying9 Tryz.underlying43 Tryz.underlying5 hp_10 rfl (by rw [bs_size]; have := pcP_len (k := k) hok; omega) fun v_7 w_26 hs_38 => ?_)
        refine .f rfl (.call ent24 rfl ((seal_ok _ (strB (bs (pcP al nx jr pl k))) _ (hs_38.rdRo 0 rfl) (strB_lt _) (by rw [strB_length, bs_size]; have := pcP_len (k := k) hok; omega)).mono fun r_11 w_27 h_11 => ?_))
        have hp_11 := h_11
        have hs_39 := hs_38.adds hp_11
        refine .e rfl (.bytesStr Tryz.underlying43 Tryz.underlying9 Tryz.underlying5 rfl (hs_39.rdL 1 rfl)) <| .s rfl rfl <| .s rfl rfl <| .nil <| .ret ?_
        show PostK _ _ _ _ _ _
        refine post2 rfl rfl rfl ?_
        have hs_40 : Sat w [] w_27 := hs_39.sub ((.cons _ (.cons _ .slnil)))
        exact ⟨fun _ => by rw [pcP_all (show pl.length ≤ k by omega)]; rfl, fun h9 => absurd hok h9, hs_40⟩
end Go.Proofs.YtecfgjdpghddgaaGreatDoor
