/- The walks of the functions of F42w, printed by our own program (kwgen.py) out of our descriptions (base.py). -/
import Derived.Test.YtecfgjdpghddgaaGreatDoorF42m
import Derived.Test.YtecfgjdpghddgaaGreatDoorF03Z
import Derived.Test.YtecfgjdpghddgaaGreatDoorM42c
import Derived.Test.YtecfgjdpghddgaaGreatDoorTab
import Derived.Test.YtecfgjdpghddgaaGreatDoorKy
import Derived.Test.YtecfgjdpghddgaaGreatDoorShelf
import Derived.Test.YtecfgjdpghddgaaGreatDoorKp
set_option linter.unusedVariables false
set_option linter.unusedSimpArgs false
set_option linter.unusedSectionVars false
namespace Go.Proofs.YtecfgjdpghddgaaGreatDoor
open Go.RowKit Go.Kw
set_option maxRecDepth 100000
set_option maxHeartbeats 1000000 in
theorem rmanifest_n (av pv rv : Value) (al : List (ByteArray × Bool)) (nx jr : Int) (pl : List Pc) (w : World) (ha : RdL w av encAt al) (hna : al.length ≤ 200000) (hp : RdL w pv encPc pl) (hnp : pl.length ≤ 200000) (hrow : ∀ p ∈ pl, RdL w p.sv.val encTx p.ns) (hdl : ∀ p ∈ pl, p.ns.length ≤ 9223372036854775807) (hrv : rv.oneCell' = true) :
    CallsV Tryz.prog 8 [(.agg #[av, (.int .i64 (nx)), (.int .i64 (jr)), pv, rv])] w fun r w' => (stOk al nx jr pl → r = .tuple #[.string (manT al nx jr (pl.map pcV)), .int .i64 ((0 : Nat) : Int)]) ∧ (¬ stOk al nx jr pl → r = .tuple #[.string ByteArray.empty, .int .i64 ((1 : Nat) : Int)]) ∧ Sat w [] w' := by
  have hs0 := Sat.start w
  refine callsV_of Tryz.func8 rfl rfl ?_
  refine .seq <| .region <| .f rfl (.box hs0 rfl fun b_1 w_1 hs_1 hch_1 hb_1 => ?_)
  refine .s rfl rfl <| .s rfl rfl <| .nil <| .seq <| .seq <| .region <| .e rfl (.ldObj agg27 rfl hs_1 (i := 0) rfl rfl) <| .f rfl (.call ent26 rfl ((may_n av pv rv al nx jr pl _ (ha.ext hs_1.ext) hna (hp.ext hs_1.ext) hnp (fun p h9 => (hrow p h9).ext hs_1.ext) hdl hrv).mono fun r_1 w_2 h_1 => ?_))
  obtain ⟨rfl, hp_1⟩ := h_1
  have hs_2 := hs_1.adds hp_1
  refine .e rfl (.notB rfl) <| .nil <| .cond rfl (fun hc_1 => ?_) (fun hc_1 => ?_)
  · refine .seq <| .region <| .s rfl rfl <| .s rfl rfl <| .nil <| .ret ?_
    show PostK _ _ _ _ _ _
    refine post2 rfl rfl rfl ?_
    have hs_3 : Sat w [] w_2 := hs_2.sub ((.cons _ .slnil))
    have hno : stB al nx jr pl = false := by simpa using hc_1
    exact ⟨fun h9 => (by rw [stB_iff.2 h9] at hno; cases hno), fun _ => rfl, hs_3⟩
  · refine .skip <| .seq ?_
    have hok := stB_iff.1 (by simpa using hc_1)
    have hd1 := decS_size (n := nx.toNat) (by have := hok.2.1; omega)
    have hd2 := decS_size (n := jr.toNat) (by have := hok.2.1; have := hok.2.2.2.1; omega)
    have hk1 := hok.2.1
    have hk2 := hok.2.2.1
    have hk3 := hok.2.2.2.1
    refine .drawS hs_2 (.free 0 (.free 1 (.free 5 (.free 6 (.one 2 (.free 3 (.free 4 (.one 7 (.free 8 (.free 9 (.free 10 .fin))))))))))) mixed (by kernel_rfl) ?_
    have hs_4 := hs_2.drew
    refine .e rfl (fun w' hS' => .fieldAddr fld27_1 rfl rfl) hs_4 <| .e rfl (fun w' hS' => .load scal3 rfl (hS'.cell (i := 0) (j := 1) rfl rfl)) hs_4 <| .e rfl (fun w' hS' => .fieldAddr fld27_2 rfl rfl) hs_4 <| .e rfl (fun w' hS' => .load scal3 rfl (hS'.cell (i := 0) (j := 2) rfl rfl)) hs_4 <| .f rfl (.call ent27 rfl ((decimal_i nx _ (by omega) (by omega)).mono fun r_2 w_3 h_2 => ?_))
    obtain ⟨rfl, hp_2⟩ := h_2
    have hs_5 := hs_4.adds hp_2
    have hS_1 : Sat w [_] _ := hs_5.sub ((.cons_cons _ .slnil))
    refine ⟨hS_1, ?_⟩
    refine .e rfl (fun w' hS' => .strAdd rfl rfl (by simp [ByteArray.size_append, lit_size] <;> omega)) hS_1 <| .e rfl (fun w' hS' => .strAdd rfl rfl (by simp [ByteArray.size_append, lit_size] <;> omega)) hS_1 <| .f rfl (.call ent27 rfl ((decimal_i jr _ (by omega) (by omega)).mono fun r_3 w_4 h_3 => ?_))
    obtain ⟨rfl, hp_3⟩ := h_3
    have hs_6 := hs_5.adds hp_3
    have hS_2 : Sat w [_] _ := hs_6.sub ((.cons_cons _ .slnil))
    refine ⟨hS_2, ?_⟩
    refine .e rfl (fun w' hS' => .strAdd rfl rfl (by simp [ByteArray.size_append, lit_size] <;> omega)) hS_2 <| .e rfl (fun w' hS' => .strAdd rfl rfl (by simp [ByteArray.size_append, lit_size] <;> omega)) hS_2 <| .e rfl (fun w' hS' => .assign rfl) hS_2 <| .fin <| .seq <| .seq <| .region <| .e rfl (.fieldAddr fld27_0 rfl rfl) <| .e rfl (.load scal23 rfl (hs_6.cell (i := 0) (j := 0) rfl rfl)) <| .e rfl (.lenL Tryz.underlying23 rfl (ha.ext hs_6.ext)) <| .m rfl rfl <| .nil <| .block <| .loop (α := Nat × ByteArray) (fun (k, out) => [(1, (.pointer (some ⟨b_1, 0, none⟩))), (4, (.string out)), (25, av), (26, (.int .i64 al.length)), (27, (.int .i64 k))]) (fun (k, out) w' => Sat w [cObj b_1 27 [av, (.int .i64 (nx)), (.int .i64 (jr)), pv, rv]] w' ∧ (k ≤ al.length) ∧ (out = bs (atP al nx jr k))) (fun (k, out) => al.length - k) (0, (((((ByteArray.mk #[99, 111, 114, 112, 111, 114, 97, 32, 49, 10, 110, 101, 120, 116, 32]) ++ (decS (nx).toNat)) ++ (ByteArray.mk #[10, 106, 111, 117, 114, 110, 97, 108, 32])) ++ (decS (jr).toNat)) ++ (ByteArray.mk #[10]))) ⟨rfl, rfl, rfl, rfl, rfl, trivial⟩ ⟨hs_6, Nat.zero_le _, hdr_txt⟩ ?_
    rintro ⟨k, out⟩ w_5 ⟨hs_7, hk, ho⟩
    show CW _ _ _ _ [(1, (.pointer (some ⟨b_1, 0, none⟩))), (4, (.string out)), (25, av), (26, (.int .i64 al.length)), (27, (.int .i64 k))] _
    refine .seq <| .region <| .e rfl (.lssN rfl rfl) <| .nil <| .seq <| .condD rfl (fun hc_2 => ?_) (fun hc_2 => ?_)
    · refine .skip <| .seq <| .block <| .seq ?_
      obtain ⟨x, hx⟩ : ∃ x, (al)[k]? = some x := ⟨_, List.getElem?_eq_getElem hc_2⟩
      have hsx : x.1.size ≤ 32 := nameB_size (hok.names x (mem_of_get hx))
      have hzo := congrArg ByteArray.size ho; have hzl := atP_len (k := k) hok; rw [bs_size] at hzo
      refine .region <| .e rfl (.idxL (E := encAt) sl23 rfl rfl (ha.ext hs_7.ext) (by omega)) <| .e rfl (.ldAgg (E := encAt) agg70 rfl (ha.ext hs_7.ext) hx (by decide)) <| .f rfl (.alloc hs_7 zero70 fun b_2 w_6 hs_8 hch_2 hb_2 => ?_)
      refine .f rfl (.storeObjA (vs := (encAt).enc x) agg70 hs_8 (i := 1) rfl rfl rfl rfl ((encAt).one _) fun w_7 hs_9 hch_3 => ?_)
      refine .nil <| .seq <| .region <| .m rfl rfl <| .e rfl (.fieldAddr fld70_0 rfl rfl) <| .e rfl (.load scal9 rfl (hs_9.cell (i := 1) (j := 0) rfl rfl)) <| .e rfl (.strAdd rfl rfl (by simp [ByteArray.size_append, lit_size] <;> omega)) <| .e rfl (.strAdd rfl rfl (by simp [ByteArray.size_append, lit_size] <;> omega)) <| .s rfl rfl <| .nil <| .seq <| .region <| .e rfl (.fieldAddr fld70_1 rfl rfl) <| .e rfl (.load scal4 rfl (hs_9.cell (i := 1) (j := 1) rfl rfl)) <| .nil <| .cond rfl (fun hc_3 => ?_) (fun hc_3 => ?_)
      · refine .region <| .m rfl rfl <| .e rfl (.strAdd rfl rfl (by simp [ByteArray.size_append, lit_size] <;> omega)) <| .s rfl rfl <| .nil <| .region <| .e rfl (.addI (b := 1) rfl rfl (by omega)) <| .m rfl rfl <| .nil ?_
        have hs_10 : Sat w [_] w_7 := hs_9.sub ((.cons_cons _ (.cons _ .slnil)))
        exact ⟨(k + 1, ((out ++ ((ByteArray.mk #[97, 116, 116, 114, 105, 98, 117, 116, 101, 32]) ++ x.1)) ++ (ByteArray.mk #[32, 49, 10]))), ⟨rfl, rfl, rfl, rfl, rfl, trivial⟩, ⟨hs_10, by omega, at_txt ho hx hc_3 rfl⟩, (show (al.length - (k + 1)) < (al.length - k) from by omega)⟩
      · refine .region <| .m rfl rfl <| .e rfl (.strAdd rfl rfl (by simp [ByteArray.size_append, lit_size] <;> omega)) <| .s rfl rfl <| .nil <| .region <| .e rfl (.addI (b := 1) rfl rfl (by omega)) <| .m rfl rfl <| .nil ?_
        have hs_11 : Sat w [_] w_7 := hs_9.sub ((.cons_cons _ (.cons _ .slnil)))
        exact ⟨(k + 1, ((out ++ ((ByteArray.mk #[97, 116, 116, 114, 105, 98, 117, 116, 101, 32]) ++ x.1)) ++ (ByteArray.mk #[32, 48, 10]))), ⟨rfl, rfl, rfl, rfl, rfl, trivial⟩, ⟨hs_11, by omega, at_txt ho hx hc_3 rfl⟩, (show (al.length - (k + 1)) < (al.length - k) from by omega)⟩
    · refine .exit0 <| .seq <| .seq <| .region <| .e rfl (.fieldAddr fld27_3 rfl rfl) <| .e rfl (.load scal24 rfl (hs_7.cell (i := 0) (j := 3) rfl rfl)) <| .e rfl (.lenL Tryz.underlying24 rfl (hp.ext hs_7.ext)) <| .m rfl rfl <| .nil <| .block <| .loop (α := Nat × ByteArray) (fun (k, out) => [(1, (.pointer (some ⟨b_1, 0, none⟩))), (4, (.string out)), (44, pv), (45, (.int .i64 pl.length)), (46, (.int .i64 k))]) (fun (k, out) w' => Sat w [cObj b_1 27 [av, (.int .i64 (nx)), (.int .i64 (jr)), pv, rv]] w' ∧ (k ≤ pl.length) ∧ (out = bs (pcP al nx jr pl k))) (fun (k, out) => pl.length - k) (0, out) ⟨rfl, rfl, rfl, rfl, rfl, trivial⟩ ⟨hs_7, Nat.zero_le _, ho.trans (congrArg bs (pcP_zero (by omega)))⟩ ?_
      rintro ⟨k, out⟩ w_8 ⟨hs_12, hk, ho⟩
      show CW _ _ _ _ [(1, (.pointer (some ⟨b_1, 0, none⟩))), (4, (.string out)), (44, pv), (45, (.int .i64 pl.length)), (46, (.int .i64 k))] _
      refine .seq <| .region <| .e rfl (.lssN rfl rfl) <| .nil <| .seq <| .condD rfl (fun hc_4 => ?_) (fun hc_4 => ?_)
      · refine .skip <| .seq <| .block <| .seq ?_
        obtain ⟨x, hx⟩ : ∃ x, (pl)[k]? = some x := ⟨_, List.getElem?_eq_getElem hc_4⟩
        obtain ⟨hp1, hp2, hp3⟩ := hok.pcs x (mem_of_get hx)
        have hd3 := decS_size (n := x.f.toNat) (by omega)
        have hzo := congrArg ByteArray.size ho; have hzl := pcP_len (k := k) hok; rw [bs_size] at hzo
        have hxd := hp3.2
        refine .region <| .e rfl (.idxL (E := encPc) sl24 rfl rfl (hp.ext hs_12.ext) (by omega)) <| .e rfl (.ldAgg (E := encPc) agg72 rfl (hp.ext hs_12.ext) hx (by decide)) <| .f rfl (.alloc hs_12 zero72 fun b_3 w_9 hs_13 hch_4 hb_3 => ?_)
        refine .f rfl (.storeObjA (vs := (encPc).enc x) agg72 hs_13 (i := 1) rfl rfl rfl rfl ((encPc).one _) fun w_10 hs_14 hch_5 => ?_)
        refine .nil <| .seq <| .region <| .m rfl rfl <| .e rfl (.fieldAddr fld72_0 rfl rfl) <| .e rfl (.load scal3 rfl (hs_14.cell (i := 1) (j := 0) rfl rfl)) <| .f rfl (.call ent27 rfl ((decimal_i x.f _ (by omega) (by omega)).mono fun r_4 w_11 h_4 => ?_))
        obtain ⟨rfl, hp_4⟩ := h_4
        have hs_15 : Sat w [_, _] _ := hs_14.adds hp_4
        refine .e rfl (.strAdd rfl rfl (by simp [ByteArray.size_append, lit_size] <;> omega)) <| .e rfl (.strAdd rfl rfl (by simp [ByteArray.size_append, lit_size] <;> omega)) <| .s rfl rfl <| .nil <| .seq <| .seq <| .region <| .e rfl (.fieldAddr fld72_1 rfl rfl) <| .e rfl (.load scal61 rfl (hs_15.cell (i := 1) (j := 1) rfl rfl)) <| .e rfl (.lenL Tryz.underlying61 rfl ((hrow x (mem_of_get hx)).ext hs_15.ext)) <| .m rfl rfl <| .nil <| .block <| .loop (α := Nat × ByteArray) (fun (j, o2) => [(1, (.pointer (some ⟨b_1, 0, none⟩))), (4, (.string o2)), (44, pv), (45, (.int .i64 pl.length)), (46, (.int .i64 k)), (57, x.sv.val), (58, (.int .i64 x.ns.length)), (59, (.int .i64 j))]) (fun (j, o2) w' => Sat w [cObj b_1 27 [av, (.int .i64 (nx)), (.int .i64 (jr)), pv, rv], cObj b_3 72 [(.int .i64 (x.f)), x.sv.val]] w' ∧ (j ≤ x.ns.length) ∧ (o2 = bs (pcP al nx jr pl k ++ nmP x.f x.ns j))) (fun (j, o2) => x.ns.length - j) (0, (out ++ ((ByteArray.mk #[112, 105, 101, 99, 101, 32]) ++ (decS (x.f).toNat)))) ⟨rfl, rfl, rfl, rfl, rfl, rfl, rfl, rfl, trivial⟩ ⟨hs_15, Nat.zero_le _, nm_txt0 ho⟩ ?_
        rintro ⟨j, o2⟩ w_12 ⟨hs_16, hj, ho2⟩
        show CW _ _ _ _ [(1, (.pointer (some ⟨b_1, 0, none⟩))), (4, (.string o2)), (44, pv), (45, (.int .i64 pl.length)), (46, (.int .i64 k)), (57, x.sv.val), (58, (.int .i64 x.ns.length)), (59, (.int .i64 j))] _
        refine .seq <| .region <| .e rfl (.lssN rfl rfl) <| .nil <| .seq <| .condD rfl (fun hc_5 => ?_) (fun hc_5 => ?_)
        · refine .skip <| .seq <| .block <| .seq ?_
          obtain ⟨y, hy⟩ : ∃ y, x.ns[j]? = some y := ⟨_, List.getElem?_eq_getElem hc_5⟩
          have hsy : y.size ≤ 32 := nameB_size (hp3.names y (mem_of_get hy))
          have hzo2 := congrArg ByteArray.size ho2; have hzl2 := nmP_len (k := j) (show x.f ≤ 1000000000 by omega) hp3; rw [bs_size, List.length_append] at hzo2
          refine .region <| .e rfl (.idxL (E := encTx) sl61 rfl rfl ((hrow x (mem_of_get hx)).ext hs_16.ext) (by omega)) <| .e rfl (.ldL (E := encTx) scal9 rfl ((hrow x (mem_of_get hx)).ext hs_16.ext) hy (by decide) rfl) <| .s rfl rfl <| .nil <| .region <| .m rfl rfl <| .m rfl rfl <| .e rfl (.strAdd rfl rfl (by simp [ByteArray.size_append, lit_size] <;> omega)) <| .e rfl (.strAdd rfl rfl (by simp [ByteArray.size_append, lit_size] <;> omega)) <| .s rfl rfl <| .nil <| .region <| .e rfl (.addI (b := 1) rfl rfl (by omega)) <| .m rfl rfl <| .nil ?_
          exact ⟨(j + 1, (o2 ++ ((ByteArray.mk #[32]) ++ y))), ⟨rfl, rfl, rfl, rfl, rfl, rfl, rfl, rfl, trivial⟩, ⟨hs_16, by omega, nm_txt ho2 hy⟩, (show (x.ns.length - (j + 1)) < (x.ns.length - j) from by omega)⟩
        · refine .exit0 ?_
          have hzo2 := congrArg ByteArray.size ho2; have hzl2 := nmP_len (k := j) (show x.f ≤ 1000000000 by omega) hp3; rw [bs_size, List.length_append] at hzo2
          refine .region <| .m rfl rfl <| .e rfl (.strAdd rfl rfl (by simp [ByteArray.size_append, lit_size] <;> omega)) <| .s rfl rfl <| .nil <| .region <| .e rfl (.addI (b := 1) rfl rfl (by omega)) <| .m rfl rfl <| .nil ?_
          have hs_17 : Sat w [_] w_12 := hs_16.sub ((.cons_cons _ (.cons _ .slnil)))
          exact ⟨(k + 1, (o2 ++ (ByteArray.mk #[10]))), ⟨rfl, rfl, rfl, rfl, rfl, trivial⟩, ⟨hs_17, by omega, pc_txt ho2 hx (by omega)⟩, (show (pl.length - (k + 1)) < (pl.length - k) from by omega)⟩
      · refine .exit0 <| .seq <| .region <| .m rfl rfl <| .f rfl (.toBytes Tryz.underlying9 Tryz.underlying43 Tryz.underlying5 hs_12 rfl (by have h9 := congrArg ByteArray.size ho; have h8 := pcP_len (k := k) hok; rw [bs_size] at h9; omega) fun v_1 w_13 hs_18 => ?_)
        refine .f rfl (.call ent28 rfl ((rseal_ok _ (strB out) _ (hs_18.rdRo 1 rfl) (strB_lt _) (by rw [strB_length]; have h9 := congrArg ByteArray.size ho; have h8 := pcP_len (k := k) hok; rw [bs_size] at h9; omega)).mono fun r_5 w_14 h_5 => ?_))
        have hp_5 := h_5
        have hs_19 := hs_18.adds hp_5
        refine .e rfl (.bytesStr Tryz.underlying43 Tryz.underlying9 Tryz.underlying5 rfl (hs_19.rdL 2 rfl)) <| .s rfl rfl <| .s rfl rfl <| .nil <| .ret ?_
        show PostK _ _ _ _ _ _
        refine post2 rfl rfl rfl ?_
        have hs_20 : Sat w [] w_14 := hs_19.sub ((.cons _ (.cons _ (.cons _ .slnil))))
        exact ⟨fun _ => by rw [ho, pcP_all (by omega)]; rfl, fun h9 => absurd hok h9, hs_20⟩
end Go.Proofs.YtecfgjdpghddgaaGreatDoor
namespace Go.Proofs.YtecfgjdpghddgaaGreatDoor
open Go.RowKit Go.Kw
set_option maxRecDepth 100000
theorem unsz60 : unszB Tryz.prog 60 := by unfold unszB; kernel_rfl
theorem unsl60 : unslB Tryz.prog 60 := by unfold unslB; kernel_rfl
theorem cchk_f (w0 w : World) (cs : List Chunk) (b : Nat) (v : Value) (hv : v.oneCell' = true) (hs : Sat w0 ([cObj b 60 [(.pointer none), v]] ++ cs) w) :
    CallsV Tryz.prog 52 [(.pointer (some ⟨b, 0, none⟩))] w fun r w' => r = .tuple #[] ∧ Sat w0 ([cObj b 60 [(.pointer (some ⟨b, 0, none⟩)), v]] ++ cs) w' := by
  refine callsV_of Tryz.func52 rfl rfl ?_
  refine .seq <| .region <| .m rfl rfl <| .e rfl (.nilCheck rfl) <| .e rfl (.fieldAddr fld60_0 rfl rfl) <| .e rfl (.load scal58 rfl (hs.cell (i := 0) (j := 0) rfl rfl)) <| .e rfl (.eqlPt Tryz.underlying58 rfl rfl) <| .nil <| .condT rfl (rfl) <| .region <| .m rfl rfl <| .m rfl rfl <| .e rfl (.toUns Tryz.underlying58 Tryz.underlying155 unsz60 hs (i := 0) rfl rfl rfl) <| .e rfl (.noEsc Tryz.func93 rfl rfl rfl rfl rfl) <| .e rfl (.ofUns Tryz.underlying155 Tryz.underlying58 unsz60 unsl60 hs (i := 0) rfl rfl rfl) <| .e rfl (.nilCheck rfl) <| .e rfl (.fieldAddr fld60_0 rfl rfl) <| .f rfl (.storeObj one58 hs (i := 0) rfl rfl rfl (rfl) rfl fun w_1 hs_1 hch_1 => ?_)
  refine .nil ?_
  show PostK _ _ _ _ _ _
  refine post0 rfl ?_
  exact ⟨rfl, hs_1⟩
theorem cchk_u (w0 w : World) (cs : List Chunk) (b : Nat) (v : Value) (hv : v.oneCell' = true) (hs : Sat w0 ([cObj b 60 [(.pointer (some ⟨b, 0, none⟩)), v]] ++ cs) w) :
    CallsV Tryz.prog 52 [(.pointer (some ⟨b, 0, none⟩))] w fun r w' => r = .tuple #[] ∧ Sat w0 ([cObj b 60 [(.pointer (some ⟨b, 0, none⟩)), v]] ++ cs) w' := by
  refine callsV_of Tryz.func52 rfl rfl ?_
  refine .seq <| .region <| .m rfl rfl <| .e rfl (.nilCheck rfl) <| .e rfl (.fieldAddr fld60_0 rfl rfl) <| .e rfl (.load scal58 rfl (hs.cell (i := 0) (j := 0) rfl rfl)) <| .e rfl (.eqlPt Tryz.underlying58 rfl rfl) <| .nil <| .condF rfl (rfl) <| .seq <| .region <| .m rfl rfl <| .e rfl (.nilCheck rfl) <| .e rfl (.fieldAddr fld60_0 rfl rfl) <| .e rfl (.load scal58 rfl (hs.cell (i := 0) (j := 0) rfl rfl)) <| .m rfl rfl <| .e rfl (.neqPtS Tryz.underlying58 unsz60 rfl rfl) <| .nil <| .condF rfl (rfl) <| .skip ?_
  show PostK _ _ _ _ _ _
  refine post0 rfl ?_
  exact ⟨rfl, hs⟩
def selfP (b : Nat) (p : Value) : Prop := p = .pointer none ∨ p = .pointer (some ⟨b, 0, none⟩)
theorem cchk_n (w0 w : World) (cs : List Chunk) (b : Nat) (p v : Value) (hp : selfP b p) (hv : v.oneCell' = true) (hs : Sat w0 ([cObj b 60 [p, v]] ++ cs) w) : CallsV Tryz.prog 52 [.pointer (some ⟨b, 0, none⟩)] w fun r w' => r = .tuple #[] ∧ Sat w0 ([cObj b 60 [.pointer (some ⟨b, 0, none⟩), v]] ++ cs) w' := by
  rcases hp with rfl | rfl
  · exact cchk_f w0 w cs b v hv hs
  · exact cchk_u w0 w cs b v hv hs
theorem wstr_n (w0 w : World) (cs : List Chunk) (b : Nat) (p v : Value) (l : List Nat) (s : ByteArray) (hp : selfP b p) (hs : Sat w0 ([cObj b 60 [p, v], cL v 5 (encN .u8) (l)] ++ cs) w) (hn : l.length + s.size ≤ 1000000000) :
    CallsV Tryz.prog 21 [(.pointer (some ⟨b, 0, none⟩)), (.string s)] w fun r w' => ∃ v', r = .tuple #[.int .i64 ((s.size : Nat) : Int), .nilIface] ∧ Sat w0 ([cObj b 60 [(.pointer (some ⟨b, 0, none⟩)), v'], cL v' 5 (encN .u8) (l ++ strB s)] ++ cs) w' := by
  refine callsV_of Tryz.func21 rfl rfl ?_
  refine .seq <| .region <| .s rfl rfl <| .s rfl rfl <| .nil <| .seq <| .region <| .m rfl rfl ?_
  have hA_1 : Sat w0 ([cObj b 60 [p, v]] ++ ([cL v 5 (encN .u8) (l)] ++ cs)) _ := (Sat.order [0, 1] (by decide) hs).cut 1
  refine .f rfl (.call ent52 rfl ((cchk_n _ _ _ _ _ _ hp ((hs.rdL 1 rfl).oneCell) hA_1).mono fun r_1 w_1 h_1 => ?_))
  obtain ⟨rfl, hp_1⟩ := h_1
  have hs_1 : Sat w0 ([cObj b 60 [(.pointer (some ⟨b, 0, none⟩)), v], cL v 5 (encN .u8) (l)] ++ cs) _ := Sat.order [0, 1] (by decide) hp_1.join
  refine .nil <| .seq <| .region <| .m rfl rfl <| .m rfl rfl <| .e rfl (.nilCheck rfl) <| .e rfl (.fieldAddr fld60_1 rfl rfl) <| .e rfl (.load scal43 rfl (hs_1.cell (i := 0) (j := 1) rfl rfl)) <| .m rfl rfl <| .f rfl (.appendSrc 1 sl43 hs_1 rfl rfl rfl (srcStr Tryz.underlying9 _) (by rw [strB_length]; omega) (by rw [strB_length]; omega) fun v_1 w_2 hs_2 hch_1 => ?_)
  refine .e rfl (.nilCheck rfl) <| .e rfl (.fieldAddr fld60_1 rfl rfl) <| .f rfl (.storeObj one43 hs_2 (i := 0) rfl rfl rfl ((hs_2.rdL 1 rfl).oneCell) rfl fun w_3 hs_3 hch_2 => ?_)
  refine .nil <| .seq <| .region <| .m rfl rfl <| .e rfl (.lenStr Tryz.underlying9 rfl) <| .s rfl rfl <| .s rfl rfl <| .nil <| .ret ?_
  show PostK _ _ _ _ _ _
  refine post2 rfl rfl rfl ?_
  exact ⟨_, rfl, hs_3⟩
theorem Sat.ofOwn {w w' : World} {v : Value} {e s n : Nat} {cells : List Value} (hb : Below w.heap.size w w') (ho : w'.ownsRow w.heap.size e s v n cells) : Sat w [cSl v e s n cells] w' := by
  refine ⟨hb, fun c hc => ?_, by simp⟩
  rw [List.mem_singleton.1 hc]
  refine ⟨⟨ho.1, ?_⟩, fun k hk => ?_⟩
  · rcases ho.2 with h2 | ⟨g, cap, cur, rfl, hg, hh, r⟩
    · exact .inl h2
    · exact .inr ⟨g, cap, cur, rfl, Nat.zero_le _, hh, r⟩
  · rcases ho.2 with ⟨rfl, _⟩ | ⟨g, cap, cur, rfl, hg, hh, r⟩
    · simp [cSl, slFoot] at hk
    · simp only [cSl, slFoot, List.mem_singleton] at hk
      subst hk
      refine ⟨hg, ?_⟩
      rcases Nat.lt_or_ge k w'.heap.size with h' | h'
      · exact h'
      · rw [Array.getElem?_eq_none h'] at hh; cases hh
theorem all_toN (l : List UInt8) : (encN .u8).all (toN l) = Lib.byteCells l := by
  unfold toN Lib.byteCells
  induction l with
  | nil => rfl
  | cons a l ih => rw [List.map_cons, Enc.all_cons, ih]; rfl
theorem bstr_n (w0 w : World) (cs : List Chunk) (b : Nat) (p v : Value) (l : List UInt8) (hp : selfP b p) (hs : Sat w0 ([cObj b 60 [p, v], cL v 5 (encN .u8) (toN l)] ++ cs) w) : CallsV Tryz.prog 25 [.pointer (some ⟨b, 0, none⟩)] w fun r w' => r = .string (bs l) ∧ Sat w0 [] w' := by
  have h0 := hs.holds (cObj b 60 [p, v]) (by simp)
  have h1 := hs.holds (cL v 5 (encN .u8) (toN l)) (by simp)
  have hB := (h0.2 b (by simp [cObj])).1
  have hap := hs.apart
  rw [List.cons_append, List.pairwise_cons] at hap
  have hne := hap.1 (cL v 5 (encN .u8) (toN l)) (by simp) b (by simp [cObj])
  have hrow : w.ownsRow 0 5 1 v (toN l).length ((encN .u8).all (toN l)) := h1.1
  rw [all_toN, toN_len] at hrow
  have key : Lib.BuilderAt 60 5 w0.heap.size b p (Lib.byteCells l) w := by
    refine ⟨hB, v, h0.1, ⟨?_, ?_⟩, ?_⟩
    · rw [Lib.byteCells_length, Nat.mul_one]
    · rw [Lib.byteCells_length]
      rcases hrow.2 with h2 | ⟨g, cap, cur, rfl, hg, hh, r⟩
      · exact .inl h2
      · exact .inr ⟨g, cap, cur, rfl, (h1.2 g (by simp [cL, cSl, slFoot])).1, hh, r⟩
    · rcases hrow.2 with ⟨rfl, _⟩ | ⟨g, cap, cur, rfl, hg, hh, r⟩
      · simp [Value.ownBlock]
      · intro h9
        simp only [Value.ownBlock, Option.some.injEq] at h9
        exact hne (by simp [cL, cSl, slFoot, h9])
  have hib : Lib.IsBuilder 60 5 w0.heap.size b (Lib.byteCells l) w := by
    rcases hp with rfl | rfl
    · exact .inl key
    · exact .inr key
  refine Calls.mono (Tryz.Builder_String_any w0.heap.size b l w hib hs.old.size) fun e w' he => ?_
  exact ⟨_, he.1, rfl, hs.old.trans he.2, by simp, by simp⟩
theorem join_n (v : Value) (x : ByteArray) (ws : List ByteArray) (w : World) (hv : RdL w v encTx (x :: ws)) (hn : (x :: ws).length ≤ 1000000) (hz : (lineL x.data.toList (ws.map fun n => n.data.toList)).length ≤ 1000000) :
    CallsV Tryz.prog 22 [v, .string (ByteArray.mk #[32])] w fun r w' => r = .string (bs (lineL x.data.toList (ws.map fun n => n.data.toList))) ∧ Sat w [] w' := by
  obtain ⟨b, o, c, rfl, hc, hlt, hcell⟩ := hv.cells_tx (by simp)
  have hj : Lib.join ((x :: ws).map (·.data.toList)) [32] = lineL x.data.toList (ws.map fun n => n.data.toList) := by rw [List.map_cons]; exact join_line _ _
  refine Calls.mono (Tryz.strings_Join b o c (x :: ws) (ByteArray.mk #[32]) w hcell hlt (by omega) hc (by
    show (Lib.join ((x :: ws).map (·.data.toList)) [32]).length ≤ _
    rw [hj]; omega)) fun e w' he => ?_
  refine ⟨_, he.1, ?_, .ofBelow he.2⟩
  exact congrArg (fun q : List UInt8 => Value.string ⟨q.toArray⟩) hj
theorem itoa_n (z : Int) (w : World) (h0 : 0 ≤ z) (h1 : z ≤ 1000000000) (hg : GV Tryz.prog 0 w) : CallsV Tryz.prog 23 [.int .i64 z] w fun r w' => r = .string (decS z.toNat) ∧ Sat w [] w' := by
  refine Calls.mono (Tryz.strconv_Itoa z (by omega) (by omega) w hg.tab) fun e w' he => ?_
  obtain ⟨he, k, os, rfl⟩ := he
  refine ⟨_, he, ?_, .ofBelow (Lib.below_grow _ _ (Nat.le_refl _) _ _)⟩
  rw [itoa_dec h0]; rfl
theorem gsplit_n (s : ByteArray) (c : UInt8) (w : World) (hn : s.size ≤ 1000000) (hg : GV Tryz.prog 0 w) : CallsV Tryz.prog 30 [.string s, .string (ByteArray.mk #[c])] w fun r w' => Sat w [cL r 9 encTx (cutB c s)] w' := by
  obtain ⟨m, hm⟩ := hg.mx
  refine Calls.mono (Tryz.strings_Split s ⟨#[c]⟩ m w (by omega) hm (Nat.le_refl 1)) fun e w' he => ?_
  obtain ⟨he, rfl⟩ := he
  refine ⟨_, he, ?_⟩
  have hl := Lib.splitB_all ⟨#[c]⟩ (Nat.le_refl 1) 0 _ s rfl
  rw [splitB_cut] at hl ⊢
  have hall : encTx.all (cutB c s) = (cutB c s).map Value.string := by
    induction cutB c s with
    | nil => rfl
    | cons a l ih => rw [List.map_cons, Enc.all_cons, ih]; rfl
  have h := (Sat.start w).newSl 9 1 (Lib.countB s ⟨#[c]⟩ + 1) (Lib.countB s ⟨#[c]⟩ + 1) ((cutB c s).map Value.string) (by have := cutB_length_le c s; unfold maxLen; omega) (Nat.le_refl _) (by rw [List.length_map, hl, Nat.mul_one])
  rw [List.take_of_length_le (by rw [List.length_map, hl, Nat.mul_one]; exact Nat.le_refl _)] at h
  unfold cL
  rw [hall, hl]
  exact h
theorem clone_n (v : Value) (l : List ByteArray) (w : World) (hv : RdL w v encTx l) (hn : l.length ≤ 1000000) : CallsV Tryz.prog 32 [v] w fun r w' => Sat w [cL r 9 encTx l] w' := by
  have hall : encTx.all l = l.map Value.string := by
    clear hv hn
    induction l with
    | nil => rfl
    | cons a l ih => rw [List.map_cons, Enc.all_cons, ih]; rfl
  cases l with
  | nil =>
    obtain ⟨a, cap, rfl, hc, _⟩ := hv
    cases a with
    | none =>
      refine Calls.mono (Tryz.slices_Clone_string_nil _ _ w) fun e w' he => ?_
      obtain ⟨he, rfl⟩ := he
      exact ⟨_, he, by simpa using (Sat.start w').newNilL 9 encTx⟩
    | some a =>
      refine Calls.mono (Tryz.slices_Clone_string_zero a cap w) fun e w' he => ?_
      obtain ⟨v', he, ho, _, hb⟩ := he
      exact ⟨_, he, Sat.ofOwn hb ho⟩
  | cons x ws =>
    obtain ⟨b, o, c, rfl, hc, hlt, hcell⟩ := hv.cells_tx (by simp)
    refine Calls.mono (Tryz.slices_Clone_string b o (x :: ws).length c (x :: ws) w (Nat.le_refl _) (by omega) fun j hj => ?_) fun e w' he => ?_
    · rw [hcell j _ (List.getElem?_eq_getElem hj)]
      simp [List.getD_eq_getElem?_getD, List.getElem?_eq_getElem hj]
    · obtain ⟨v', he, ho, _, hb⟩ := he
      refine ⟨_, he, ?_⟩
      have h := Sat.ofOwn hb ho
      rw [List.take_of_length_le (Nat.le_refl _)] at h
      unfold cL
      rw [hall]; exact h
theorem atoi_n (s : ByteArray) (w : World) (hn : s.size ≤ 1000000) (hg : GV Tryz.prog 0 w) : CallsV Tryz.prog 61 [.string s] w fun r w' => ∃ u, r = .tuple #[.int .i64 (numP s), u] ∧ Sat w [] w' := by
  rcases hq : Lib.atoiAll s.data.toList with v | _ | _
  · refine Calls.mono (Tryz.strconv_Atoi_ok s (by omega) v hq w) fun e w' he => ?_
    refine ⟨_, he.1, .nilIface, by unfold numP; rw [hq], ?_⟩
    rcases he.2 with rfl | ⟨t, rfl⟩
    · exact Sat.start _
    · exact .ofBelow (Lib.bytesWorld_below ..)
  · obtain ⟨tp, p, hv⟩ := hg.es
    refine Calls.mono (Tryz.strconv_Atoi_syntax_var s (by omega) hq tp p w hv) fun e w' he => ?_
    obtain ⟨N, he, _, _, hb⟩ := he
    exact ⟨_, he, _, by unfold numP; rw [hq], .ofBelow hb⟩
  · obtain ⟨tp, p, hv⟩ := hg.er
    refine Calls.mono (Tryz.strconv_Atoi_range_var s (by omega) hq tp p w hv) fun e w' he => ?_
    obtain ⟨N, he, _, _, hb⟩ := he
    exact ⟨_, he, _, by unfold numP; rw [hq], .ofBelow hb⟩
end Go.Proofs.YtecfgjdpghddgaaGreatDoor
