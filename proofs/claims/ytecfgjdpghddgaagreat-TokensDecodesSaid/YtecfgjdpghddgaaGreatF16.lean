/- The walks of the functions of F16, printed by our own program (kwgen.py) out of our descriptions (base.py). -/
import Derived.Test.YtecfgjdpghddgaaGreatF02
import Derived.Test.YtecfgjdpghddgaaGreatF14h
import Derived.Test.YtecfgjdpghddgaaGreatM14d
import Derived.Test.YtecfgjdpghddgaaGreatTab
set_option linter.unusedVariables false
set_option linter.unusedSimpArgs false
set_option linter.unusedSectionVars false
namespace Go.Proofs.YtecfgjdpghddgaaGreat
open Go.RowKit Go.Kw
set_option maxRecDepth 100000
theorem packed_ok (v : Value) (l : List Nat) (w : World) (hv : RdL w v (encN .i64) l) (hn : l.length ≤ 4096) (hb : ∀ x ∈ l, x < 1024) :
    CallsV Tryz.prog 35 [v] w fun r w' => ∃ g lv bv ps, r = .pointer (some ⟨g, 0, none⟩) ∧ ptsOf ps = pk0 l (nbk l.length) ∧ Sat w [cObj g 65 [(.int .i64 l.length), (.int .i64 (0 : Nat)), lv, bv, (.int .i64 (0 : Nat)), (.slice none 0 0)], cL lv 3 (encN .i64) ([]), cL bv 97 (encPt) (ps), cParts (ps), cL (Value.slice none 0 0) 3 (encN .i64) ([])] w' := by
  have hs0 := Sat.start w
  refine callsV_of Tryz.func35 rfl rfl ?_
  refine .seq <| .region <| .s rfl rfl <| .nil <| .seq <| .region <| .m rfl rfl <| .e rfl (.lenL Tryz.underlying27 rfl (hv.ext hs0.ext)) <| .e rfl (.build bt65 rfl ⟨rfl, rfl, trivial⟩ rfl) <| .f rfl (.box hs0 rfl fun b_1 w_1 hs_1 hch_1 hb_1 => ?_)
  refine .s rfl rfl <| .nil <| .seq <| .seq ?_
  have hs_2 := hs_1.newNilL 3 (encN .i64)
  have hs_3 : Sat w [_, _, cL (Value.slice none 0 0) 97 (encPt) ([])] _ := hs_2.newNilL 97 encPt
  have hs_4 : Sat w [cObj b_1 65 [(.int .i64 l.length), (.int .i64 (0 : Nat)), (.slice none 0 0), (.slice none 0 0), (.int .i64 (0 : Nat)), (.slice none 0 0)], cL (Value.slice none 0 0) 3 (encN .i64) ([]), cL (Value.slice none 0 0) 97 (encPt) ([]), cParts ([])] _ := hs_3.newParts
  have hs_5 := hs_4.newNilL 3 (encN .i64)
  refine .region <| .s rfl rfl <| .nil <| .block <| .loop (α := Nat × Value × List Pt) (fun (k, bv, ps) => [(0, v), (3, (.pointer (some ⟨b_1, 0, none⟩))), (4, (.int .i64 ((64 * k) : Nat)))]) (fun (k, bv, ps) w' => Sat w [cObj b_1 65 [(.int .i64 l.length), (.int .i64 (0 : Nat)), (.slice none 0 0), bv, (.int .i64 (0 : Nat)), (.slice none 0 0)], cL (Value.slice none 0 0) 3 (encN .i64) ([]), cL bv 97 (encPt) (ps), cParts (ps), cL (Value.slice none 0 0) 3 (encN .i64) ([])] w' ∧ (64 * k ≤ l.length + 63) ∧ (ptsOf ps = pk0 l k)) (fun (k, bv, ps) => l.length + 64 - 64 * k) (0, (.slice none 0 0), []) ⟨rfl, rfl, rfl, trivial⟩ ⟨hs_5, by omega, rfl⟩ ?_
  rintro ⟨k, bv, ps⟩ w_2 ⟨hs_6, hk, hps⟩
  show CW _ _ _ _ [(0, v), (3, (.pointer (some ⟨b_1, 0, none⟩))), (4, (.int .i64 ((64 * k) : Nat)))] _
  have hpl : ps.length = k := by rw [← ptsOf_length, hps]; simp [pk0]
  refine .seq <| .seq <| .region <| .m rfl rfl <| .m rfl rfl <| .e rfl (.lenL Tryz.underlying27 rfl (hv.ext hs_6.ext)) <| .e rfl (.lssN rfl rfl) <| .nil <| .condD rfl (fun hc_1 => ?_) (fun hc_1 => ?_)
  · refine .skip <| .seq <| .block <| .seq <| .region <| .m rfl rfl <| .m rfl rfl <| .m rfl rfl <| .e rfl (.addI (b := 64) rfl rfl (by omega)) <| .m rfl rfl <| .e rfl (.lenL Tryz.underlying27 rfl (hv.ext hs_6.ext)) <| .e rfl (.minN rfl rfl) <| .e rfl (.sliceL (E := encN .i64) (a := (64 * k)) (c := (min ((64 * k) + 64) l.length)) sl27 rfl (hv.ext hs_6.ext) ⟨_, rfl⟩ ⟨_, rfl⟩ (by omega) (by omega)) <| .f rfl (.call ent66 rfl ((pack_ok _ (((l).take (min ((64 * k) + 64) l.length)).drop (64 * k)) _ (((hv.ext hs_6.ext)).sub (a := (64 * k)) (b := (min ((64 * k) + 64) l.length)) (by omega) (by omega)) (by rw [chk_eq, chk_length]; omega) (fun x hx => by rw [chk_eq] at hx; have := hb x (chk_mem hx); omega)).mono fun r_1 w_3 h_1 => ?_))
    obtain ⟨pv_1, rfl, hp_1⟩ := h_1
    have hs_7 := hs_6.adds hp_1
    obtain ⟨sv_1, hsv_1, hsv_1n⟩ := (hs_7.rdL 5 rfl).sv
    subst hsv_1
    refine .m rfl rfl <| .e rfl (.extract rfl rfl) <| .e rfl (.extract rfl rfl) <| .s rfl rfl <| .s rfl rfl <| .nil <| .region <| .m rfl rfl <| .m rfl rfl <| .e rfl (.nilCheck rfl) <| .e rfl (.fieldAddr fld65_3 rfl rfl) <| .e rfl (.load scal63 rfl (hs_7.cell (i := 0) (j := 3) rfl rfl)) <| .m rfl rfl <| .e rfl (.build bt97 rfl ⟨rfl, trivial⟩ rfl) <| .f rfl (.lit1A (encPt) (⟨sv_1, 0, packBk (((l).take (min ((64 * k) + 64) l.length)).drop (64 * k))⟩ : Pt) sl63 (by decide) (by decide) hs_7 rfl fun v_1 w_4 hs_8 hch_2 => ?_)
    have hs_8d : Sat w [_, _, _, _, _, cL sv_1.val 5 (encN .u8) (packBk (((l).take (min ((64 * k) + 64) l.length)).drop (64 * k))), cL v_1 97 (encPt) ([(⟨sv_1, 0, packBk (((l).take (min ((64 * k) + 64) l.length)).drop (64 * k))⟩ : Pt)])] _ := hs_8
    refine .f rfl (.appendL 2 sl63 hs_8d rfl rfl rfl Tryz.underlying63 (hs_8d.rdL 6 rfl) (by simp; omega) (by simp; omega) fun v_2 w_5 hs_9 hch_3 => ?_)
    have hs_9d : Sat w [_, _, cL v_2 97 (encPt) (ps ++ [(⟨sv_1, 0, packBk (((l).take (min ((64 * k) + 64) l.length)).drop (64 * k))⟩ : Pt)]), _, _, _] _ := hs_9.drop 6
    refine .e rfl (.nilCheck rfl) <| .e rfl (.fieldAddr fld65_3 rfl rfl) <| .f rfl (.storeObj one63 hs_9d (i := 0) rfl rfl rfl ((hs_9d.rdL 2 rfl).oneCell) rfl fun w_6 hs_10 hch_4 => ?_)
    refine .nil <| .region <| .m rfl rfl <| .e rfl (.addI (b := 64) rfl rfl (by omega)) <| .s rfl rfl <| .nil ?_
    have hs_11 : Sat w [cObj b_1 65 [(.int .i64 l.length), (.int .i64 (0 : Nat)), (.slice none 0 0), v_2, (.int .i64 (0 : Nat)), (.slice none 0 0)], cL (Value.slice none 0 0) 3 (encN .i64) ([]), cL v_2 97 (encPt) (ps ++ [(⟨sv_1, 0, packBk (((l).take (min ((64 * k) + 64) l.length)).drop (64 * k))⟩ : Pt)]), cParts (ps ++ [⟨sv_1, 0, packBk (((l).take (min ((64 * k) + 64) l.length)).drop (64 * k))⟩]), cL (Value.slice none 0 0) 3 (encN .i64) ([])] w_6 := Sat.pushParts (A := [cObj b_1 65 [(.int .i64 l.length), (.int .i64 (0 : Nat)), (.slice none 0 0), v_2, (.int .i64 (0 : Nat)), (.slice none 0 0)], cL (Value.slice none 0 0) 3 (encN .i64) ([]), cL v_2 97 (encPt) (ps ++ [(⟨sv_1, 0, packBk (((l).take (min ((64 * k) + 64) l.length)).drop (64 * k))⟩ : Pt)]), cParts (ps), cL (Value.slice none 0 0) 3 (encN .i64) ([])]) hs_10 3 rfl
    exact ⟨(k + 1, v_2, ps ++ [⟨sv_1, 0, packBk (((l).take (min ((64 * k) + 64) l.length)).drop (64 * k))⟩]), ⟨rfl, rfl, rfl, trivial⟩, ⟨hs_11, by omega, by rw [ptsOf_snoc, hps, pk0_succ, ← chk_eq]⟩, (show (l.length + 64 - 64 * (k + 1)) < (l.length + 64 - 64 * k) from by omega)⟩
  · refine .exit0 <| .seq <| .region <| .m rfl rfl <| .s rfl rfl <| .nil <| .ret ?_
    show PostK _ _ _ _ _ _
    refine post1 rfl rfl ?_
    have hs_12 : Sat w [cObj b_1 65 [(.int .i64 l.length), (.int .i64 (0 : Nat)), (.slice none 0 0), bv, (.int .i64 (0 : Nat)), (.slice none 0 0)], _, cL bv 97 (encPt) (ps), cParts (ps), _] w_2 := hs_6.sub ((.cons_cons _ (.cons_cons _ (.cons_cons _ (.cons_cons _ (.cons_cons _ .slnil))))))
    have hkn : k = nbk l.length := by unfold nbk; omega
    exact ⟨_, _, _, ps, rfl, by rw [hps, hkn], hs_12⟩
theorem coded_ok (v : Value) (l : List Nat) (w : World) (hv : RdL w v (encN .i64) l) (hn : l.length ≤ 4096) (hb : ∀ x ∈ l, x < 1024) :
    CallsV Tryz.prog 36 [v] w fun r w' => ∃ g lv bv ps, r = .pointer (some ⟨g, 0, none⟩) ∧ ptsOf ps = pk1 l (nbk l.length) ∧ Sat w [cObj g 65 [(.int .i64 l.length), (.int .i64 (1 : Nat)), lv, bv, (.int .i64 (0 : Nat)), (.slice none 0 0)], cL lv 3 (encN .i64) (symL l), cL bv 97 (encPt) (ps), cParts (ps), cL (Value.slice none 0 0) 3 (encN .i64) ([])] w' := by
  have hs0 := Sat.start w
  refine callsV_of Tryz.func36 rfl rfl ?_
  refine .seq <| .region <| .s rfl rfl <| .nil <| .seq <| .region <| .s rfl rfl <| .nil <| .seq <| .seq <| .region <| .m rfl rfl <| .e rfl (.lenL Tryz.underlying27 rfl (hv.ext hs0.ext)) <| .m rfl rfl <| .nil <| .block <| .loop (α := Nat × Nat) (fun (k, m) => [(0, v), (3, (.int .i64 m)), (14, v), (15, (.int .i64 l.length)), (16, (.int .i64 k))]) (fun (k, m) w' => Sat w [] w' ∧ (k ≤ l.length) ∧ (m = mxN (l.take k)) ∧ (m ≤ 1024)) (fun (k, m) => l.length - k) (0, 0) ⟨rfl, rfl, rfl, rfl, rfl, trivial⟩ ⟨hs0, Nat.zero_le _, rfl, Nat.zero_le _⟩ ?_
  rintro ⟨k, m⟩ w_1 ⟨hs_1, hk, hm, hmb⟩
  show CW _ _ _ _ [(0, v), (3, (.int .i64 m)), (14, v), (15, (.int .i64 l.length)), (16, (.int .i64 k))] _
  refine .seq <| .region <| .e rfl (.lssN rfl rfl) <| .nil <| .seq <| .condD rfl (fun hc_1 => ?_) (fun hc_1 => ?_)
  · refine .skip <| .seq <| .block <| .seq ?_
    obtain ⟨x, hx⟩ : ∃ x, (l)[k]? = some x := ⟨_, List.getElem?_eq_getElem hc_1⟩
    refine .region <| .e rfl (.idxL (E := encN .i64) sl27 rfl rfl (hv.ext hs_1.ext) (by omega)) <| .e rfl (.ldL (E := encN .i64) scal3 rfl (hv.ext hs_1.ext) hx (by decide) rfl) <| .s rfl rfl <| .nil ?_
    have hxb := hb x (mem_of_get hx)
    refine .region <| .m rfl rfl <| .m rfl rfl <| .e rfl (.addI (b := 1) rfl rfl (by omega)) <| .e rfl (.maxN rfl rfl) <| .s rfl rfl <| .nil <| .region <| .e rfl (.addI (b := 1) rfl rfl (by omega)) <| .m rfl rfl <| .nil ?_
    exact ⟨(k + 1, (max m (x + 1))), ⟨rfl, rfl, rfl, rfl, rfl, trivial⟩, ⟨hs_1, by omega, by rw [take_succ_of hx, mxN_snoc, hm], by have := hb x (mem_of_get hx); omega⟩, (show (l.length - (k + 1)) < (l.length - k) from by omega)⟩
  · refine .exit0 <| .seq ?_
    have hmm : m = mxN l := by rw [hm, show k = l.length by omega, List.take_length]
    have hmx : mxN l ≤ 1024 := mxN_le hb
    refine .region <| .m rfl rfl <| .f rfl (.makeL (encN .i64) (0) sl27 rfl hs_1 rfl rfl (by omega) (by omega) (by omega) fun v_1 w_2 hs_2 hch_1 => ?_)
    refine .s rfl rfl <| .nil <| .seq <| .seq <| .region <| .m rfl rfl <| .e rfl (.lenL Tryz.underlying27 rfl (hv.ext hs_2.ext)) <| .m rfl rfl <| .nil <| .block <| .loop (α := Nat × List Nat) (fun (k, cur) => [(0, v), (6, v_1), (27, v), (28, (.int .i64 l.length)), (29, (.int .i64 k))]) (fun (k, cur) w' => Sat w [cL v_1 3 (encN .i64) (cur)] w' ∧ (k ≤ l.length) ∧ (cur = cntN (mxN l) (l.take k)) ∧ (cur.length = mxN l) ∧ (∀ x ∈ cur, x ≤ k)) (fun (k, cur) => l.length - k) (0, List.replicate (m) 0) ⟨rfl, rfl, rfl, rfl, rfl, trivial⟩ ⟨hs_2, Nat.zero_le _, by rw [hmm]; rfl, by rw [hmm]; simp, fun x hx => by have := List.eq_of_mem_replicate hx; omega⟩ ?_
    rintro ⟨k, cur⟩ w_3 ⟨hs_3, hk, hcur, hcl, hcb⟩
    show CW _ _ _ _ [(0, v), (6, v_1), (27, v), (28, (.int .i64 l.length)), (29, (.int .i64 k))] _
    refine .seq <| .region <| .e rfl (.lssN rfl rfl) <| .nil <| .seq <| .condD rfl (fun hc_2 => ?_) (fun hc_2 => ?_)
    · refine .skip <| .seq <| .block <| .seq ?_
      obtain ⟨x, hx⟩ : ∃ x, (l)[k]? = some x := ⟨_, List.getElem?_eq_getElem hc_2⟩
      refine .region <| .e rfl (.idxL (E := encN .i64) sl27 rfl rfl (hv.ext hs_3.ext) (by omega)) <| .e rfl (.ldL (E := encN .i64) scal3 rfl (hv.ext hs_3.ext) hx (by decide) rfl) <| .s rfl rfl <| .nil ?_
      have hxm : x < cur.length := by rw [hcl]; exact mxN_ge l x (mem_of_get hx)
      obtain ⟨y, hy⟩ : ∃ y, (cur)[x]? = some y := ⟨_, List.getElem?_eq_getElem (hxm)⟩
      have hyk := hcb y (mem_of_get hy)
      refine .region <| .m rfl rfl <| .m rfl rfl <| .e rfl (.idxL (E := encN .i64) sl27 rfl rfl (hs_3.rdL 0 rfl) (by omega)) <| .e rfl (.ldL (E := encN .i64) scal3 rfl (hs_3.rdL 0 rfl) hy (by decide) rfl) <| .e rfl (.addI (b := 1) rfl rfl (by omega)) <| .e rfl (.idxL (E := encN .i64) sl27 rfl rfl (hs_3.rdL 0 rfl) (by omega)) <| .f rfl (.setL (a := (y + 1)) 0 one3 hs_3 rfl rfl rfl rfl (by (try simp only [List.length_set]); omega) fun w_4 hs_4 hch_2 => ?_)
      refine .nil <| .region <| .e rfl (.addI (b := 1) rfl rfl (by omega)) <| .m rfl rfl <| .nil ?_
      exact ⟨(k + 1, cur.set x (y + 1)), ⟨rfl, rfl, rfl, rfl, rfl, trivial⟩, ⟨hs_4, by omega, by rw [take_succ_of hx, cntN_snoc, ← hcur, cntStep, getD_some hy], by simp only [List.length_set]; exact hcl, fun z hz => by
        rcases List.mem_or_eq_of_mem_set hz with hz | rfl
        · have := hcb z hz; omega
        · omega⟩, (show (l.length - (k + 1)) < (l.length - k) from by omega)⟩
    · refine .exit0 <| .seq ?_
      have hs_5 : Sat w [cL v_1 3 (encN .i64) (cntN (mxN l) l)] w_3 := by
        have hq : cur = cntN (mxN l) l := by rw [hcur, show k = l.length by omega, List.take_length]
        rw [← hq]; exact hs_3
      refine .region <| .m rfl rfl <| .e rfl (.lenL Tryz.underlying27 rfl (hv.ext hs_5.ext)) <| .e rfl (.build bt65 rfl ⟨rfl, rfl, trivial⟩ rfl) <| .f rfl (.box hs_5 rfl fun b_1 w_5 hs_6 hch_3 hb_1 => ?_)
      refine .s rfl rfl <| .nil <| .seq <| .region <| .m rfl rfl <| .m rfl rfl <| .f rfl (.call ent67 rfl ((lengths_ok _ (cntN (mxN l) l) _ (hs_6.rdL 0 rfl) (by rw [cntN_length]; exact hmx) (fun x hx => by have := cntN_le (mxN l) l x hx; omega)).mono fun r_1 w_6 h_1 => ?_))
      obtain ⟨lv_1, rfl, hp_1⟩ := h_1
      have hs_7 := hs_6.adds hp_1
      refine .m rfl rfl <| .e rfl (.extract rfl rfl) <| .e rfl (.extract rfl rfl) <| .e rfl (.nilCheck rfl) <| .e rfl (.fieldAddr fld65_2 rfl rfl) <| .f rfl (.storeObj one27 hs_7 (i := 1) rfl rfl rfl ((hs_7.rdL 2 rfl).oneCell) rfl fun w_7 hs_8 hch_4 => ?_)
      have hs_8d : Sat w [_, cObj b_1 65 [(.int .i64 l.length), (.int .i64 (1 : Nat)), lv_1, (.slice none 0 0), (.int .i64 (0 : Nat)), (.slice none 0 0)], _] _ := hs_8
      refine .nil <| .seq <| .seq ?_
      have hs_9 : Sat w [_, _] w_7 := hs_8d.sub ((.cons _ (.cons_cons _ (.cons_cons _ .slnil))))
      have hs_10 : Sat w [cObj b_1 65 [(.int .i64 l.length), (.int .i64 (1 : Nat)), lv_1, (.slice none 0 0), (.int .i64 (0 : Nat)), (.slice none 0 0)], cL lv_1 3 (encN .i64) (symL l)] w_7 := by
        have hq : lensN (cntN (mxN l) l) = symL l := rfl
        rw [← hq]; exact hs_9
      have hs_11 : Sat w [_, _, cL (Value.slice none 0 0) 97 (encPt) ([])] _ := hs_10.newNilL 97 encPt
      have hs_12 : Sat w [cObj b_1 65 [(.int .i64 l.length), (.int .i64 (1 : Nat)), lv_1, (.slice none 0 0), (.int .i64 (0 : Nat)), (.slice none 0 0)], cL lv_1 3 (encN .i64) (symL l), cL (Value.slice none 0 0) 97 (encPt) ([]), cParts ([])] _ := hs_11.newParts
      have hs_13 := hs_12.newNilL 3 (encN .i64)
      refine .region <| .s rfl rfl <| .nil <| .block <| .loop (α := Nat × Value × List Pt) (fun (k, bv, ps) => [(0, v), (9, (.pointer (some ⟨b_1, 0, none⟩))), (10, (.int .i64 ((64 * k) : Nat)))]) (fun (k, bv, ps) w' => Sat w [cObj b_1 65 [(.int .i64 l.length), (.int .i64 (1 : Nat)), lv_1, bv, (.int .i64 (0 : Nat)), (.slice none 0 0)], cL lv_1 3 (encN .i64) (symL l), cL bv 97 (encPt) (ps), cParts (ps), cL (Value.slice none 0 0) 3 (encN .i64) ([])] w' ∧ (64 * k ≤ l.length + 63) ∧ (ptsOf ps = pk1 l k)) (fun (k, bv, ps) => l.length + 64 - 64 * k) (0, (.slice none 0 0), []) ⟨rfl, rfl, rfl, trivial⟩ ⟨hs_13, by omega, rfl⟩ ?_
      rintro ⟨k, bv, ps⟩ w_8 ⟨hs_14, hk, hps⟩
      show CW _ _ _ _ [(0, v), (9, (.pointer (some ⟨b_1, 0, none⟩))), (10, (.int .i64 ((64 * k) : Nat)))] _
      have hpl : ps.length = k := by rw [← ptsOf_length, hps]; simp [pk1]
      refine .seq <| .seq <| .region <| .m rfl rfl <| .m rfl rfl <| .e rfl (.lenL Tryz.underlying27 rfl (hv.ext hs_14.ext)) <| .e rfl (.lssN rfl rfl) <| .nil <| .condD rfl (fun hc_3 => ?_) (fun hc_3 => ?_)
      · refine .skip <| .seq <| .block <| .seq <| .draw (fun w' => Sat w [cObj b_1 65 [(.int .i64 l.length), (.int .i64 (1 : Nat)), lv_1, bv, (.int .i64 (0 : Nat)), (.slice none 0 0)], cL lv_1 3 (encN .i64) (symL l), cL bv 97 (encPt) (ps), cParts (ps), cL (Value.slice none 0 0) 3 (encN .i64) ([])] w') (.free 0 (.free 1 (.free 2 (.free 3 (.free 4 (.free 5 (.free 6 (.free 7 (.free 8 (.free 9 (.free 10 (.free 11 (.one 12 (.free 13 (.free 14 (.free 15 (.free 16 (.free 17 (.free 18 (.free 19 .fin)))))))))))))))))))) mixed (by kernel_rfl) ?_
        have hs_15 := hs_14.drew
        refine .m rfl rfl hs_15 <| .e rfl (fun w' hS' => .nilCheck rfl) hs_15 <| .e rfl (fun w' hS' => .fieldAddr fld65_2 rfl rfl) hs_15 <| .e rfl (fun w' hS' => .load scal27 rfl (hS'.cell (i := 0) (j := 2) rfl rfl)) hs_15 <| .m rfl rfl hs_15 <| .m rfl rfl hs_15 <| .m rfl rfl hs_15 <| .e rfl (fun w' hS' => .addI (b := 64) rfl rfl (by omega)) hs_15 <| .m rfl rfl hs_15 <| .e rfl (fun w' hS' => .lenL Tryz.underlying27 rfl (hv.ext hS'.ext)) hs_15 <| .e rfl (fun w' hS' => .minN rfl rfl) hs_15 <| .e rfl (fun w' hS' => .sliceL (E := encN .i64) (a := (64 * k)) (c := (min ((64 * k) + 64) l.length)) sl27 rfl (hv.ext hS'.ext) ⟨_, rfl⟩ ⟨_, rfl⟩ (by omega) (by omega)) hs_15 <| .f rfl (.call ent68 rfl ((hencode_ok _ _ (symL l) (((l).take (min ((64 * k) + 64) l.length)).drop (64 * k)) _ (hs_15.rdL 1 rfl) (((hv.ext hs_15.ext)).sub (a := (64 * k)) (b := (min ((64 * k) + 64) l.length)) (by omega) (by omega)) (by rw [symL_length]; exact hmx) (validB_ok (symL_ok l hmx)) (by rw [chk_eq, chk_length]; omega) (fun x hx => symL_pos hmx x (by rw [chk_eq] at hx; exact chk_mem hx))).mono fun r_2 w_9 h_2 => ?_))
        obtain ⟨hv_1, rfl, hp_2⟩ := h_2
        have hs_16 := hs_15.adds hp_2
        obtain ⟨sv_1, hsv_1, hsv_1n⟩ := (hs_16.rdL 5 rfl).sv
        subst hsv_1
        have hS_1 : Sat w [_, _, _, _, _] _ := hs_16.sub ((.cons_cons _ (.cons_cons _ (.cons_cons _ (.cons_cons _ (.cons_cons _ (.cons _ .slnil)))))))
        refine ⟨hS_1, ?_⟩
        refine .m rfl rfl hS_1 <| .e rfl (fun w' hS' => .extract rfl rfl) hS_1 <| .e rfl (fun w' hS' => .extract rfl rfl) hS_1 <| .e rfl (fun w' hS' => .extract rfl rfl) hS_1 <| .e rfl (fun w' hS' => .assign rfl) hS_1 <| .e rfl (fun w' hS' => .assign rfl) hS_1 <| .e rfl (fun w' hS' => .assign rfl) hS_1 <| .fin <| .region <| .m rfl rfl <| .m rfl rfl <| .e rfl (.nilCheck rfl) <| .e rfl (.fieldAddr fld65_3 rfl rfl) <| .e rfl (.load scal63 rfl (hs_16.cell (i := 0) (j := 3) rfl rfl)) <| .m rfl rfl <| .m rfl rfl <| .e rfl (.build bt97 rfl ⟨rfl, rfl, trivial⟩ rfl) <| .f rfl (.lit1A (encPt) (⟨sv_1, (hufB (symL l) (((l).take (min ((64 * k) + 64) l.length)).drop (64 * k))).length, packB (hufB (symL l) (((l).take (min ((64 * k) + 64) l.length)).drop (64 * k)))⟩ : Pt) sl63 (by decide) (by decide) hs_16 rfl fun v_2 w_10 hs_17 hch_5 => ?_)
        refine .f rfl (.appendL 2 sl63 hs_17 rfl rfl rfl Tryz.underlying63 (hs_17.rdL 6 rfl) (by simp; omega) (by simp; omega) fun v_3 w_11 hs_18 hch_6 => ?_)
        have hs_18d : Sat w [_, _, cL v_3 97 (encPt) (ps ++ [(⟨sv_1, (hufB (symL l) (((l).take (min ((64 * k) + 64) l.length)).drop (64 * k))).length, packB (hufB (symL l) (((l).take (min ((64 * k) + 64) l.length)).drop (64 * k)))⟩ : Pt)]), _, _, _] _ := hs_18.drop 6
        refine .e rfl (.nilCheck rfl) <| .e rfl (.fieldAddr fld65_3 rfl rfl) <| .f rfl (.storeObj one63 hs_18d (i := 0) rfl rfl rfl ((hs_18d.rdL 2 rfl).oneCell) rfl fun w_12 hs_19 hch_7 => ?_)
        refine .nil <| .region <| .m rfl rfl <| .e rfl (.addI (b := 64) rfl rfl (by omega)) <| .s rfl rfl <| .nil ?_
        have hs_20 : Sat w [cObj b_1 65 [(.int .i64 l.length), (.int .i64 (1 : Nat)), lv_1, v_3, (.int .i64 (0 : Nat)), (.slice none 0 0)], cL lv_1 3 (encN .i64) (symL l), cL v_3 97 (encPt) (ps ++ [(⟨sv_1, (hufB (symL l) (((l).take (min ((64 * k) + 64) l.length)).drop (64 * k))).length, packB (hufB (symL l) (((l).take (min ((64 * k) + 64) l.length)).drop (64 * k)))⟩ : Pt)]), cParts (ps ++ [⟨sv_1, (hufB (symL l) (((l).take (min ((64 * k) + 64) l.length)).drop (64 * k))).length, packB (hufB (symL l) (((l).take (min ((64 * k) + 64) l.length)).drop (64 * k)))⟩]), cL (Value.slice none 0 0) 3 (encN .i64) ([])] w_12 := Sat.pushParts (A := [cObj b_1 65 [(.int .i64 l.length), (.int .i64 (1 : Nat)), lv_1, v_3, (.int .i64 (0 : Nat)), (.slice none 0 0)], cL lv_1 3 (encN .i64) (symL l), cL v_3 97 (encPt) (ps ++ [(⟨sv_1, (hufB (symL l) (((l).take (min ((64 * k) + 64) l.length)).drop (64 * k))).length, packB (hufB (symL l) (((l).take (min ((64 * k) + 64) l.length)).drop (64 * k)))⟩ : Pt)]), cParts (ps), cL (Value.slice none 0 0) 3 (encN .i64) ([])]) hs_19 3 rfl
        exact ⟨(k + 1, v_3, ps ++ [⟨sv_1, (hufB (symL l) (((l).take (min ((64 * k) + 64) l.length)).drop (64 * k))).length, packB (hufB (symL l) (((l).take (min ((64 * k) + 64) l.length)).drop (64 * k)))⟩]), ⟨rfl, rfl, rfl, trivial⟩, ⟨hs_20, by omega, by rw [ptsOf_snoc, hps, pk1_succ, ← chk_eq]⟩, (show (l.length + 64 - 64 * (k + 1)) < (l.length + 64 - 64 * k) from by omega)⟩
      · refine .exit0 <| .seq <| .region <| .m rfl rfl <| .s rfl rfl <| .nil <| .ret ?_
        show PostK _ _ _ _ _ _
        refine post1 rfl rfl ?_
        have hs_21 : Sat w [cObj b_1 65 [(.int .i64 l.length), (.int .i64 (1 : Nat)), lv_1, bv, (.int .i64 (0 : Nat)), (.slice none 0 0)], _, cL bv 97 (encPt) (ps), cParts (ps), _] w_8 := hs_14.sub ((.cons_cons _ (.cons_cons _ (.cons_cons _ (.cons_cons _ (.cons_cons _ .slnil))))))
        have hkn : k = nbk l.length := by unfold nbk; omega
        exact ⟨_, _, _, ps, rfl, by rw [hps, hkn], hs_21⟩
theorem payload_ok (g n kind : Nat) (lv bv : Value) (lens : List Nat) (ps : List Pt) (w : World) (h0 : w.cell? ⟨g, 0, none⟩ = some (.int .i64 (n : Int))) (h1 : w.cell? ⟨g, 1, none⟩ = some (.int .i64 (kind : Int))) (h2 : w.cell? ⟨g, 2, none⟩ = some lv) (h3 : w.cell? ⟨g, 3, none⟩ = some bv) (hl : RdL w lv (encN .i64) lens) (hb : RdL w bv encPt ps) (hall : ∀ p ∈ ps, RdL w p.sv.val (encN .u8) p.bys) (hn : n ≤ 4096) (hk : kind ≤ 1) (hll : lens.length ≤ 1024) (hpl : ps.length ≤ 100) (hpb : ∀ p ∈ ps, p.bys.length ≤ 20000 ∧ p.bits ≤ 1000000) :
    CallsV Tryz.prog 30 [(.pointer (some ⟨g, 0, none⟩))] w fun r w' => Sat w [cL r 5 (encN .u8) (payl n kind lens (ptsOf ps))] w' := by
  have hs0 := Sat.start w
  refine callsV_of Tryz.func30 rfl rfl ?_
  refine .seq <| .region <| .s rfl rfl <| .nil <| .seq ?_
  have hu1 := uv_le n
  have hu2 := uv_le kind
  have hu3 := uv_le lens.length
  have hhd := hdP_length n kind lens
  refine .region <| .m rfl rfl <| .e rfl (.nilCheck rfl) <| .e rfl (.fieldAddr fld65_0 rfl rfl) <| .e rfl (.load scal3 rfl (hs0.ext _ _ h0)) <| .e rfl (.convK (by rw [Tryz.underlying3]; rfl) Tryz.underlying56 rfl (wrap_u rfl (by (try simp only [IntKind.bits]); omega))) <| .f rfl (.call ent39 rfl ((put_ok (Value.slice none 0 0) ([]) (n) _ (RdL.nil _ _) (by simp) (by omega)).mono fun r_1 w_1 h_1 => ?_))
  have hp_1 := h_1
  have hs_1 := hs0.adds hp_1
  refine .s rfl rfl <| .nil <| .seq <| .region <| .m rfl rfl <| .m rfl rfl <| .e rfl (.nilCheck rfl) <| .e rfl (.fieldAddr fld65_1 rfl rfl) <| .e rfl (.load scal3 rfl (hs_1.ext _ _ h1)) <| .e rfl (.convK (by rw [Tryz.underlying3]; rfl) Tryz.underlying56 rfl (wrap_u rfl (by (try simp only [IntKind.bits]); omega))) <| .f rfl (.call ent39 rfl ((put_ok r_1 (uv (n)) (kind) _ (hs_1.rdL 0 rfl) (by omega) (by omega)).mono fun r_2 w_2 h_2 => ?_))
  have hp_2 := h_2
  have hs_2 := hs_1.adds hp_2
  refine .s rfl rfl <| .nil <| .seqMid (fun L' w' => ∃ (ov : Value), Weak [(0, (.pointer (some ⟨g, 0, none⟩))), (3, ov)] L' ∧ Sat w [cL ov 5 (encN .u8) (hdP n kind lens)] w') ?_ ?_
  · refine .seq <| .region <| .m rfl rfl <| .e rfl (.nilCheck rfl) <| .e rfl (.fieldAddr fld65_1 rfl rfl) <| .e rfl (.load scal3 rfl (hs_2.ext _ _ h1)) <| .e rfl (.eqlN (b := 1) rfl rfl) <| .nil <| .condD rfl (fun hc_1 => ?_) (fun hc_1 => ?_)
    · refine .seq <| .region <| .m rfl rfl <| .m rfl rfl <| .e rfl (.nilCheck rfl) <| .e rfl (.fieldAddr fld65_2 rfl rfl) <| .e rfl (.load scal27 rfl (hs_2.ext _ _ h2)) <| .e rfl (.lenL Tryz.underlying27 rfl (hl.ext hs_2.ext)) <| .e rfl (.convK (by rw [Tryz.underlying3]; rfl) Tryz.underlying56 rfl (wrap_u rfl (by (try simp only [IntKind.bits]); omega))) <| .f rfl (.call ent39 rfl ((put_ok r_2 (uv (n) ++ uv (kind)) (lens.length) _ (hs_2.rdL 1 rfl) (by simp only [List.length_append]; omega) (by omega)).mono fun r_3 w_3 h_3 => ?_))
      have hp_3 := h_3
      have hs_3 : Sat w [_, _, cL r_3 5 (encN .u8) (uv (n) ++ uv (kind) ++ uv (lens.length))] _ := hs_2.adds hp_3
      refine .s rfl rfl <| .nil <| .seq <| .region <| .m rfl rfl <| .e rfl (.nilCheck rfl) <| .e rfl (.fieldAddr fld65_2 rfl rfl) <| .e rfl (.load scal27 rfl (hs_3.ext _ _ h2)) <| .e rfl (.lenL Tryz.underlying27 rfl (hl.ext hs_3.ext)) <| .m rfl rfl <| .nil <| .block ?_
      have hs_4 : Sat w [_] w_3 := hs_3.sub ((.cons _ (.cons _ (.cons_cons _ .slnil))))
      have hs_5 : Sat w [cL r_3 5 (encN .u8) (uv n ++ uv kind ++ uv lens.length ++ (lens.take (0)).map (· % 2 ^ 8))] w_3 := by
        have hq : uv (n) ++ uv (kind) ++ uv (lens.length) = uv n ++ uv kind ++ uv lens.length ++ (lens.take (0)).map (· % 2 ^ 8) := by simp
        rw [← hq]; exact hs_4
      refine .loop (α := Nat × Value) (fun (k, ov) => [(0, (.pointer (some ⟨g, 0, none⟩))), (3, ov), (37, lv), (38, (.int .i64 lens.length)), (39, (.int .i64 k))]) (fun (k, ov) w' => Sat w [cL ov 5 (encN .u8) (uv n ++ uv kind ++ uv lens.length ++ (lens.take (k)).map (· % 2 ^ 8))] w' ∧ (k ≤ lens.length)) (fun (k, ov) => lens.length - k) (0, r_3) ⟨rfl, rfl, rfl, rfl, rfl, trivial⟩ ⟨hs_5, Nat.zero_le _⟩ ?_
      rintro ⟨k, ov⟩ w_4 ⟨hs_6, hkl⟩
      show CW _ _ _ _ [(0, (.pointer (some ⟨g, 0, none⟩))), (3, ov), (37, lv), (38, (.int .i64 lens.length)), (39, (.int .i64 k))] _
      refine .seq <| .region <| .e rfl (.lssN rfl rfl) <| .nil <| .seq <| .condD rfl (fun hc_2 => ?_) (fun hc_2 => ?_)
      · refine .skip <| .seq <| .block <| .seq ?_
        obtain ⟨x, hx⟩ : ∃ x, (lens)[k]? = some x := ⟨_, List.getElem?_eq_getElem hc_2⟩
        refine .region <| .e rfl (.idxL (E := encN .i64) sl27 rfl rfl (hl.ext hs_6.ext) (by omega)) <| .e rfl (.ldL (E := encN .i64) scal3 rfl (hl.ext hs_6.ext) hx (by decide) rfl) <| .s rfl rfl <| .nil <| .region <| .m rfl rfl <| .m rfl rfl <| .e rfl (.convN (by rw [Tryz.underlying3]; rfl) Tryz.underlying5 rfl rfl) <| .f rfl (.lit1 (encN .u8) (x % 2 ^ 8) sl22 rfl hs_6 rfl fun v_1 w_5 hs_7 hch_1 => ?_)
        refine .f rfl (.appendL 0 sl22 hs_7 rfl rfl rfl Tryz.underlying22 (hs_7.rdL 1 rfl) (by simp only [List.length_append, List.length_map, List.length_take, List.length_cons, List.length_nil]; omega) (by simp only [List.length_append, List.length_map, List.length_take, List.length_cons, List.length_nil]; omega) fun v_2 w_6 hs_8 hch_2 => ?_)
        have hs_8d : Sat w [cL v_2 5 (encN .u8) (uv n ++ uv kind ++ uv lens.length ++ (lens.take (k)).map (· % 2 ^ 8) ++ [(x % 2 ^ 8)])] _ := hs_8.drop 1
        refine .s rfl rfl <| .nil <| .region <| .e rfl (.addI (b := 1) rfl rfl (by omega)) <| .m rfl rfl <| .nil ?_
        have hs_9 : Sat w [_] w_6 := hs_8d.sub ((.cons_cons _ .slnil))
        have hs_10 : Sat w [cL v_2 5 (encN .u8) (uv n ++ uv kind ++ uv lens.length ++ (lens.take (k + 1)).map (· % 2 ^ 8))] w_6 := by
          have hq : uv n ++ uv kind ++ uv lens.length ++ (lens.take (k)).map (· % 2 ^ 8) ++ [(x % 2 ^ 8)] = uv n ++ uv kind ++ uv lens.length ++ (lens.take (k + 1)).map (· % 2 ^ 8) := by rw [take_succ_of hx]; simp
          rw [← hq]; exact hs_9
        exact ⟨(k + 1, v_2), ⟨rfl, rfl, rfl, rfl, rfl, trivial⟩, ⟨hs_10, by omega⟩, (show (lens.length - (k + 1)) < (lens.length - k) from by omega)⟩
      · refine .exit0 ?_
        have hs_11 : Sat w [cL ov 5 (encN .u8) (uv n ++ uv kind ++ uv lens.length ++ (lens.take (k)).map (· % 2 ^ 8))] w_4 := hs_6.sub ((.cons_cons _ .slnil))
        have hs_12 : Sat w [cL ov 5 (encN .u8) (hdP n kind lens)] w_4 := by
          have hq : uv n ++ uv kind ++ uv lens.length ++ (lens.take (k)).map (· % 2 ^ 8) = hdP n kind lens := by rw [hdP, if_pos (hc_1), show k = lens.length by omega, List.take_length]; simp
          rw [← hq]; exact hs_11
        exact ⟨ov, ⟨rfl, rfl, trivial⟩, hs_12⟩
    · refine .skip ?_
      have hs_13 : Sat w [_] w_2 := hs_2.sub ((.cons _ (.cons_cons _ .slnil)))
      have hs_14 : Sat w [cL r_2 5 (encN .u8) (hdP n kind lens)] w_2 := by
        have hq : uv (n) ++ uv (kind) = hdP n kind lens := by rw [hdP, if_neg hc_1]; simp
        rw [← hq]; exact hs_13
      exact ⟨r_2, ⟨rfl, rfl, trivial⟩, hs_14⟩
  · rintro L' w_7 ⟨ov, hw_1, hs_15⟩
    refine .weaken _ hw_1 <| .seq <| .seq <| .region <| .m rfl rfl <| .e rfl (.nilCheck rfl) <| .e rfl (.fieldAddr fld65_3 rfl rfl) <| .e rfl (.load scal63 rfl (hs_15.ext _ _ h3)) <| .e rfl (.lenL Tryz.underlying63 rfl (hb.ext hs_15.ext)) <| .m rfl rfl <| .nil <| .block ?_
    have hs_16 : Sat w [cL ov 5 (encN .u8) (hdP n kind lens ++ pld kind ((ptsOf ps).take (0)))] w_7 := by
      have hq : hdP n kind lens = hdP n kind lens ++ pld kind ((ptsOf ps).take (0)) := by simp [pld]
      rw [← hq]; exact hs_15
    refine .loop (α := Nat × Value) (fun (k, ov) => [(0, (.pointer (some ⟨g, 0, none⟩))), (3, ov), (52, bv), (53, (.int .i64 ps.length)), (54, (.int .i64 k))]) (fun (k, ov) w' => Sat w [cL ov 5 (encN .u8) (hdP n kind lens ++ pld kind ((ptsOf ps).take (k)))] w' ∧ (k ≤ ps.length) ∧ ((pld kind ((ptsOf ps).take k)).length ≤ 20010 * k)) (fun (k, ov) => ps.length - k) (0, ov) ⟨rfl, rfl, rfl, rfl, rfl, trivial⟩ ⟨hs_16, Nat.zero_le _, by simp [pld]⟩ ?_
    rintro ⟨k, ov⟩ w_8 ⟨hs_17, hkl, hpk⟩
    show CW _ _ _ _ [(0, (.pointer (some ⟨g, 0, none⟩))), (3, ov), (52, bv), (53, (.int .i64 ps.length)), (54, (.int .i64 k))] _
    refine .seq <| .region <| .e rfl (.lssN rfl rfl) <| .nil <| .seq <| .condD rfl (fun hc_3 => ?_) (fun hc_3 => ?_)
    · refine .skip <| .seq <| .block <| .seq ?_
      obtain ⟨x, hx⟩ : ∃ x, (ps)[k]? = some x := ⟨_, List.getElem?_eq_getElem hc_3⟩
      refine .region <| .e rfl (.idxL (E := encPt) sl63 rfl rfl (hb.ext hs_17.ext) (by omega)) <| .e rfl (.ldAgg (E := encPt) agg97 rfl (hb.ext hs_17.ext) hx (by decide)) <| .f rfl (.alloc hs_17 zero97 fun b_1 w_9 hs_18 hch_3 hb_1 => ?_)
      refine .f rfl (.storeObjA (vs := (encPt).enc x) agg97 hs_18 (i := 1) rfl rfl rfl rfl ((encPt).one _) fun w_10 hs_19 hch_4 => ?_)
      refine .nil <| .seq <| .seq ?_
      have hxb := hpb x (mem_of_get hx)
      have hu5 := uv_le x.bys.length
      have hu6 := uv_le x.bits
      refine .region <| .m rfl rfl <| .e rfl (.nilCheck rfl) <| .e rfl (.fieldAddr fld65_1 rfl rfl) <| .e rfl (.load scal3 rfl (hs_19.ext _ _ h1)) <| .e rfl (.eqlN (b := 0) rfl rfl) <| .nil <| .condD rfl (fun hc_4 => ?_) (fun hc_4 => ?_)
      · refine .region <| .m rfl rfl <| .e rfl (.fieldAddr fld97_0 rfl rfl) <| .e rfl (.load scal22 rfl (hs_19.cell (i := 1) (j := 0) rfl rfl)) <| .e rfl (.lenL Tryz.underlying22 rfl ((hall x (mem_of_get hx)).ext hs_19.ext)) <| .e rfl (.convK (by rw [Tryz.underlying3]; rfl) Tryz.underlying56 rfl (wrap_u rfl (by (try simp only [IntKind.bits]); omega))) <| .f rfl (.call ent39 rfl ((put_ok ov (hdP n kind lens ++ pld kind ((ptsOf ps).take (k))) (x.bys.length) _ (hs_19.rdL 0 rfl) (by simp only [List.length_append]; omega) (by omega)).mono fun r_4 w_11 h_4 => ?_))
        have hp_4 := h_4
        have hs_20 : Sat w [_, _, cL r_4 5 (encN .u8) (hdP n kind lens ++ pld kind ((ptsOf ps).take (k)) ++ uv (x.bys.length))] _ := hs_19.adds hp_4
        refine .s rfl rfl <| .nil <| .region <| .m rfl rfl <| .e rfl (.fieldAddr fld97_0 rfl rfl) <| .e rfl (.load scal22 rfl (hs_20.cell (i := 1) (j := 0) rfl rfl)) <| .f rfl (.appendL 2 sl22 hs_20 rfl rfl rfl Tryz.underlying22 ((hall x (mem_of_get hx)).ext hs_20.ext) (by simp only [List.length_append]; omega) (by simp only [List.length_append]; omega) fun v_3 w_12 hs_21 hch_5 => ?_)
        refine .s rfl rfl <| .nil <| .region <| .e rfl (.addI (b := 1) rfl rfl (by omega)) <| .m rfl rfl <| .nil ?_
        have hs_22 : Sat w [_] w_12 := hs_21.sub ((.cons _ (.cons _ (.cons_cons _ .slnil))))
        have hs_23 : Sat w [cL v_3 5 (encN .u8) (hdP n kind lens ++ pld kind ((ptsOf ps).take (k + 1)))] w_12 := by
          have hq : hdP n kind lens ++ pld kind ((ptsOf ps).take (k)) ++ uv (x.bys.length) ++ x.bys = hdP n kind lens ++ pld kind ((ptsOf ps).take (k + 1)) := by rw [take_succ_of (ptsOf_get hx), pld_snoc, pld1]; simp [show kind = 0 from hc_4]
          rw [← hq]; exact hs_22
        exact ⟨(k + 1, v_3), ⟨rfl, rfl, rfl, rfl, rfl, trivial⟩, ⟨hs_23, by omega, by rw [take_succ_of (ptsOf_get hx), pld_snoc, pld1]; simp only [List.length_append, if_pos hc_4]; omega⟩, (show (ps.length - (k + 1)) < (ps.length - k) from by omega)⟩
      · refine .region <| .m rfl rfl <| .e rfl (.fieldAddr fld97_1 rfl rfl) <| .e rfl (.load scal3 rfl (hs_19.cell (i := 1) (j := 1) rfl rfl)) <| .e rfl (.convK (by rw [Tryz.underlying3]; rfl) Tryz.underlying56 rfl (wrap_u rfl (by (try simp only [IntKind.bits]); omega))) <| .f rfl (.call ent39 rfl ((put_ok ov (hdP n kind lens ++ pld kind ((ptsOf ps).take (k))) (x.bits) _ (hs_19.rdL 0 rfl) (by simp only [List.length_append]; omega) (by omega)).mono fun r_5 w_13 h_5 => ?_))
        have hp_5 := h_5
        have hs_24 := hs_19.adds hp_5
        refine .s rfl rfl <| .nil <| .region <| .m rfl rfl <| .e rfl (.fieldAddr fld97_0 rfl rfl) <| .e rfl (.load scal22 rfl (hs_24.cell (i := 1) (j := 0) rfl rfl)) <| .f rfl (.appendL 2 sl22 hs_24 rfl rfl rfl Tryz.underlying22 ((hall x (mem_of_get hx)).ext hs_24.ext) (by simp only [List.length_append]; omega) (by simp only [List.length_append]; omega) fun v_4 w_14 hs_25 hch_6 => ?_)
        refine .s rfl rfl <| .nil <| .region <| .e rfl (.addI (b := 1) rfl rfl (by omega)) <| .m rfl rfl <| .nil ?_
        have hs_26 : Sat w [_] w_14 := hs_25.sub ((.cons _ (.cons _ (.cons_cons _ .slnil))))
        have hs_27 : Sat w [cL v_4 5 (encN .u8) (hdP n kind lens ++ pld kind ((ptsOf ps).take (k + 1)))] w_14 := by
          have hq : hdP n kind lens ++ pld kind ((ptsOf ps).take (k)) ++ uv (x.bits) ++ x.bys = hdP n kind lens ++ pld kind ((ptsOf ps).take (k + 1)) := by rw [take_succ_of (ptsOf_get hx), pld_snoc, pld1]; simp [hc_4]
          rw [← hq]; exact hs_26
        exact ⟨(k + 1, v_4), ⟨rfl, rfl, rfl, rfl, rfl, trivial⟩, ⟨hs_27, by omega, by rw [take_succ_of (ptsOf_get hx), pld_snoc, pld1]; simp only [List.length_append, if_neg hc_4]; omega⟩, (show (ps.length - (k + 1)) < (ps.length - k) from by omega)⟩
    · refine .exit0 <| .seq <| .region <| .m rfl rfl <| .s rfl rfl <| .nil <| .ret ?_
      show PostK _ _ _ _ _ _
      refine post1 rfl rfl ?_
      have hs_28 : Sat w [cL ov 5 (encN .u8) (payl n kind lens (ptsOf ps))] w_8 := by
        have hq : hdP n kind lens ++ pld kind ((ptsOf ps).take (k)) = payl n kind lens (ptsOf ps) := by rw [payl, show k = (ptsOf ps).length by rw [ptsOf_length]; omega, List.take_length]
        rw [← hq]; exact hs_17
      exact hs_28
end Go.Proofs.YtecfgjdpghddgaaGreat
namespace Go.Proofs.YtecfgjdpghddgaaGreat
open Go.RowKit Go.Kw
set_option maxRecDepth 100000
theorem build_range (v : Value) (z : List Int) (w : World) (hv : RdL w v (Kw.encI .i64) z) (hz : z.length ≤ 4096) (hbad : ∃ x ∈ z, x < 0 ∨ 1024 ≤ x) :
    CallsV Tryz.prog 13 [v] w fun r w' => r = .tuple #[.pointer none, .int .i64 8] ∧ Sat w [] w' := by
  have hs0 := Sat.start w
  refine callsV_of Tryz.func13 rfl rfl ?_
  refine .seq <| .region <| .s rfl rfl <| .s rfl rfl <| .nil <| .seq <| .seq <| .region <| .m rfl rfl <| .e rfl (.lenL Tryz.underlying27 rfl (hv.ext hs0.ext)) <| .e rfl (.gtrN (b := 4096) rfl rfl) <| .nil <| .condF rfl (decide_eq_false (by omega)) <| .skip <| .seq <| .seq <| .region <| .m rfl rfl <| .e rfl (.lenL Tryz.underlying27 rfl (hv.ext hs0.ext)) <| .m rfl rfl <| .nil <| .block <| .loop (α := Nat) (fun k => [(0, v), (11, v), (12, (.int .i64 z.length)), (13, (.int .i64 k))]) (fun k w' => Sat w [] w' ∧ (k ≤ z.length) ∧ (∀ x ∈ z.take k, ¬ (x < 0 ∨ 1024 ≤ x))) (fun k => z.length - k) 0 ⟨rfl, rfl, rfl, rfl, trivial⟩ ⟨hs0, Nat.zero_le _, by simp⟩ ?_
  rintro k w_1 ⟨hs_1, hk, hgd⟩
  show CW _ _ _ _ [(0, v), (11, v), (12, (.int .i64 z.length)), (13, (.int .i64 k))] _
  refine .seq <| .region <| .e rfl (.lssN rfl rfl) <| .nil <| .seq <| .condD rfl (fun hc_1 => ?_) (fun hc_1 => ?_)
  · refine .skip <| .seq <| .block <| .seq ?_
    obtain ⟨x, hx⟩ : ∃ x, (z)[k]? = some x := ⟨_, List.getElem?_eq_getElem hc_1⟩
    refine .region <| .e rfl (.idxL (E := Kw.encI .i64) sl27 rfl rfl (hv.ext hs_1.ext) (by omega)) <| .e rfl (.ldL (E := Kw.encI .i64) scal3 rfl (hv.ext hs_1.ext) hx (by decide) rfl) <| .s rfl rfl <| .nil <| .seq <| .mid (fun L' w' => Weak [(0, v), (5, (.int .i64 (x))), (11, v), (12, (.int .i64 z.length)), (13, (.int .i64 k)), (14, (.bool (decide (k < z.length)))), (22, (.bool (decide (((x : Int) < (0 : Int)) ∨ ((1024 : Int) ≤ (x : Int))))))] L' ∧ Sat w [] w') ?_ ?_
    · refine .region <| .m rfl rfl <| .e rfl (.lss rfl rfl) <| .m rfl rfl ?_
      by_cases hg_1 : (x : Int) < (0 : Int)
      · refine .no rfl rfl rfl (decide_eq_true hg_1) rfl <| .no rfl rfl rfl (decide_eq_true hg_1) rfl <| .e rfl (.pickY rfl (decide_eq_true hg_1) rfl) <| .nil ?_
        exact ⟨⟨rfl, rfl, rfl, rfl, rfl, rfl, congrArg some (congrArg Value.bool (by simp [hg_1])), trivial⟩, hs_1⟩
      · refine .yes rfl rfl rfl (decide_eq_false hg_1) <| .m rfl rfl <| .yes rfl rfl rfl (decide_eq_false hg_1) <| .e rfl (.geq rfl rfl) <| .e rfl (.pickN rfl (decide_eq_false hg_1) rfl) <| .nil ?_
        exact ⟨⟨rfl, rfl, rfl, rfl, rfl, rfl, congrArg some (congrArg Value.bool (by simp [hg_1])), trivial⟩, hs_1⟩
    · rintro L' w_2 ⟨hw_1, hs_2⟩
      refine .weaken _ hw_1 <| .condD rfl (fun hc_2 => ?_) (fun hc_2 => ?_)
      · refine .seq <| .region <| .s rfl rfl <| .s rfl rfl <| .nil <| .ret ?_
        show PostK _ _ _ _ _ _
        refine post2 rfl rfl rfl ?_
        exact ⟨rfl, hs_2⟩
      · refine .skip <| .region <| .e rfl (.addI (b := 1) rfl rfl (by omega)) <| .m rfl rfl <| .nil ?_
        exact ⟨k + 1, ⟨rfl, rfl, rfl, rfl, trivial⟩, ⟨hs_2, by omega, all_take hgd hx (by simpa using hc_2)⟩, (show (z.length - (k + 1)) < (z.length - k) from by omega)⟩
  · refine .exit0 <| .seq ?_
    obtain ⟨x, hx, hxb⟩ := hbad
    rw [show k = z.length by omega, List.take_length] at hgd
    exact absurd hxb (hgd x hx)
theorem build_ok (v : Value) (l : List Nat) (w : World) (hv : RdL w v (encN .i64) l) (hl : OkN l) :
    CallsV Tryz.prog 13 [v] w fun r w' => ∃ g lv bv ps, r = .tuple #[.pointer (some ⟨g, 0, none⟩), .int .i64 0] ∧ ptsOf ps = ptsK l ∧ Sat w [cObj g 65 [(.int .i64 l.length), (.int .i64 (kindN l)), lv, bv, (.int .i64 (0 : Nat)), (.slice none 0 0)], cL lv 3 (encN .i64) (lensK l), cL bv 97 (encPt) (ps), cParts (ps), cL (Value.slice none 0 0) 3 (encN .i64) ([])] w' := by
  have hs0 := Sat.start w
  refine callsV_of Tryz.func13 rfl rfl ?_
  refine .seq ?_
  have hlen := hl.len
  refine .region <| .s rfl rfl <| .s rfl rfl <| .nil <| .seq <| .seq <| .region <| .m rfl rfl <| .e rfl (.lenL Tryz.underlying27 rfl (hv.ext hs0.ext)) <| .e rfl (.gtrN (b := 4096) rfl rfl) <| .nil <| .condF rfl (decide_eq_false (by omega)) <| .skip <| .seq <| .seq <| .region <| .m rfl rfl <| .e rfl (.lenL Tryz.underlying27 rfl (hv.ext hs0.ext)) <| .m rfl rfl <| .nil <| .block <| .loop (α := Nat) (fun k => [(0, v), (11, v), (12, (.int .i64 l.length)), (13, (.int .i64 k))]) (fun k w' => Sat w [] w' ∧ (k ≤ l.length)) (fun k => l.length - k) 0 ⟨rfl, rfl, rfl, rfl, trivial⟩ ⟨hs0, Nat.zero_le _⟩ ?_
  rintro k w_1 ⟨hs_1, hk⟩
  show CW _ _ _ _ [(0, v), (11, v), (12, (.int .i64 l.length)), (13, (.int .i64 k))] _
  refine .seq <| .region <| .e rfl (.lssN rfl rfl) <| .nil <| .seq <| .condD rfl (fun hc_1 => ?_) (fun hc_1 => ?_)
  · refine .skip <| .seq <| .block <| .seq ?_
    obtain ⟨x, hx⟩ : ∃ x, (l)[k]? = some x := ⟨_, List.getElem?_eq_getElem hc_1⟩
    refine .region <| .e rfl (.idxL (E := encN .i64) sl27 rfl rfl (hv.ext hs_1.ext) (by omega)) <| .e rfl (.ldL (E := encN .i64) scal3 rfl (hv.ext hs_1.ext) hx (by decide) rfl) <| .s rfl rfl <| .nil <| .seq <| .mid (fun L' w' => Weak [(0, v), (5, (.int .i64 x)), (11, v), (12, (.int .i64 l.length)), (13, (.int .i64 k)), (14, (.bool (decide (k < l.length)))), (22, (.bool (decide ((x < 0) ∨ (1024 ≤ x)))))] L' ∧ Sat w [] w') ?_ ?_
    · refine .region <| .m rfl rfl <| .e rfl (.lssN (b := 0) rfl rfl) <| .m rfl rfl ?_
      by_cases hg_1 : x < 0
      · refine .no rfl rfl rfl (decide_eq_true hg_1) rfl <| .no rfl rfl rfl (decide_eq_true hg_1) rfl <| .e rfl (.pickY rfl (decide_eq_true hg_1) rfl) <| .nil ?_
        exact ⟨⟨rfl, rfl, rfl, rfl, rfl, rfl, congrArg some (congrArg Value.bool (by simp [hg_1])), trivial⟩, hs_1⟩
      · refine .yes rfl rfl rfl (decide_eq_false hg_1) <| .m rfl rfl <| .yes rfl rfl rfl (decide_eq_false hg_1) <| .e rfl (.geqN (b := 1024) rfl rfl) <| .e rfl (.pickN rfl (decide_eq_false hg_1) rfl) <| .nil ?_
        exact ⟨⟨rfl, rfl, rfl, rfl, rfl, rfl, congrArg some (congrArg Value.bool (by simp [hg_1])), trivial⟩, hs_1⟩
    · rintro L' w_2 ⟨hw_1, hs_2⟩
      refine .weaken _ hw_1 <| .condF rfl (decide_eq_false (by have := hl.lt x (mem_of_get hx); omega)) <| .skip <| .region <| .e rfl (.addI (b := 1) rfl rfl (by omega)) <| .m rfl rfl <| .nil ?_
      exact ⟨k + 1, ⟨rfl, rfl, rfl, rfl, trivial⟩, ⟨hs_2, by omega⟩, (show (l.length - (k + 1)) < (l.length - k) from by omega)⟩
  · refine .exit0 <| .seq <| .region <| .m rfl rfl <| .f rfl (.call ent35 rfl ((packed_ok _ (l) _ (hv.ext hs_1.ext) (hl.len) (hl.lt)).mono fun r_1 w_3 h_1 => ?_))
    obtain ⟨g_1, lv_1, bv_1, ps_1, rfl, hps_1, hp_1⟩ := h_1
    have hs_3 := hs_1.adds hp_1
    refine .m rfl rfl <| .f rfl (.call ent36 rfl ((coded_ok _ (l) _ (hv.ext hs_3.ext) (hl.len) (hl.lt)).mono fun r_2 w_4 h_2 => ?_))
    obtain ⟨g_2, lv_2, bv_2, ps_2, rfl, hps_2, hp_2⟩ := h_2
    have hs_4 := hs_3.adds hp_2
    refine .s rfl rfl <| .s rfl rfl <| .nil <| .seq <| .seq ?_
    have hb0 := pk0_b hps_1 hl.len
    have hb1 := pk1_b hps_2 hl.len hl.mx
    refine .region <| .m rfl rfl <| .f rfl (.call ent30 rfl ((payload_ok g_2 ((l).length) 1 lv_2 bv_2 (symL l) ps_2 _ (hs_4.cell (i := 5) (j := 0) rfl rfl) (hs_4.cell (i := 5) (j := 1) rfl rfl) (hs_4.cell (i := 5) (j := 2) rfl rfl) (hs_4.cell (i := 5) (j := 3) rfl rfl) (hs_4.rdL 6 rfl) (hs_4.rdL 7 rfl) (hs_4.rdParts 8 rfl) (hl.len) (Nat.le_refl _) (by rw [symL_length]; exact hl.mx) (hb1.1) (hb1.2)).mono fun r_3 w_5 h_3 => ?_))
    have hp_3 := h_3
    have hs_5 : Sat w [_, _, _, _, _, _, _, _, _, _, cL r_3 5 (encN .u8) (payl ((l).length) 1 (symL l) (ptsOf ps_2))] _ := hs_4.adds hp_3
    refine .e rfl (.lenL Tryz.underlying22 rfl (hs_5.rdL 10 rfl)) <| .m rfl rfl <| .f rfl (.call ent30 rfl ((payload_ok g_1 ((l).length) 0 lv_1 bv_1 ([]) ps_1 _ (hs_5.cell (i := 0) (j := 0) rfl rfl) (hs_5.cell (i := 0) (j := 1) rfl rfl) (hs_5.cell (i := 0) (j := 2) rfl rfl) (hs_5.cell (i := 0) (j := 3) rfl rfl) (hs_5.rdL 1 rfl) (hs_5.rdL 2 rfl) (hs_5.rdParts 3 rfl) (hl.len) (by omega) (by simp) (hb0.1) (hb0.2)).mono fun r_4 w_6 h_4 => ?_))
    have hp_4 := h_4
    have hs_6 := hs_5.adds hp_4
    refine .e rfl (.lenL Tryz.underlying22 rfl (hs_6.rdL 11 rfl)) <| .e rfl (.lssN rfl rfl) <| .nil <| .condD rfl (fun hc_2 => ?_) (fun hc_2 => ?_)
    · refine .seq <| .region <| .m rfl rfl <| .s rfl rfl <| .s rfl rfl <| .nil <| .ret ?_
      show PostK _ _ _ _ _ _
      refine post2 rfl rfl rfl ?_
      have hs_7 : Sat w [_, _, _, _, _] w_6 := hs_6.sub ((.cons _ (.cons _ (.cons _ (.cons _ (.cons _ (.cons_cons _ (.cons_cons _ (.cons_cons _ (.cons_cons _ (.cons_cons _ (.cons _ (.cons _ .slnil)))))))))))))
      obtain ⟨hk1, hk2, hk3⟩ := kindN_one (l := l) (by have hc := hc_2; rw [hps_1, hps_2] at hc; simpa [plK] using hc)
      refine ⟨g_2, lv_2, bv_2, ps_2, rfl, by rw [hps_2, hk3], ?_⟩
      rw [hk1, hk2]
      exact hs_7
    · refine .skip <| .seq <| .region <| .m rfl rfl <| .s rfl rfl <| .s rfl rfl <| .nil <| .ret ?_
      show PostK _ _ _ _ _ _
      refine post2 rfl rfl rfl ?_
      have hs_8 : Sat w [_, _, _, _, _] w_6 := hs_6.sub ((.cons_cons _ (.cons_cons _ (.cons_cons _ (.cons_cons _ (.cons_cons _ (.cons _ (.cons _ (.cons _ (.cons _ (.cons _ (.cons _ (.cons _ .slnil)))))))))))))
      obtain ⟨hk1, hk2, hk3⟩ := kindN_zero (l := l) (by have hc := hc_2; rw [hps_1, hps_2] at hc; simpa [plK] using hc)
      refine ⟨g_1, lv_1, bv_1, ps_1, rfl, by rw [hps_1, hk3], ?_⟩
      rw [hk1, hk2]
      exact hs_8
end Go.Proofs.YtecfgjdpghddgaaGreat
namespace Go.Proofs.YtecfgjdpghddgaaGreat
open Go.RowKit Go.Kw
set_option maxRecDepth 100000
theorem step_ok (v n : Nat) (w : World) (hv : v < 4294967296) (hn : n ≤ 1000) :
    CallsV Tryz.prog 70 [(.int .u32 v), (.int .i64 n)] w fun r w' => r = .int .u32 (stepN v n : Nat) ∧ Sat w [] w' := by
  have hs0 := Sat.start w
  refine callsV_of Tryz.func70 rfl rfl ?_
  refine .seq <| .region <| .s rfl rfl <| .nil <| .seq <| .seq <| .region <| .m rfl rfl <| .m rfl rfl <| .nil <| .block <| .loop (α := Nat × Nat) (fun (k, u) => [(0, (.int .u32 u)), (5, (.int .i64 n)), (6, (.int .i64 k))]) (fun (k, u) w' => Sat w [] w' ∧ (k ≤ n) ∧ (u = stepN v k) ∧ (u < 4294967296)) (fun (k, u) => n - k) (0, v) ⟨rfl, rfl, rfl, trivial⟩ ⟨hs0, Nat.zero_le _, rfl, hv⟩ ?_
  rintro ⟨k, u⟩ w_1 ⟨hs_1, hk, hu, hub⟩
  show CW _ _ _ _ [(0, (.int .u32 u)), (5, (.int .i64 n)), (6, (.int .i64 k))] _
  refine .seq <| .region <| .e rfl (.lssN rfl rfl) <| .nil <| .seq <| .condD rfl (fun hc_1 => ?_) (fun hc_1 => ?_)
  · refine .skip <| .seq <| .block <| .seq <| .region <| .m rfl rfl <| .e rfl (.maskN (b := 1) 1 rfl rfl rfl (by decide) (by (try simp only [IntKind.bits]); omega) (by decide)) <| .e rfl (.eqlN (b := 1) rfl rfl) <| .nil <| .condD rfl (fun hc_2 => ?_) (fun hc_2 => ?_)
    · refine .region <| .m rfl rfl <| .e rfl (.shrN (b := 1) rfl rfl (by (try simp only [IntKind.bits]); omega)) <| .e rfl (.xorN (b := 2197175160) rfl rfl rfl (by (try simp only [IntKind.bits]); omega) (by (try simp only [IntKind.bits]); omega)) <| .s rfl rfl <| .nil <| .region <| .e rfl (.addI (b := 1) rfl rfl (by omega)) <| .m rfl rfl <| .nil ?_
      exact ⟨(k + 1, ((u / 2 ^ 1) ^^^ 2197175160)), ⟨rfl, rfl, rfl, trivial⟩, ⟨hs_1, by omega, by rw [stepN, ← hu]; simp [st1, hc_2], by have := st1_lt hub; simpa [st1, hc_2] using this⟩, (show (n - (k + 1)) < (n - k) from by omega)⟩
    · refine .region <| .m rfl rfl <| .e rfl (.shrN (b := 1) rfl rfl (by (try simp only [IntKind.bits]); omega)) <| .s rfl rfl <| .nil <| .region <| .e rfl (.addI (b := 1) rfl rfl (by omega)) <| .m rfl rfl <| .nil ?_
      exact ⟨(k + 1, (u / 2 ^ 1)), ⟨rfl, rfl, rfl, trivial⟩, ⟨hs_1, by omega, by rw [stepN, ← hu]; simp [st1, hc_2], by have := st1_lt hub; simpa [st1, hc_2] using this⟩, (show (n - (k + 1)) < (n - k) from by omega)⟩
  · refine .exit0 <| .seq <| .region <| .m rfl rfl <| .s rfl rfl <| .nil <| .ret ?_
    show PostK _ _ _ _ _ _
    refine post1 rfl rfl ?_
    rw [show k = n by omega] at hu
    exact ⟨by rw [hu], hs_1⟩
theorem sum_ok (v : Value) (l : List Nat) (w : World) (hv : RdL w v (encN .u8) l) (hb : ∀ x ∈ l, x < 256) (hn : l.length ≤ 1000000000) :
    CallsV Tryz.prog 42 [v] w fun r w' => r = .int .u32 (sumN l : Nat) ∧ Sat w [] w' := by
  have hs0 := Sat.start w
  refine callsV_of Tryz.func42 rfl rfl ?_
  refine .seq <| .region <| .s rfl rfl <| .nil <| .seq <| .region <| .f rfl (.alloc hs0 zero114 fun b_1 w_1 hs_1 hch_1 hb_1 => ?_)
  refine .nil <| .seq <| .seq <| .region <| .m rfl rfl <| .nil <| .block ?_
  have hs_2 : Sat w [cObj b_1 114 ((encN .u32).all (tabU 0))] w_1 := hs_1
  refine .loop (α := Nat) (fun k => [(0, v), (3, (.pointer (some ⟨b_1, 0, none⟩))), (8, (.int .i64 k))]) (fun k w' => Sat w [cObj b_1 114 ((encN .u32).all (tabU k))] w' ∧ (k ≤ 16)) (fun k => 16 - k) 0 ⟨rfl, rfl, rfl, trivial⟩ ⟨hs_2, Nat.zero_le _⟩ ?_
  rintro k w_2 ⟨hs_3, hk⟩
  show CW _ _ _ _ [(0, v), (3, (.pointer (some ⟨b_1, 0, none⟩))), (8, (.int .i64 k))] _
  refine .seq <| .region <| .e rfl (.lssN (b := 16) rfl rfl) <| .nil <| .seq <| .condD rfl (fun hc_1 => ?_) (fun hc_1 => ?_)
  · refine .skip <| .seq <| .block <| .seq <| .region <| .m rfl rfl <| .s rfl rfl <| .nil <| .region <| .m rfl rfl <| .m rfl rfl <| .e rfl (.convN (by rw [Tryz.underlying3]; rfl) Tryz.underlying83 rfl rfl) <| .f rfl (.call ent70 rfl ((step_ok ((k % 2 ^ 32)) (4) _ (by omega) (by omega)).mono fun r_1 w_3 h_1 => ?_))
    obtain ⟨rfl, hp_1⟩ := h_1
    have hs_4 := hs_3.adds hp_1
    refine .e rfl (.idxArr arr114 rfl rfl (by omega)) <| .f rfl (.setArr (E := encN .u32) (a := (stepN ((k % 2 ^ 32)) (4))) 0 one83 hs_4 rfl rfl rfl rfl (by rw [tabU_length]; all_goals omega) fun w_4 hs_5 hch_2 => ?_)
    refine .nil <| .region <| .e rfl (.addI (b := 1) rfl rfl (by omega)) <| .m rfl rfl <| .nil ?_
    have hs_6 : Sat w [cObj b_1 114 ((encN .u32).all (tabU (k + 1)))] w_4 := by
      have hq : (tabU k).set k (stepN ((k % 2 ^ 32)) (4)) = tabU (k + 1) := by rw [Nat.mod_eq_of_lt (show k < 2 ^ 32 by omega)]; exact tabU_set (by omega)
      rw [← hq]; exact hs_5
    exact ⟨k + 1, ⟨rfl, rfl, rfl, trivial⟩, ⟨hs_6, by omega⟩, (show (16 - (k + 1)) < (16 - k) from by omega)⟩
  · refine .exit0 <| .seq ?_
    have hs_7 : Sat w [cObj b_1 114 ((encN .u32).all (crcTab))] w_2 := by
      have hq : tabU k = crcTab := by rw [show k = 16 by omega]; exact tabU_all
      rw [← hq]; exact hs_3
    refine .region <| .s rfl rfl <| .nil <| .seq <| .seq <| .region <| .m rfl rfl <| .e rfl (.lenL Tryz.underlying22 rfl (hv.ext hs_7.ext)) <| .m rfl rfl <| .nil <| .block <| .loop (α := Nat × Nat) (fun (k, u) => [(3, (.pointer (some ⟨b_1, 0, none⟩))), (5, (.int .u32 u)), (17, v), (18, (.int .i64 l.length)), (19, (.int .i64 k))]) (fun (k, u) w' => Sat w [cObj b_1 114 ((encN .u32).all (crcTab))] w' ∧ (k ≤ l.length) ∧ (u = crcF (l.take k)) ∧ (u < 4294967296)) (fun (k, u) => l.length - k) (0, 4294967295) ⟨rfl, rfl, rfl, rfl, rfl, trivial⟩ ⟨hs_7, Nat.zero_le _, rfl, by omega⟩ ?_
    rintro ⟨k, u⟩ w_5 ⟨hs_8, hk, hu, hub⟩
    show CW _ _ _ _ [(3, (.pointer (some ⟨b_1, 0, none⟩))), (5, (.int .u32 u)), (17, v), (18, (.int .i64 l.length)), (19, (.int .i64 k))] _
    refine .seq <| .region <| .e rfl (.lssN rfl rfl) <| .nil <| .seq <| .condD rfl (fun hc_2 => ?_) (fun hc_2 => ?_)
    · refine .skip <| .seq <| .block <| .seq ?_
      obtain ⟨x, hx⟩ : ∃ x, (l)[k]? = some x := ⟨_, List.getElem?_eq_getElem hc_2⟩
      refine .region <| .e rfl (.idxL (E := encN .u8) sl22 rfl rfl (hv.ext hs_8.ext) (by omega)) <| .e rfl (.ldL (E := encN .u8) scal5 rfl (hv.ext hs_8.ext) hx (by decide) rfl) <| .s rfl rfl <| .nil <| .seq ?_
      have hxb := hb x (mem_of_get hx)
      have haa : u ^^^ x < 4294967296 := xor_lt32 hub (by omega)
      refine .region <| .m rfl rfl <| .m rfl rfl <| .e rfl (.convK (by rw [Tryz.underlying5]; rfl) Tryz.underlying83 rfl (wrap_u rfl (by (try simp only [IntKind.bits]); omega))) <| .e rfl (.xorN rfl rfl rfl (by (try simp only [IntKind.bits]); omega) (by (try simp only [IntKind.bits]); omega)) <| .s rfl rfl <| .nil <| .seq ?_
      have htg1 := crcTab_get (show (u ^^^ x) % 2 ^ 4 < 16 by omega)
      have htl1 := tabE_lt (show (u ^^^ x) % 2 ^ 4 < 16 by omega)
      refine .region <| .m rfl rfl <| .e rfl (.shrN (b := 4) rfl rfl (by (try simp only [IntKind.bits]); omega)) <| .m rfl rfl <| .e rfl (.maskN (b := 15) 4 rfl rfl rfl (by decide) (by (try simp only [IntKind.bits]); omega) (by decide)) <| .e rfl (.idxArr arr114 rfl rfl (by omega)) <| .e rfl (.load scal83 rfl (hs_8.cellArr (E := encN .u32) 0 rfl htg1 (by decide) rfl)) <| .e rfl (.xorN rfl rfl rfl (by (try simp only [IntKind.bits]); omega) (by (try simp only [IntKind.bits]); omega)) <| .s rfl rfl <| .nil ?_
      have hba := crcB_lt haa
      unfold crcB at hba
      have htg2 := crcTab_get (show (((u ^^^ x) / 2 ^ 4) ^^^ (tabE ((u ^^^ x) % 2 ^ 4))) % 2 ^ 4 < 16 by omega)
      have htl2 := tabE_lt (show (((u ^^^ x) / 2 ^ 4) ^^^ (tabE ((u ^^^ x) % 2 ^ 4))) % 2 ^ 4 < 16 by omega)
      have hbb := crcB_lt hba
      unfold crcB at hbb
      refine .region <| .m rfl rfl <| .e rfl (.shrN (b := 4) rfl rfl (by (try simp only [IntKind.bits]); omega)) <| .m rfl rfl <| .e rfl (.maskN (b := 15) 4 rfl rfl rfl (by decide) (by (try simp only [IntKind.bits]); omega) (by decide)) <| .e rfl (.idxArr arr114 rfl rfl (by omega)) <| .e rfl (.load scal83 rfl (hs_8.cellArr (E := encN .u32) 0 rfl htg2 (by decide) rfl)) <| .e rfl (.xorN rfl rfl rfl (by (try simp only [IntKind.bits]); omega) (by (try simp only [IntKind.bits]); omega)) <| .s rfl rfl <| .nil <| .region <| .e rfl (.addI (b := 1) rfl rfl (by omega)) <| .m rfl rfl <| .nil ?_
      exact ⟨(k + 1, (((((u ^^^ x) / 2 ^ 4) ^^^ (tabE ((u ^^^ x) % 2 ^ 4))) / 2 ^ 4) ^^^ (tabE ((((u ^^^ x) / 2 ^ 4) ^^^ (tabE ((u ^^^ x) % 2 ^ 4))) % 2 ^ 4)))), ⟨rfl, rfl, rfl, rfl, rfl, trivial⟩, ⟨hs_8, by omega, by rw [take_succ_of hx, crcF_snoc, ← hu]; rfl, hbb⟩, (show (l.length - (k + 1)) < (l.length - k) from by omega)⟩
    · refine .exit0 <| .seq <| .region <| .m rfl rfl <| .e rfl (.not32 rfl (by omega)) <| .s rfl rfl <| .nil <| .ret ?_
      show PostK _ _ _ _ _ _
      refine post1 rfl rfl ?_
      have hs_9 : Sat w [] w_5 := hs_8.sub ((.cons _ .slnil))
      rw [show k = l.length by omega, List.take_length] at hu
      exact ⟨by rw [hu]; rfl, hs_9⟩
theorem bytesOf_ok (v : Nat) (w : World) (hv : v < 4294967296) :
    CallsV Tryz.prog 41 [(.int .u32 v)] w fun r w' => r = .agg ((encN .u8).all (byts v)).toArray ∧ Sat w [] w' := by
  have hs0 := Sat.start w
  refine callsV_of Tryz.func41 rfl rfl ?_
  refine .seq <| .region <| .f rfl (.alloc hs0 zero81 fun b_1 w_1 hs_1 hch_1 hb_1 => ?_)
  refine .nil <| .seq <| .region <| .m rfl rfl <| .e rfl (.convN (by rw [Tryz.underlying83]; rfl) Tryz.underlying5 rfl rfl) <| .m rfl rfl <| .e rfl (.shrN (b := 8) rfl rfl (by (try simp only [IntKind.bits]); omega)) <| .e rfl (.convN (by rw [Tryz.underlying83]; rfl) Tryz.underlying5 rfl rfl) <| .m rfl rfl <| .e rfl (.shrN (b := 16) rfl rfl (by (try simp only [IntKind.bits]); omega)) <| .e rfl (.convN (by rw [Tryz.underlying83]; rfl) Tryz.underlying5 rfl rfl) <| .m rfl rfl <| .e rfl (.shrN (b := 24) rfl rfl (by (try simp only [IntKind.bits]); omega)) <| .e rfl (.convN (by rw [Tryz.underlying83]; rfl) Tryz.underlying5 rfl rfl) <| .e rfl (.buildArr bar81 rfl ⟨rfl, rfl, rfl, rfl, trivial⟩ rfl) <| .f rfl (.storeObjA (vs := [(.int .u8 ((v % 2 ^ 8) : Nat)), (.int .u8 (((v / 2 ^ 8) % 2 ^ 8) : Nat)), (.int .u8 (((v / 2 ^ 16) % 2 ^ 8) : Nat)), (.int .u8 (((v / 2 ^ 24) % 2 ^ 8) : Nat))]) agg81 hs_1 (i := 0) rfl rfl rfl rfl (fun v h => by simp only [List.mem_cons, List.not_mem_nil, or_false] at h; rcases h with rfl | rfl | rfl | rfl; exact rfl; exact rfl; exact rfl; exact rfl) fun w_2 hs_2 hch_2 => ?_)
  refine .nil <| .ret ?_
  show PostK _ _ _ _ _ _
  refine post1c (vs := [(.int .u8 ((v % 2 ^ 8) : Nat)), (.int .u8 (((v / 2 ^ 8) % 2 ^ 8) : Nat)), (.int .u8 (((v / 2 ^ 16) % 2 ^ 8) : Nat)), (.int .u8 (((v / 2 ^ 24) % 2 ^ 8) : Nat))]) rfl rfl agg81 (fun j u hu => hs_2.cell (i := 0) rfl hu) ?_
  have hs_3 : Sat w [] w_2 := hs_2.sub ((.cons _ .slnil))
  exact ⟨rfl, hs_3⟩
theorem seal_ok (v : Value) (l : List Nat) (w : World) (hv : RdL w v (encN .u8) l) (hb : ∀ x ∈ l, x < 256) (hn : l.length ≤ 1000000000) :
    CallsV Tryz.prog 29 [v] w fun r w' => Sat w [cL r 5 (encN .u8) (sealN l)] w' := by
  have hs0 := Sat.start w
  refine callsV_of Tryz.func29 rfl rfl ?_
  refine .seq <| .region <| .s rfl rfl <| .nil <| .seq <| .region <| .m rfl rfl <| .f rfl (.call ent42 rfl ((sum_ok _ (l) _ (hv.ext hs0.ext) (hb) (hn)).mono fun r_1 w_1 h_1 => ?_))
  obtain ⟨rfl, hp_1⟩ := h_1
  have hs_1 := hs0.adds hp_1
  refine .f rfl (.call ent41 rfl ((bytesOf_ok ((sumN (l))) _ (sumN_lt hb)).mono fun r_2 w_2 h_2 => ?_))
  obtain ⟨rfl, hp_2⟩ := h_2
  have hs_2 := hs_1.adds hp_2
  refine .f rfl (.alloc hs_2 zero81 fun b_1 w_3 hs_3 hch_1 hb_1 => ?_)
  have hs_3d : Sat w [cObj b_1 81 [(.int .u8 (0 : Nat)), (.int .u8 (0 : Nat)), (.int .u8 (0 : Nat)), (.int .u8 (0 : Nat))]] _ := hs_3
  refine .f rfl (.storeObjA (vs := (encN .u8).all (byts (sumN (l)))) agg81 hs_3d (i := 0) rfl rfl rfl rfl ((encN .u8).all_oneCell _) fun w_4 hs_4 hch_2 => ?_)
  refine .nil <| .seq <| .drawS hs_4 (.free 0 (.free 1 (.free 2 (.free 3 (.free 4 (.free 5 (.free 6 (.one 7 (.free 8 .fin))))))))) mixed (by kernel_rfl) ?_
  have hs_5 := hs_4.drew
  refine .m rfl rfl hs_5 <| .m rfl rfl hs_5 <| .e rfl (fun w' hS' => .lenL Tryz.underlying22 rfl (hv.ext hS'.ext)) hs_5 <| .m rfl rfl hs_5 <| .e rfl (fun w' hS' => .lenL Tryz.underlying22 rfl (hv.ext hS'.ext)) hs_5 <| .e rfl (fun w' hS' => .sliceFull (E := encN .u8) sl22 rfl (hv.ext hS'.ext) rfl rfl) hs_5 <| .e rfl (fun w' hS' => .sliceArr arr81 (by decide) rfl) hs_5 <| .f rfl (.appendFull sl22 hs_5 rfl rfl ((hv.ext hs_5.ext)).full.1 (((hv.ext hs_5.ext)).full.2) Tryz.underlying22 (hs_5.rdArr (E := encN .u8) (l := byts (sumN (l))) 0 rfl (m := 4) (by first | rfl | simp)) (by simp [byts]) (by simp [byts]; omega) (by simp [byts]; omega) fun v_1 w_5 hs_6 hch_3 => ?_)
  have hS_1 : Sat w [_] _ := hs_6.sub ((.cons_cons _ (.cons _ .slnil)))
  refine ⟨hS_1, ?_⟩
  refine .e rfl (fun w' hS' => .assign rfl) hS_1 <| .fin <| .ret ?_
  show PostK _ _ _ _ _ _
  refine post1 rfl rfl ?_
  have hs_7 : Sat w [cL v_1 5 (encN .u8) (l ++ byts (sumN (l)))] w_5 := hs_6.sub ((.cons _ (.cons_cons _ .slnil)))
  exact hs_7
theorem slen_ok (g n : Nat) (w : World) (h0 : w.cell? ⟨g, 0, none⟩ = some (.int .i64 (n : Int))) :
    CallsV Tryz.prog 9 [(.pointer (some ⟨g, 0, none⟩))] w fun r w' => r = .int .i64 (n : Int) ∧ Sat w [] w' := by
  have hs0 := Sat.start w
  refine callsV_of Tryz.func9 rfl rfl ?_
  refine .seq <| .region <| .s rfl rfl <| .nil <| .seq <| .region <| .m rfl rfl <| .e rfl (.nilCheck rfl) <| .e rfl (.fieldAddr fld65_0 rfl rfl) <| .e rfl (.load scal3 rfl (hs0.ext _ _ h0)) <| .s rfl rfl <| .nil <| .ret ?_
  show PostK _ _ _ _ _ _
  refine post1 rfl rfl ?_
  exact ⟨rfl, hs0⟩
theorem skind_ok (g n : Nat) (w : World) (h0 : w.cell? ⟨g, 1, none⟩ = some (.int .i64 (n : Int))) :
    CallsV Tryz.prog 27 [(.pointer (some ⟨g, 0, none⟩))] w fun r w' => r = .int .i64 (n : Int) ∧ Sat w [] w' := by
  have hs0 := Sat.start w
  refine callsV_of Tryz.func27 rfl rfl ?_
  refine .seq <| .region <| .s rfl rfl <| .nil <| .seq <| .region <| .m rfl rfl <| .e rfl (.nilCheck rfl) <| .e rfl (.fieldAddr fld65_1 rfl rfl) <| .e rfl (.load scal3 rfl (hs0.ext _ _ h0)) <| .s rfl rfl <| .nil <| .ret ?_
  show PostK _ _ _ _ _ _
  refine post1 rfl rfl ?_
  exact ⟨rfl, hs0⟩
theorem sencode_ok (g n kind : Nat) (lv bv : Value) (lens : List Nat) (ps : List Pt) (w : World) (h0 : w.cell? ⟨g, 0, none⟩ = some (.int .i64 (n : Int))) (h1 : w.cell? ⟨g, 1, none⟩ = some (.int .i64 (kind : Int))) (h2 : w.cell? ⟨g, 2, none⟩ = some lv) (h3 : w.cell? ⟨g, 3, none⟩ = some bv) (hl : RdL w lv (encN .i64) lens) (hb : RdL w bv encPt ps) (hall : ∀ p ∈ ps, RdL w p.sv.val (encN .u8) p.bys) (hn : n ≤ 4096) (hk : kind ≤ 1) (hll : lens.length ≤ 1024) (hpl : ps.length ≤ 100) (hpb : ∀ p ∈ ps, p.bys.length ≤ 20000 ∧ p.bits ≤ 1000000) (hlt : ∀ p ∈ ptsOf ps, ∀ x ∈ p.1, x < 256) :
    CallsV Tryz.prog 11 [(.pointer (some ⟨g, 0, none⟩))] w fun r w' => Sat w [cL r 5 (encN .u8) (sealN (payl n kind lens (ptsOf ps)))] w' := by
  have hs0 := Sat.start w
  refine callsV_of Tryz.func11 rfl rfl ?_
  refine .seq <| .region <| .s rfl rfl <| .nil <| .seq <| .region <| .m rfl rfl <| .f rfl (.call ent30 rfl ((payload_ok g n kind lv bv lens ps _ (hs0.ext _ _ h0) (hs0.ext _ _ h1) (hs0.ext _ _ h2) (hs0.ext _ _ h3) (hl.ext hs0.ext) (hb.ext hs0.ext) (fun p hp => (hall p hp).ext hs0.ext) (hn) (hk) (hll) (hpl) (hpb)).mono fun r_1 w_1 h_1 => ?_))
  have hp_1 := h_1
  have hs_1 := hs0.adds hp_1
  refine .f rfl (.call ent29 rfl ((seal_ok _ (payl n kind (lens) (ptsOf ps)) _ (hs_1.rdL 0 rfl) (payl_lt _ _ _ _ hlt) (by have := payl_len (n := n) (kind := kind) hll hpl hpb; omega)).mono fun r_2 w_2 h_2 => ?_))
  have hp_2 := h_2
  have hs_2 := hs_1.adds hp_2
  refine .s rfl rfl <| .nil <| .ret ?_
  show PostK _ _ _ _ _ _
  refine post1 rfl rfl ?_
  have hs_3 : Sat w [_] w_2 := hs_2.sub ((.cons _ (.cons_cons _ .slnil)))
  exact hs_3
end Go.Proofs.YtecfgjdpghddgaaGreat
