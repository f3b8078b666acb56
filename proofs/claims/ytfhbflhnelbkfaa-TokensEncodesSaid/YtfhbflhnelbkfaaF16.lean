/- The walks of the functions of F16, printed by our own program (kwgen.py) out of our descriptions (base.py). -/
import Derived.Test.YtfhbflhnelbkfaaF15
import Derived.Test.YtfhbflhnelbkfaaF14e
import Derived.Test.YtfhbflhnelbkfaaM16
import Derived.Test.YtfhbflhnelbkfaaTab
namespace Go.Proofs.Ytfhbflhnelbkfaa
open Go.RowKit Go.Kw
set_option maxRecDepth 100000
set_option linter.unusedVariables false
set_option linter.unusedSimpArgs false
theorem packed_ok (v : Value) (l : List Nat) (w : World) (hv : RdL w v (encN .i64) l) (hn : l.length ≤ 4096) (hb : ∀ x ∈ l, x < 1024) :
    CallsV Try.prog 59 [v] w fun r w' => ∃ g lv bv ps, r = .pointer (some ⟨g, 0, none⟩) ∧ ptsOf ps = pk0 l (nbk l.length) ∧ Sat w [cObj g 79 [(Value.int .i64 ((l.length : Nat) : Int)), (Value.int .i64 ((0 : Nat) : Int)), lv, bv, (Value.int .i64 ((0 : Nat) : Int)), (Value.slice none 0 0)], cL lv 3 (encN .i64) ([]), cL bv 124 (encPt) (ps), cParts (ps), cL (Value.slice none 0 0) 3 (encN .i64) ([])] w' := by
  have hs0 := Sat.start w
  refine callsV_of Try.func59 rfl rfl ?_
  refine CW.seq ?_
  refine CW.region ?_
  refine RT.ev rfl rfl (Ev.assign rfl) ?_
  refine RT.nil ?_
  refine CW.seq ?_
  refine CW.region ?_
  refine RT.ev rfl rfl (Ev.move rfl) <| RT.ev rfl rfl (Ev.lenL Try.underlying22 rfl (hv.ext hs0.ext)) <| RT.ev rfl rfl (Ev.build bt79 rfl ⟨rfl, rfl, trivial⟩ rfl) ?_
  refine RT.eff rfl rfl (OpE.box hs0 rfl fun b_1 w_1 hs_1 hch_1 hb_1 => ?_)
  have hs_1d : Sat w [cObj b_1 79 [(Value.int .i64 ((l.length : Nat) : Int)), (Value.int .i64 ((0 : Nat) : Int)), (Value.slice none 0 0), (Value.slice none 0 0), (Value.int .i64 ((0 : Nat) : Int)), (Value.slice none 0 0)]] _ := hs_1
  refine RT.ev rfl rfl (Ev.assign rfl) ?_
  refine RT.nil ?_
  refine CW.seq ?_
  refine CW.seq ?_
  have hs_2 : Sat w [cObj b_1 79 [(Value.int .i64 ((l.length : Nat) : Int)), (Value.int .i64 ((0 : Nat) : Int)), (Value.slice none 0 0), (Value.slice none 0 0), (Value.int .i64 ((0 : Nat) : Int)), (Value.slice none 0 0)], cL (Value.slice none 0 0) 3 (encN .i64) ([])] _ := hs_1d.newNilL 3 (encN .i64)
  have hs_3 : Sat w [cObj b_1 79 [(Value.int .i64 ((l.length : Nat) : Int)), (Value.int .i64 ((0 : Nat) : Int)), (Value.slice none 0 0), (Value.slice none 0 0), (Value.int .i64 ((0 : Nat) : Int)), (Value.slice none 0 0)], cL (Value.slice none 0 0) 3 (encN .i64) ([]), cL (Value.slice none 0 0) 124 (encPt) ([])] _ := hs_2.newNilL 124 encPt
  have hs_4 : Sat w [cObj b_1 79 [(Value.int .i64 ((l.length : Nat) : Int)), (Value.int .i64 ((0 : Nat) : Int)), (Value.slice none 0 0), (Value.slice none 0 0), (Value.int .i64 ((0 : Nat) : Int)), (Value.slice none 0 0)], cL (Value.slice none 0 0) 3 (encN .i64) ([]), cL (Value.slice none 0 0) 124 (encPt) ([]), cParts ([])] _ := hs_3.newParts
  have hs_5 : Sat w [cObj b_1 79 [(Value.int .i64 ((l.length : Nat) : Int)), (Value.int .i64 ((0 : Nat) : Int)), (Value.slice none 0 0), (Value.slice none 0 0), (Value.int .i64 ((0 : Nat) : Int)), (Value.slice none 0 0)], cL (Value.slice none 0 0) 3 (encN .i64) ([]), cL (Value.slice none 0 0) 124 (encPt) ([]), cParts ([]), cL (Value.slice none 0 0) 3 (encN .i64) ([])] _ := hs_4.newNilL 3 (encN .i64)
  refine CW.region ?_
  refine RT.ev rfl rfl (Ev.assign rfl) ?_
  refine RT.nil ?_
  refine CW.block ?_
  refine CW.loop (α := Nat × Value × List Pt) (fun (k, bv, ps) => [(0, v), (3, (Value.pointer (some ⟨b_1, 0, none⟩))), (4, (Value.int .i64 (((64 * k) : Nat) : Int)))]) (fun (k, bv, ps) w' => Sat w [cObj b_1 79 [(Value.int .i64 ((l.length : Nat) : Int)), (Value.int .i64 ((0 : Nat) : Int)), (Value.slice none 0 0), bv, (Value.int .i64 ((0 : Nat) : Int)), (Value.slice none 0 0)], cL (Value.slice none 0 0) 3 (encN .i64) ([]), cL bv 124 (encPt) (ps), cParts (ps), cL (Value.slice none 0 0) 3 (encN .i64) ([])] w' ∧ (64 * k ≤ l.length + 63) ∧ (ptsOf ps = pk0 l k)) (fun (k, bv, ps) => l.length + 64 - 64 * k) (0, (Value.slice none 0 0), []) ⟨rfl, rfl, rfl, trivial⟩ ⟨hs_5, by omega, rfl⟩ ?_
  rintro ⟨k, bv, ps⟩ w_2 ⟨hs_6, hk, hps⟩
  show CW _ _ _ _ [(0, v), (3, (Value.pointer (some ⟨b_1, 0, none⟩))), (4, (Value.int .i64 (((64 * k) : Nat) : Int)))] _
  have hpl : ps.length = k := by rw [← ptsOf_length, hps]; simp [pk0]
  refine CW.seq ?_
  refine CW.seq ?_
  refine CW.region ?_
  refine RT.ev rfl rfl (Ev.move rfl) <| RT.ev rfl rfl (Ev.move rfl) <| RT.ev rfl rfl (Ev.lenL Try.underlying22 rfl (hv.ext hs_6.ext)) <| RT.ev rfl rfl (Ev.lssN rfl rfl) ?_
  refine RT.nil ?_
  refine CW.condD rfl (fun hc_1 => ?_) (fun hc_1 => ?_)
  · refine CW.skip ?_
    refine CW.seq ?_
    refine CW.block ?_
    refine CW.seq ?_
    refine CW.region ?_
    refine RT.ev rfl rfl (Ev.move rfl) <| RT.ev rfl rfl (Ev.move rfl) <| RT.ev rfl rfl (Ev.move rfl) <| RT.ev rfl rfl (Ev.addI (b := 64) rfl rfl (by omega)) <| RT.ev rfl rfl (Ev.move rfl) <| RT.ev rfl rfl (Ev.lenL Try.underlying22 rfl (hv.ext hs_6.ext)) <| RT.ev rfl rfl (Ev.minN rfl rfl) <| RT.ev rfl rfl (Ev.sliceL (E := encN .i64) (a := (64 * k)) (c := (min ((64 * k) + 64) l.length)) sl22 rfl (hv.ext hs_6.ext) ⟨_, rfl⟩ ⟨_, rfl⟩ (by omega) (by omega)) ?_
    refine RT.eff rfl rfl (OpE.call ent99 rfl ((pack_ok _ (((l).take (min ((64 * k) + 64) l.length)).drop (64 * k)) _ (((hv.ext hs_6.ext)).sub (a := (64 * k)) (b := (min ((64 * k) + 64) l.length)) (by omega) (by omega)) (by rw [chk_eq, chk_length]; omega) (fun x hx => by rw [chk_eq] at hx; have := hb x (chk_mem hx); omega)).mono fun r_1 w_3 h_1 => ?_))
    obtain ⟨pv_1, rfl, hp_1⟩ := h_1
    have hs_7 : Sat w [cObj b_1 79 [(Value.int .i64 ((l.length : Nat) : Int)), (Value.int .i64 ((0 : Nat) : Int)), (Value.slice none 0 0), bv, (Value.int .i64 ((0 : Nat) : Int)), (Value.slice none 0 0)], cL (Value.slice none 0 0) 3 (encN .i64) ([]), cL bv 124 (encPt) (ps), cParts (ps), cL (Value.slice none 0 0) 3 (encN .i64) ([]), cL pv_1 5 (encN .u8) (packBk (((l).take (min ((64 * k) + 64) l.length)).drop (64 * k)))] _ := hs_6.adds hp_1
    obtain ⟨sv_1, hsv_1, hsv_1n⟩ := (hs_7.rdL 5 rfl).sv
    subst hsv_1
    refine RT.ev rfl rfl (Ev.move rfl) <| RT.ev rfl rfl (Ev.extract rfl rfl) <| RT.ev rfl rfl (Ev.extract rfl rfl) <| RT.ev rfl rfl (Ev.assign rfl) <| RT.ev rfl rfl (Ev.assign rfl) ?_
    refine RT.nil ?_
    refine CW.region ?_
    refine RT.ev rfl rfl (Ev.move rfl) <| RT.ev rfl rfl (Ev.move rfl) <| RT.ev rfl rfl (Ev.nilCheck rfl) <| RT.ev rfl rfl (Ev.fieldAddr fld79_3 rfl rfl) <| RT.ev rfl rfl (Ev.load scal77 rfl (hs_7.cell (i := 0) (j := 3) rfl rfl)) <| RT.ev rfl rfl (Ev.move rfl) <| RT.ev rfl rfl (Ev.build bt124 rfl ⟨(hs_7.rdL 5 rfl).oneCell, trivial⟩ rfl) ?_
    refine RT.eff rfl rfl (OpE.lit1A (encPt) (⟨sv_1, 0, packBk (((l).take (min ((64 * k) + 64) l.length)).drop (64 * k))⟩ : Pt) sl77 (by decide) (by decide) hs_7 rfl fun v_1 w_4 hs_8 hch_2 => ?_)
    have hs_8d : Sat w [cObj b_1 79 [(Value.int .i64 ((l.length : Nat) : Int)), (Value.int .i64 ((0 : Nat) : Int)), (Value.slice none 0 0), bv, (Value.int .i64 ((0 : Nat) : Int)), (Value.slice none 0 0)], cL (Value.slice none 0 0) 3 (encN .i64) ([]), cL bv 124 (encPt) (ps), cParts (ps), cL (Value.slice none 0 0) 3 (encN .i64) ([]), cL sv_1.val 5 (encN .u8) (packBk (((l).take (min ((64 * k) + 64) l.length)).drop (64 * k))), cL v_1 124 (encPt) ([(⟨sv_1, 0, packBk (((l).take (min ((64 * k) + 64) l.length)).drop (64 * k))⟩ : Pt)])] _ := hs_8
    refine RT.eff rfl rfl (OpE.appendL 2 sl77 hs_8d rfl rfl rfl Try.underlying77 (hs_8d.rdL 6 rfl) (by simp; omega) (by simp; omega) fun v_2 w_5 hs_9 hch_3 => ?_)
    have hs_9d : Sat w [cObj b_1 79 [(Value.int .i64 ((l.length : Nat) : Int)), (Value.int .i64 ((0 : Nat) : Int)), (Value.slice none 0 0), bv, (Value.int .i64 ((0 : Nat) : Int)), (Value.slice none 0 0)], cL (Value.slice none 0 0) 3 (encN .i64) ([]), cL v_2 124 (encPt) (ps ++ [(⟨sv_1, 0, packBk (((l).take (min ((64 * k) + 64) l.length)).drop (64 * k))⟩ : Pt)]), cParts (ps), cL (Value.slice none 0 0) 3 (encN .i64) ([]), cL sv_1.val 5 (encN .u8) (packBk (((l).take (min ((64 * k) + 64) l.length)).drop (64 * k)))] _ := hs_9.drop 6
    refine RT.ev rfl rfl (Ev.nilCheck rfl) <| RT.ev rfl rfl (Ev.fieldAddr fld79_3 rfl rfl) ?_
    refine RT.eff rfl rfl (OpE.storeObj one77 hs_9d (i := 0) rfl rfl rfl ((hs_9d.rdL 2 rfl).oneCell) rfl fun w_6 hs_10 hch_4 => ?_)
    have hs_10d : Sat w [cObj b_1 79 [(Value.int .i64 ((l.length : Nat) : Int)), (Value.int .i64 ((0 : Nat) : Int)), (Value.slice none 0 0), v_2, (Value.int .i64 ((0 : Nat) : Int)), (Value.slice none 0 0)], cL (Value.slice none 0 0) 3 (encN .i64) ([]), cL v_2 124 (encPt) (ps ++ [(⟨sv_1, 0, packBk (((l).take (min ((64 * k) + 64) l.length)).drop (64 * k))⟩ : Pt)]), cParts (ps), cL (Value.slice none 0 0) 3 (encN .i64) ([]), cL sv_1.val 5 (encN .u8) (packBk (((l).take (min ((64 * k) + 64) l.length)).drop (64 * k)))] _ := hs_10
    refine RT.nil ?_
    refine CW.region ?_
    refine RT.ev rfl rfl (Ev.move rfl) <| RT.ev rfl rfl (Ev.addI (b := 64) rfl rfl (by omega)) <| RT.ev rfl rfl (Ev.assign rfl) ?_
    refine RT.nil ?_
    have hs_11 : Sat w [cObj b_1 79 [(Value.int .i64 ((l.length : Nat) : Int)), (Value.int .i64 ((0 : Nat) : Int)), (Value.slice none 0 0), v_2, (Value.int .i64 ((0 : Nat) : Int)), (Value.slice none 0 0)], cL (Value.slice none 0 0) 3 (encN .i64) ([]), cL v_2 124 (encPt) (ps ++ [(⟨sv_1, 0, packBk (((l).take (min ((64 * k) + 64) l.length)).drop (64 * k))⟩ : Pt)]), cParts (ps ++ [⟨sv_1, 0, packBk (((l).take (min ((64 * k) + 64) l.length)).drop (64 * k))⟩]), cL (Value.slice none 0 0) 3 (encN .i64) ([])] w_6 := Sat.pushParts (A := [cObj b_1 79 [(Value.int .i64 ((l.length : Nat) : Int)), (Value.int .i64 ((0 : Nat) : Int)), (Value.slice none 0 0), v_2, (Value.int .i64 ((0 : Nat) : Int)), (Value.slice none 0 0)], cL (Value.slice none 0 0) 3 (encN .i64) ([]), cL v_2 124 (encPt) (ps ++ [(⟨sv_1, 0, packBk (((l).take (min ((64 * k) + 64) l.length)).drop (64 * k))⟩ : Pt)]), cParts (ps), cL (Value.slice none 0 0) 3 (encN .i64) ([])]) hs_10d 3 rfl
    exact ⟨(k + 1, v_2, ps ++ [⟨sv_1, 0, packBk (((l).take (min ((64 * k) + 64) l.length)).drop (64 * k))⟩]), ⟨rfl, rfl, rfl, trivial⟩, ⟨hs_11, by omega, by rw [ptsOf_snoc, hps, pk0_succ, ← chk_eq]⟩, (show (l.length + 64 - 64 * (k + 1)) < (l.length + 64 - 64 * k) from by omega)⟩
  · refine CW.exit0 ?_
    refine CW.seq ?_
    refine CW.region ?_
    refine RT.ev rfl rfl (Ev.move rfl) <| RT.ev rfl rfl (Ev.assign rfl) ?_
    refine RT.nil ?_
    refine CW.ret ?_
    show PostK _ _ _ _ _ _
    refine post1 rfl rfl ?_
    have hs_12 : Sat w [cObj b_1 79 [(Value.int .i64 ((l.length : Nat) : Int)), (Value.int .i64 ((0 : Nat) : Int)), (Value.slice none 0 0), bv, (Value.int .i64 ((0 : Nat) : Int)), (Value.slice none 0 0)], cL (Value.slice none 0 0) 3 (encN .i64) ([]), cL bv 124 (encPt) (ps), cParts (ps), cL (Value.slice none 0 0) 3 (encN .i64) ([])] w_2 := hs_6.sub ((.cons_cons _ (.cons_cons _ (.cons_cons _ (.cons_cons _ (.cons_cons _ .slnil))))))
    have hkn : k = nbk l.length := by unfold nbk; omega
    exact ⟨_, _, _, ps, rfl, by rw [hps, hkn], hs_12⟩

theorem coded_ok (v : Value) (l : List Nat) (w : World) (hv : RdL w v (encN .i64) l) (hn : l.length ≤ 4096) (hb : ∀ x ∈ l, x < 1024) :
    CallsV Try.prog 60 [v] w fun r w' => ∃ g lv bv ps, r = .pointer (some ⟨g, 0, none⟩) ∧ ptsOf ps = pk1 l (nbk l.length) ∧ Sat w [cObj g 79 [(Value.int .i64 ((l.length : Nat) : Int)), (Value.int .i64 ((1 : Nat) : Int)), lv, bv, (Value.int .i64 ((0 : Nat) : Int)), (Value.slice none 0 0)], cL lv 3 (encN .i64) (symL l), cL bv 124 (encPt) (ps), cParts (ps), cL (Value.slice none 0 0) 3 (encN .i64) ([])] w' := by
  have hs0 := Sat.start w
  refine callsV_of Try.func60 rfl rfl ?_
  refine CW.seq ?_
  refine CW.region ?_
  refine RT.ev rfl rfl (Ev.assign rfl) ?_
  refine RT.nil ?_
  refine CW.seq ?_
  refine CW.region ?_
  refine RT.ev rfl rfl (Ev.assign rfl) ?_
  refine RT.nil ?_
  refine CW.seq ?_
  refine CW.seq ?_
  refine CW.region ?_
  refine RT.ev rfl rfl (Ev.move rfl) <| RT.ev rfl rfl (Ev.lenL Try.underlying22 rfl (hv.ext hs0.ext)) <| RT.ev rfl rfl (Ev.move rfl) ?_
  refine RT.nil ?_
  refine CW.block ?_
  refine CW.loop (α := Nat × Nat) (fun (k, m) => [(0, v), (3, (Value.int .i64 ((m : Nat) : Int))), (14, v), (15, (Value.int .i64 ((l.length : Nat) : Int))), (16, (Value.int .i64 ((k : Nat) : Int)))]) (fun (k, m) w' => Sat w [] w' ∧ (k ≤ l.length) ∧ (m = mxN (l.take k)) ∧ (m ≤ 1024)) (fun (k, m) => l.length - k) (0, 0) ⟨rfl, rfl, rfl, rfl, rfl, trivial⟩ ⟨hs0, Nat.zero_le _, rfl, Nat.zero_le _⟩ ?_
  rintro ⟨k, m⟩ w_1 ⟨hs_1, hk, hm, hmb⟩
  show CW _ _ _ _ [(0, v), (3, (Value.int .i64 ((m : Nat) : Int))), (14, v), (15, (Value.int .i64 ((l.length : Nat) : Int))), (16, (Value.int .i64 ((k : Nat) : Int)))] _
  refine CW.seq ?_
  refine CW.region ?_
  refine RT.ev rfl rfl (Ev.lssN rfl rfl) ?_
  refine RT.nil ?_
  refine CW.seq ?_
  refine CW.condD rfl (fun hc_1 => ?_) (fun hc_1 => ?_)
  · refine CW.skip ?_
    refine CW.seq ?_
    refine CW.block ?_
    refine CW.seq ?_
    obtain ⟨x, hx⟩ : ∃ x, (l)[k]? = some x := ⟨_, List.getElem?_eq_getElem hc_1⟩
    refine CW.region ?_
    refine RT.ev rfl rfl (Ev.idxL (E := encN .i64) sl22 rfl rfl (hv.ext hs_1.ext) (by omega)) <| RT.ev rfl rfl (Ev.ldL (E := encN .i64) scal3 rfl (hv.ext hs_1.ext) hx (by decide) rfl) <| RT.ev rfl rfl (Ev.assign rfl) ?_
    refine RT.nil ?_
    have hxb := hb x (mem_of_get hx)
    refine CW.region ?_
    refine RT.ev rfl rfl (Ev.move rfl) <| RT.ev rfl rfl (Ev.move rfl) <| RT.ev rfl rfl (Ev.addI (b := 1) rfl rfl (by omega)) <| RT.ev rfl rfl (Ev.maxN rfl rfl) <| RT.ev rfl rfl (Ev.assign rfl) ?_
    refine RT.nil ?_
    refine CW.region ?_
    refine RT.ev rfl rfl (Ev.addI (b := 1) rfl rfl (by omega)) <| RT.ev rfl rfl (Ev.move rfl) ?_
    refine RT.nil ?_
    exact ⟨(k + 1, (max m (x + 1))), ⟨rfl, rfl, rfl, rfl, rfl, trivial⟩, ⟨hs_1, by omega, by rw [take_succ_of hx, mxN_snoc, hm], by have := hb x (mem_of_get hx); omega⟩, (show (l.length - (k + 1)) < (l.length - k) from by omega)⟩
  · refine CW.exit0 ?_
    refine CW.seq ?_
    have hmm : m = mxN l := by rw [hm, show k = l.length by omega, List.take_length]
    have hmx : mxN l ≤ 1024 := mxN_le hb
    refine CW.region ?_
    refine RT.ev rfl rfl (Ev.move rfl) ?_
    refine RT.eff rfl rfl (OpE.makeL (encN .i64) (0) sl22 rfl hs_1 rfl rfl (by omega) (by omega) (by omega) fun v_1 w_2 hs_2 hch_1 => ?_)
    have hs_2d : Sat w [cL v_1 3 (encN .i64) (List.replicate (m) 0)] _ := hs_2
    refine RT.ev rfl rfl (Ev.assign rfl) ?_
    refine RT.nil ?_
    refine CW.seq ?_
    refine CW.seq ?_
    refine CW.region ?_
    refine RT.ev rfl rfl (Ev.move rfl) <| RT.ev rfl rfl (Ev.lenL Try.underlying22 rfl (hv.ext hs_2d.ext)) <| RT.ev rfl rfl (Ev.move rfl) ?_
    refine RT.nil ?_
    refine CW.block ?_
    refine CW.loop (α := Nat × List Nat) (fun (k, cur) => [(0, v), (6, v_1), (27, v), (28, (Value.int .i64 ((l.length : Nat) : Int))), (29, (Value.int .i64 ((k : Nat) : Int)))]) (fun (k, cur) w' => Sat w [cL v_1 3 (encN .i64) (cur)] w' ∧ (k ≤ l.length) ∧ (cur = cntN (mxN l) (l.take k)) ∧ (cur.length = mxN l) ∧ (∀ x ∈ cur, x ≤ k)) (fun (k, cur) => l.length - k) (0, List.replicate (m) 0) ⟨rfl, rfl, rfl, rfl, rfl, trivial⟩ ⟨hs_2d, Nat.zero_le _, by rw [hmm]; rfl, by rw [hmm]; simp, fun x hx => by have := List.eq_of_mem_replicate hx; omega⟩ ?_
    rintro ⟨k, cur⟩ w_3 ⟨hs_3, hk, hcur, hcl, hcb⟩
    show CW _ _ _ _ [(0, v), (6, v_1), (27, v), (28, (Value.int .i64 ((l.length : Nat) : Int))), (29, (Value.int .i64 ((k : Nat) : Int)))] _
    refine CW.seq ?_
    refine CW.region ?_
    refine RT.ev rfl rfl (Ev.lssN rfl rfl) ?_
    refine RT.nil ?_
    refine CW.seq ?_
    refine CW.condD rfl (fun hc_2 => ?_) (fun hc_2 => ?_)
    · refine CW.skip ?_
      refine CW.seq ?_
      refine CW.block ?_
      refine CW.seq ?_
      obtain ⟨x, hx⟩ : ∃ x, (l)[k]? = some x := ⟨_, List.getElem?_eq_getElem hc_2⟩
      refine CW.region ?_
      refine RT.ev rfl rfl (Ev.idxL (E := encN .i64) sl22 rfl rfl (hv.ext hs_3.ext) (by omega)) <| RT.ev rfl rfl (Ev.ldL (E := encN .i64) scal3 rfl (hv.ext hs_3.ext) hx (by decide) rfl) <| RT.ev rfl rfl (Ev.assign rfl) ?_
      refine RT.nil ?_
      have hxm : x < cur.length := by rw [hcl]; exact mxN_ge l x (mem_of_get hx)
      obtain ⟨y, hy⟩ : ∃ y, (cur)[x]? = some y := ⟨_, List.getElem?_eq_getElem (hxm)⟩
      have hyk := hcb y (mem_of_get hy)
      refine CW.region ?_
      refine RT.ev rfl rfl (Ev.move rfl) <| RT.ev rfl rfl (Ev.move rfl) <| RT.ev rfl rfl (Ev.idxL (E := encN .i64) sl22 rfl rfl (hs_3.rdL 0 rfl) (by omega)) <| RT.ev rfl rfl (Ev.ldL (E := encN .i64) scal3 rfl (hs_3.rdL 0 rfl) hy (by decide) rfl) <| RT.ev rfl rfl (Ev.addI (b := 1) rfl rfl (by omega)) <| RT.ev rfl rfl (Ev.idxL (E := encN .i64) sl22 rfl rfl (hs_3.rdL 0 rfl) (by omega)) ?_
      refine RT.eff rfl rfl (OpE.setL (a := (y + 1)) 0 one3 hs_3 rfl rfl rfl rfl (by (try simp only [List.length_set]); omega) fun w_4 hs_4 hch_2 => ?_)
      have hs_4d : Sat w [cL v_1 3 (encN .i64) (cur.set x (y + 1))] _ := hs_4
      refine RT.nil ?_
      refine CW.region ?_
      refine RT.ev rfl rfl (Ev.addI (b := 1) rfl rfl (by omega)) <| RT.ev rfl rfl (Ev.move rfl) ?_
      refine RT.nil ?_
      exact ⟨(k + 1, cur.set x (y + 1)), ⟨rfl, rfl, rfl, rfl, rfl, trivial⟩, ⟨hs_4d, by omega, by rw [take_succ_of hx, cntN_snoc, ← hcur, cntStep, getD_some hy], by simp only [List.length_set]; exact hcl, fun z hz => by
        rcases List.mem_or_eq_of_mem_set hz with hz | rfl
        · have := hcb z hz; omega
        · omega⟩, (show (l.length - (k + 1)) < (l.length - k) from by omega)⟩
    · refine CW.exit0 ?_
      refine CW.seq ?_
      have hs_5 : Sat w [cL v_1 3 (encN .i64) (cntN (mxN l) l)] w_3 := by
        have hq : cur = cntN (mxN l) l := by rw [hcur, show k = l.length by omega, List.take_length]
        rw [← hq]; exact hs_3
      refine CW.region ?_
      refine RT.ev rfl rfl (Ev.move rfl) <| RT.ev rfl rfl (Ev.lenL Try.underlying22 rfl (hv.ext hs_5.ext)) <| RT.ev rfl rfl (Ev.build bt79 rfl ⟨rfl, rfl, trivial⟩ rfl) ?_
      refine RT.eff rfl rfl (OpE.box hs_5 rfl fun b_1 w_5 hs_6 hch_3 hb_1 => ?_)
      have hs_6d : Sat w [cL v_1 3 (encN .i64) (cntN (mxN l) l), cObj b_1 79 [(Value.int .i64 ((l.length : Nat) : Int)), (Value.int .i64 ((1 : Nat) : Int)), (Value.slice none 0 0), (Value.slice none 0 0), (Value.int .i64 ((0 : Nat) : Int)), (Value.slice none 0 0)]] _ := hs_6
      refine RT.ev rfl rfl (Ev.assign rfl) ?_
      refine RT.nil ?_
      refine CW.seq ?_
      refine CW.region ?_
      refine RT.ev rfl rfl (Ev.move rfl) <| RT.ev rfl rfl (Ev.move rfl) ?_
      refine RT.eff rfl rfl (OpE.call ent100 rfl ((lengths_ok _ (cntN (mxN l) l) _ (hs_6d.rdL 0 rfl) (by rw [cntN_length]; exact hmx) (fun x hx => by have := cntN_le (mxN l) l x hx; omega)).mono fun r_1 w_6 h_1 => ?_))
      obtain ⟨lv_1, rfl, hp_1⟩ := h_1
      have hs_7 : Sat w [cL v_1 3 (encN .i64) (cntN (mxN l) l), cObj b_1 79 [(Value.int .i64 ((l.length : Nat) : Int)), (Value.int .i64 ((1 : Nat) : Int)), (Value.slice none 0 0), (Value.slice none 0 0), (Value.int .i64 ((0 : Nat) : Int)), (Value.slice none 0 0)], cL lv_1 3 (encN .i64) (lensN (cntN (mxN l) l))] _ := hs_6d.adds hp_1
      refine RT.ev rfl rfl (Ev.move rfl) <| RT.ev rfl rfl (Ev.extract rfl rfl) <| RT.ev rfl rfl (Ev.extract rfl rfl) <| RT.ev rfl rfl (Ev.nilCheck rfl) <| RT.ev rfl rfl (Ev.fieldAddr fld79_2 rfl rfl) ?_
      refine RT.eff rfl rfl (OpE.storeObj one22 hs_7 (i := 1) rfl rfl rfl ((hs_7.rdL 2 rfl).oneCell) rfl fun w_7 hs_8 hch_4 => ?_)
      have hs_8d : Sat w [cL v_1 3 (encN .i64) (cntN (mxN l) l), cObj b_1 79 [(Value.int .i64 ((l.length : Nat) : Int)), (Value.int .i64 ((1 : Nat) : Int)), lv_1, (Value.slice none 0 0), (Value.int .i64 ((0 : Nat) : Int)), (Value.slice none 0 0)], cL lv_1 3 (encN .i64) (lensN (cntN (mxN l) l))] _ := hs_8
      refine RT.nil ?_
      refine CW.seq ?_
      refine CW.seq ?_
      have hs_9 : Sat w [cObj b_1 79 [(Value.int .i64 ((l.length : Nat) : Int)), (Value.int .i64 ((1 : Nat) : Int)), lv_1, (Value.slice none 0 0), (Value.int .i64 ((0 : Nat) : Int)), (Value.slice none 0 0)], cL lv_1 3 (encN .i64) (lensN (cntN (mxN l) l))] w_7 := hs_8d.sub ((.cons _ (.cons_cons _ (.cons_cons _ .slnil))))
      have hs_10 : Sat w [cObj b_1 79 [(Value.int .i64 ((l.length : Nat) : Int)), (Value.int .i64 ((1 : Nat) : Int)), lv_1, (Value.slice none 0 0), (Value.int .i64 ((0 : Nat) : Int)), (Value.slice none 0 0)], cL lv_1 3 (encN .i64) (symL l)] w_7 := by
        have hq : lensN (cntN (mxN l) l) = symL l := rfl
        rw [← hq]; exact hs_9
      have hs_11 : Sat w [cObj b_1 79 [(Value.int .i64 ((l.length : Nat) : Int)), (Value.int .i64 ((1 : Nat) : Int)), lv_1, (Value.slice none 0 0), (Value.int .i64 ((0 : Nat) : Int)), (Value.slice none 0 0)], cL lv_1 3 (encN .i64) (symL l), cL (Value.slice none 0 0) 124 (encPt) ([])] _ := hs_10.newNilL 124 encPt
      have hs_12 : Sat w [cObj b_1 79 [(Value.int .i64 ((l.length : Nat) : Int)), (Value.int .i64 ((1 : Nat) : Int)), lv_1, (Value.slice none 0 0), (Value.int .i64 ((0 : Nat) : Int)), (Value.slice none 0 0)], cL lv_1 3 (encN .i64) (symL l), cL (Value.slice none 0 0) 124 (encPt) ([]), cParts ([])] _ := hs_11.newParts
      have hs_13 : Sat w [cObj b_1 79 [(Value.int .i64 ((l.length : Nat) : Int)), (Value.int .i64 ((1 : Nat) : Int)), lv_1, (Value.slice none 0 0), (Value.int .i64 ((0 : Nat) : Int)), (Value.slice none 0 0)], cL lv_1 3 (encN .i64) (symL l), cL (Value.slice none 0 0) 124 (encPt) ([]), cParts ([]), cL (Value.slice none 0 0) 3 (encN .i64) ([])] _ := hs_12.newNilL 3 (encN .i64)
      refine CW.region ?_
      refine RT.ev rfl rfl (Ev.assign rfl) ?_
      refine RT.nil ?_
      refine CW.block ?_
      refine CW.loop (α := Nat × Value × List Pt) (fun (k, bv, ps) => [(0, v), (9, (Value.pointer (some ⟨b_1, 0, none⟩))), (10, (Value.int .i64 (((64 * k) : Nat) : Int)))]) (fun (k, bv, ps) w' => Sat w [cObj b_1 79 [(Value.int .i64 ((l.length : Nat) : Int)), (Value.int .i64 ((1 : Nat) : Int)), lv_1, bv, (Value.int .i64 ((0 : Nat) : Int)), (Value.slice none 0 0)], cL lv_1 3 (encN .i64) (symL l), cL bv 124 (encPt) (ps), cParts (ps), cL (Value.slice none 0 0) 3 (encN .i64) ([])] w' ∧ (64 * k ≤ l.length + 63) ∧ (ptsOf ps = pk1 l k)) (fun (k, bv, ps) => l.length + 64 - 64 * k) (0, (Value.slice none 0 0), []) ⟨rfl, rfl, rfl, trivial⟩ ⟨hs_13, by omega, rfl⟩ ?_
      rintro ⟨k, bv, ps⟩ w_8 ⟨hs_14, hk, hps⟩
      show CW _ _ _ _ [(0, v), (9, (Value.pointer (some ⟨b_1, 0, none⟩))), (10, (Value.int .i64 (((64 * k) : Nat) : Int)))] _
      have hpl : ps.length = k := by rw [← ptsOf_length, hps]; simp [pk1]
      refine CW.seq ?_
      refine CW.seq ?_
      refine CW.region ?_
      refine RT.ev rfl rfl (Ev.move rfl) <| RT.ev rfl rfl (Ev.move rfl) <| RT.ev rfl rfl (Ev.lenL Try.underlying22 rfl (hv.ext hs_14.ext)) <| RT.ev rfl rfl (Ev.lssN rfl rfl) ?_
      refine RT.nil ?_
      refine CW.condD rfl (fun hc_3 => ?_) (fun hc_3 => ?_)
      · refine CW.skip ?_
        refine CW.seq ?_
        refine CW.block ?_
        refine CW.seq ?_
        refine CW.draw (fun w' => Sat w [cObj b_1 79 [(Value.int .i64 ((l.length : Nat) : Int)), (Value.int .i64 ((1 : Nat) : Int)), lv_1, bv, (Value.int .i64 ((0 : Nat) : Int)), (Value.slice none 0 0)], cL lv_1 3 (encN .i64) (symL l), cL bv 124 (encPt) (ps), cParts (ps), cL (Value.slice none 0 0) 3 (encN .i64) ([])] w') (.free 0 (.free 1 (.free 2 (.free 3 (.free 4 (.free 5 (.free 6 (.free 7 (.free 8 (.free 9 (.free 10 (.free 11 (.one 12 (.free 13 (.free 14 (.free 15 (.free 16 (.free 17 (.free 18 (.free 19 .fin)))))))))))))))))))) mixed (by kernel_rfl) ?_
        have hs_15 := hs_14.drew
        refine RP.ev rfl rfl rfl (fun w' hS' => Ev.move rfl) hs_15 ?_
        refine RP.ev rfl rfl rfl (fun w' hS' => Ev.nilCheck rfl) hs_15 ?_
        refine RP.ev rfl rfl rfl (fun w' hS' => Ev.fieldAddr fld79_2 rfl rfl) hs_15 ?_
        refine RP.ev rfl rfl rfl (fun w' hS' => Ev.load scal22 rfl (hS'.cell (i := 0) (j := 2) rfl rfl)) hs_15 ?_
        refine RP.ev rfl rfl rfl (fun w' hS' => Ev.move rfl) hs_15 ?_
        refine RP.ev rfl rfl rfl (fun w' hS' => Ev.move rfl) hs_15 ?_
        refine RP.ev rfl rfl rfl (fun w' hS' => Ev.move rfl) hs_15 ?_
        refine RP.ev rfl rfl rfl (fun w' hS' => Ev.addI (b := 64) rfl rfl (by omega)) hs_15 ?_
        refine RP.ev rfl rfl rfl (fun w' hS' => Ev.move rfl) hs_15 ?_
        refine RP.ev rfl rfl rfl (fun w' hS' => Ev.lenL Try.underlying22 rfl (hv.ext hS'.ext)) hs_15 ?_
        refine RP.ev rfl rfl rfl (fun w' hS' => Ev.minN rfl rfl) hs_15 ?_
        refine RP.ev rfl rfl rfl (fun w' hS' => Ev.sliceL (E := encN .i64) (a := (64 * k)) (c := (min ((64 * k) + 64) l.length)) sl22 rfl (hv.ext hS'.ext) ⟨_, rfl⟩ ⟨_, rfl⟩ (by omega) (by omega)) hs_15 ?_
        refine RP.eff rfl rfl rfl (OpE.call ent101 rfl ((hencode_ok _ _ (symL l) (((l).take (min ((64 * k) + 64) l.length)).drop (64 * k)) _ (hs_15.rdL 1 rfl) (((hv.ext hs_15.ext)).sub (a := (64 * k)) (b := (min ((64 * k) + 64) l.length)) (by omega) (by omega)) (by rw [symL_length]; exact hmx) (validB_ok (symL_ok l hmx)) (by rw [chk_eq, chk_length]; omega) (fun x hx => symL_pos hmx x (by rw [chk_eq] at hx; exact chk_mem hx))).mono fun r_2 w_9 h_2 => ?_))
        obtain ⟨hv_1, rfl, hp_2⟩ := h_2
        have hs_16 : Sat w [cObj b_1 79 [(Value.int .i64 ((l.length : Nat) : Int)), (Value.int .i64 ((1 : Nat) : Int)), lv_1, bv, (Value.int .i64 ((0 : Nat) : Int)), (Value.slice none 0 0)], cL lv_1 3 (encN .i64) (symL l), cL bv 124 (encPt) (ps), cParts (ps), cL (Value.slice none 0 0) 3 (encN .i64) ([]), cL hv_1 5 (encN .u8) (packB (hufB (symL l) (((l).take (min ((64 * k) + 64) l.length)).drop (64 * k))))] _ := hs_15.adds hp_2
        obtain ⟨sv_1, hsv_1, hsv_1n⟩ := (hs_16.rdL 5 rfl).sv
        subst hsv_1
        have hS_1 : Sat w [cObj b_1 79 [(Value.int .i64 ((l.length : Nat) : Int)), (Value.int .i64 ((1 : Nat) : Int)), lv_1, bv, (Value.int .i64 ((0 : Nat) : Int)), (Value.slice none 0 0)], cL lv_1 3 (encN .i64) (symL l), cL bv 124 (encPt) (ps), cParts (ps), cL (Value.slice none 0 0) 3 (encN .i64) ([])] _ := hs_16.sub ((.cons_cons _ (.cons_cons _ (.cons_cons _ (.cons_cons _ (.cons_cons _ (.cons _ .slnil)))))))
        refine ⟨hS_1, ?_⟩
        refine RP.ev rfl rfl rfl (fun w' hS' => Ev.move rfl) hS_1 ?_
        refine RP.ev rfl rfl rfl (fun w' hS' => Ev.extract rfl rfl) hS_1 ?_
        refine RP.ev rfl rfl rfl (fun w' hS' => Ev.extract rfl rfl) hS_1 ?_
        refine RP.ev rfl rfl rfl (fun w' hS' => Ev.extract rfl rfl) hS_1 ?_
        refine RP.ev rfl rfl rfl (fun w' hS' => Ev.assign rfl) hS_1 ?_
        refine RP.ev rfl rfl rfl (fun w' hS' => Ev.assign rfl) hS_1 ?_
        refine RP.ev rfl rfl rfl (fun w' hS' => Ev.assign rfl) hS_1 ?_
        refine RP.fin ?_
        refine CW.region ?_
        refine RT.ev rfl rfl (Ev.move rfl) <| RT.ev rfl rfl (Ev.move rfl) <| RT.ev rfl rfl (Ev.nilCheck rfl) <| RT.ev rfl rfl (Ev.fieldAddr fld79_3 rfl rfl) <| RT.ev rfl rfl (Ev.load scal77 rfl (hs_16.cell (i := 0) (j := 3) rfl rfl)) <| RT.ev rfl rfl (Ev.move rfl) <| RT.ev rfl rfl (Ev.move rfl) <| RT.ev rfl rfl (Ev.build bt124 rfl ⟨(hs_16.rdL 5 rfl).oneCell, rfl, trivial⟩ rfl) ?_
        refine RT.eff rfl rfl (OpE.lit1A (encPt) (⟨sv_1, (hufB (symL l) (((l).take (min ((64 * k) + 64) l.length)).drop (64 * k))).length, packB (hufB (symL l) (((l).take (min ((64 * k) + 64) l.length)).drop (64 * k)))⟩ : Pt) sl77 (by decide) (by decide) hs_16 rfl fun v_2 w_10 hs_17 hch_5 => ?_)
        have hs_17d : Sat w [cObj b_1 79 [(Value.int .i64 ((l.length : Nat) : Int)), (Value.int .i64 ((1 : Nat) : Int)), lv_1, bv, (Value.int .i64 ((0 : Nat) : Int)), (Value.slice none 0 0)], cL lv_1 3 (encN .i64) (symL l), cL bv 124 (encPt) (ps), cParts (ps), cL (Value.slice none 0 0) 3 (encN .i64) ([]), cL sv_1.val 5 (encN .u8) (packB (hufB (symL l) (((l).take (min ((64 * k) + 64) l.length)).drop (64 * k)))), cL v_2 124 (encPt) ([(⟨sv_1, (hufB (symL l) (((l).take (min ((64 * k) + 64) l.length)).drop (64 * k))).length, packB (hufB (symL l) (((l).take (min ((64 * k) + 64) l.length)).drop (64 * k)))⟩ : Pt)])] _ := hs_17
        refine RT.eff rfl rfl (OpE.appendL 2 sl77 hs_17d rfl rfl rfl Try.underlying77 (hs_17d.rdL 6 rfl) (by simp; omega) (by simp; omega) fun v_3 w_11 hs_18 hch_6 => ?_)
        have hs_18d : Sat w [cObj b_1 79 [(Value.int .i64 ((l.length : Nat) : Int)), (Value.int .i64 ((1 : Nat) : Int)), lv_1, bv, (Value.int .i64 ((0 : Nat) : Int)), (Value.slice none 0 0)], cL lv_1 3 (encN .i64) (symL l), cL v_3 124 (encPt) (ps ++ [(⟨sv_1, (hufB (symL l) (((l).take (min ((64 * k) + 64) l.length)).drop (64 * k))).length, packB (hufB (symL l) (((l).take (min ((64 * k) + 64) l.length)).drop (64 * k)))⟩ : Pt)]), cParts (ps), cL (Value.slice none 0 0) 3 (encN .i64) ([]), cL sv_1.val 5 (encN .u8) (packB (hufB (symL l) (((l).take (min ((64 * k) + 64) l.length)).drop (64 * k))))] _ := hs_18.drop 6
        refine RT.ev rfl rfl (Ev.nilCheck rfl) <| RT.ev rfl rfl (Ev.fieldAddr fld79_3 rfl rfl) ?_
        refine RT.eff rfl rfl (OpE.storeObj one77 hs_18d (i := 0) rfl rfl rfl ((hs_18d.rdL 2 rfl).oneCell) rfl fun w_12 hs_19 hch_7 => ?_)
        have hs_19d : Sat w [cObj b_1 79 [(Value.int .i64 ((l.length : Nat) : Int)), (Value.int .i64 ((1 : Nat) : Int)), lv_1, v_3, (Value.int .i64 ((0 : Nat) : Int)), (Value.slice none 0 0)], cL lv_1 3 (encN .i64) (symL l), cL v_3 124 (encPt) (ps ++ [(⟨sv_1, (hufB (symL l) (((l).take (min ((64 * k) + 64) l.length)).drop (64 * k))).length, packB (hufB (symL l) (((l).take (min ((64 * k) + 64) l.length)).drop (64 * k)))⟩ : Pt)]), cParts (ps), cL (Value.slice none 0 0) 3 (encN .i64) ([]), cL sv_1.val 5 (encN .u8) (packB (hufB (symL l) (((l).take (min ((64 * k) + 64) l.length)).drop (64 * k))))] _ := hs_19
        refine RT.nil ?_
        refine CW.region ?_
        refine RT.ev rfl rfl (Ev.move rfl) <| RT.ev rfl rfl (Ev.addI (b := 64) rfl rfl (by omega)) <| RT.ev rfl rfl (Ev.assign rfl) ?_
        refine RT.nil ?_
        have hs_20 : Sat w [cObj b_1 79 [(Value.int .i64 ((l.length : Nat) : Int)), (Value.int .i64 ((1 : Nat) : Int)), lv_1, v_3, (Value.int .i64 ((0 : Nat) : Int)), (Value.slice none 0 0)], cL lv_1 3 (encN .i64) (symL l), cL v_3 124 (encPt) (ps ++ [(⟨sv_1, (hufB (symL l) (((l).take (min ((64 * k) + 64) l.length)).drop (64 * k))).length, packB (hufB (symL l) (((l).take (min ((64 * k) + 64) l.length)).drop (64 * k)))⟩ : Pt)]), cParts (ps ++ [⟨sv_1, (hufB (symL l) (((l).take (min ((64 * k) + 64) l.length)).drop (64 * k))).length, packB (hufB (symL l) (((l).take (min ((64 * k) + 64) l.length)).drop (64 * k)))⟩]), cL (Value.slice none 0 0) 3 (encN .i64) ([])] w_12 := Sat.pushParts (A := [cObj b_1 79 [(Value.int .i64 ((l.length : Nat) : Int)), (Value.int .i64 ((1 : Nat) : Int)), lv_1, v_3, (Value.int .i64 ((0 : Nat) : Int)), (Value.slice none 0 0)], cL lv_1 3 (encN .i64) (symL l), cL v_3 124 (encPt) (ps ++ [(⟨sv_1, (hufB (symL l) (((l).take (min ((64 * k) + 64) l.length)).drop (64 * k))).length, packB (hufB (symL l) (((l).take (min ((64 * k) + 64) l.length)).drop (64 * k)))⟩ : Pt)]), cParts (ps), cL (Value.slice none 0 0) 3 (encN .i64) ([])]) hs_19d 3 rfl
        exact ⟨(k + 1, v_3, ps ++ [⟨sv_1, (hufB (symL l) (((l).take (min ((64 * k) + 64) l.length)).drop (64 * k))).length, packB (hufB (symL l) (((l).take (min ((64 * k) + 64) l.length)).drop (64 * k)))⟩]), ⟨rfl, rfl, rfl, trivial⟩, ⟨hs_20, by omega, by rw [ptsOf_snoc, hps, pk1_succ, ← chk_eq]⟩, (show (l.length + 64 - 64 * (k + 1)) < (l.length + 64 - 64 * k) from by omega)⟩
      · refine CW.exit0 ?_
        refine CW.seq ?_
        refine CW.region ?_
        refine RT.ev rfl rfl (Ev.move rfl) <| RT.ev rfl rfl (Ev.assign rfl) ?_
        refine RT.nil ?_
        refine CW.ret ?_
        show PostK _ _ _ _ _ _
        refine post1 rfl rfl ?_
        have hs_21 : Sat w [cObj b_1 79 [(Value.int .i64 ((l.length : Nat) : Int)), (Value.int .i64 ((1 : Nat) : Int)), lv_1, bv, (Value.int .i64 ((0 : Nat) : Int)), (Value.slice none 0 0)], cL lv_1 3 (encN .i64) (symL l), cL bv 124 (encPt) (ps), cParts (ps), cL (Value.slice none 0 0) 3 (encN .i64) ([])] w_8 := hs_14.sub ((.cons_cons _ (.cons_cons _ (.cons_cons _ (.cons_cons _ (.cons_cons _ .slnil))))))
        have hkn : k = nbk l.length := by unfold nbk; omega
        exact ⟨_, _, _, ps, rfl, by rw [hps, hkn], hs_21⟩

theorem payload_ok (g n kind : Nat) (lv bv : Value) (lens : List Nat) (ps : List Pt) (w : World) (h0 : w.cell? ⟨g, 0, none⟩ = some (.int .i64 (n : Int))) (h1 : w.cell? ⟨g, 1, none⟩ = some (.int .i64 (kind : Int))) (h2 : w.cell? ⟨g, 2, none⟩ = some lv) (h3 : w.cell? ⟨g, 3, none⟩ = some bv) (hl : RdL w lv (encN .i64) lens) (hb : RdL w bv encPt ps) (hall : ∀ p ∈ ps, RdL w p.sv.val (encN .u8) p.bys) (hn : n ≤ 4096) (hk : kind ≤ 1) (hll : lens.length ≤ 1024) (hpl : ps.length ≤ 100) (hpb : ∀ p ∈ ps, p.bys.length ≤ 20000 ∧ p.bits ≤ 1000000) :
    CallsV Try.prog 61 [(Value.pointer (some ⟨g, 0, none⟩))] w fun r w' => Sat w [cL r 5 (encN .u8) (payl n kind lens (ptsOf ps))] w' := by
  have hs0 := Sat.start w
  refine callsV_of Try.func61 rfl rfl ?_
  refine CW.seq ?_
  refine CW.region ?_
  refine RT.ev rfl rfl (Ev.assign rfl) ?_
  refine RT.nil ?_
  refine CW.seq ?_
  have hu1 := uv_le n
  have hu2 := uv_le kind
  have hu3 := uv_le lens.length
  have hhd := hdP_length n kind lens
  refine CW.region ?_
  refine RT.ev rfl rfl (Ev.move rfl) <| RT.ev rfl rfl (Ev.nilCheck rfl) <| RT.ev rfl rfl (Ev.fieldAddr fld79_0 rfl rfl) <| RT.ev rfl rfl (Ev.load scal3 rfl (hs0.ext _ _ h0)) <| RT.ev rfl rfl (Ev.convK (by rw [Try.underlying3]; rfl) Try.underlying108 rfl (wrap_u rfl (by (try simp only [IntKind.bits]); omega))) ?_
  refine RT.eff rfl rfl (OpE.call ent83 rfl ((put_ok (Value.slice none 0 0) ([]) (n) _ (RdL.nil _ _) (by simp) (by omega)).mono fun r_1 w_1 h_1 => ?_))
  have hp_1 := h_1
  have hs_1 : Sat w [cL r_1 5 (encN .u8) (uv (n))] _ := hs0.adds hp_1
  refine RT.ev rfl rfl (Ev.assign rfl) ?_
  refine RT.nil ?_
  refine CW.seq ?_
  refine CW.region ?_
  refine RT.ev rfl rfl (Ev.move rfl) <| RT.ev rfl rfl (Ev.move rfl) <| RT.ev rfl rfl (Ev.nilCheck rfl) <| RT.ev rfl rfl (Ev.fieldAddr fld79_1 rfl rfl) <| RT.ev rfl rfl (Ev.load scal3 rfl (hs_1.ext _ _ h1)) <| RT.ev rfl rfl (Ev.convK (by rw [Try.underlying3]; rfl) Try.underlying108 rfl (wrap_u rfl (by (try simp only [IntKind.bits]); omega))) ?_
  refine RT.eff rfl rfl (OpE.call ent83 rfl ((put_ok r_1 (uv (n)) (kind) _ (hs_1.rdL 0 rfl) (by omega) (by omega)).mono fun r_2 w_2 h_2 => ?_))
  have hp_2 := h_2
  have hs_2 : Sat w [cL r_1 5 (encN .u8) (uv (n)), cL r_2 5 (encN .u8) (uv (n) ++ uv (kind))] _ := hs_1.adds hp_2
  refine RT.ev rfl rfl (Ev.assign rfl) ?_
  refine RT.nil ?_
  refine CW.seqMid (fun L' w' => ∃ (ov : Value), Weak [(0, (Value.pointer (some ⟨g, 0, none⟩))), (3, ov)] L' ∧ Sat w [cL ov 5 (encN .u8) (hdP n kind lens)] w') ?_ ?_
  · refine CW.seq ?_
    refine CW.region ?_
    refine RT.ev rfl rfl (Ev.move rfl) <| RT.ev rfl rfl (Ev.nilCheck rfl) <| RT.ev rfl rfl (Ev.fieldAddr fld79_1 rfl rfl) <| RT.ev rfl rfl (Ev.load scal3 rfl (hs_2.ext _ _ h1)) <| RT.ev rfl rfl (Ev.eqlN (b := 1) rfl rfl) ?_
    refine RT.nil ?_
    refine CW.condD rfl (fun hc_1 => ?_) (fun hc_1 => ?_)
    · refine CW.seq ?_
      refine CW.region ?_
      refine RT.ev rfl rfl (Ev.move rfl) <| RT.ev rfl rfl (Ev.move rfl) <| RT.ev rfl rfl (Ev.nilCheck rfl) <| RT.ev rfl rfl (Ev.fieldAddr fld79_2 rfl rfl) <| RT.ev rfl rfl (Ev.load scal22 rfl (hs_2.ext _ _ h2)) <| RT.ev rfl rfl (Ev.lenL Try.underlying22 rfl (hl.ext hs_2.ext)) <| RT.ev rfl rfl (Ev.convK (by rw [Try.underlying3]; rfl) Try.underlying108 rfl (wrap_u rfl (by (try simp only [IntKind.bits]); omega))) ?_
      refine RT.eff rfl rfl (OpE.call ent83 rfl ((put_ok r_2 (uv (n) ++ uv (kind)) (lens.length) _ (hs_2.rdL 1 rfl) (by simp only [List.length_append]; omega) (by omega)).mono fun r_3 w_3 h_3 => ?_))
      have hp_3 := h_3
      have hs_3 : Sat w [cL r_1 5 (encN .u8) (uv (n)), cL r_2 5 (encN .u8) (uv (n) ++ uv (kind)), cL r_3 5 (encN .u8) (uv (n) ++ uv (kind) ++ uv (lens.length))] _ := hs_2.adds hp_3
      refine RT.ev rfl rfl (Ev.assign rfl) ?_
      refine RT.nil ?_
      refine CW.seq ?_
      refine CW.region ?_
      refine RT.ev rfl rfl (Ev.move rfl) <| RT.ev rfl rfl (Ev.nilCheck rfl) <| RT.ev rfl rfl (Ev.fieldAddr fld79_2 rfl rfl) <| RT.ev rfl rfl (Ev.load scal22 rfl (hs_3.ext _ _ h2)) <| RT.ev rfl rfl (Ev.lenL Try.underlying22 rfl (hl.ext hs_3.ext)) <| RT.ev rfl rfl (Ev.move rfl) ?_
      refine RT.nil ?_
      refine CW.block ?_
      have hs_4 : Sat w [cL r_3 5 (encN .u8) (uv (n) ++ uv (kind) ++ uv (lens.length))] w_3 := hs_3.sub ((.cons _ (.cons _ (.cons_cons _ .slnil))))
      have hs_5 : Sat w [cL r_3 5 (encN .u8) (uv n ++ uv kind ++ uv lens.length ++ (lens.take (0)).map (· % 2 ^ 8))] w_3 := by
        have hq : uv (n) ++ uv (kind) ++ uv (lens.length) = uv n ++ uv kind ++ uv lens.length ++ (lens.take (0)).map (· % 2 ^ 8) := by simp
        rw [← hq]; exact hs_4
      refine CW.loop (α := Nat × Value) (fun (k, ov) => [(0, (Value.pointer (some ⟨g, 0, none⟩))), (3, ov), (37, lv), (38, (Value.int .i64 ((lens.length : Nat) : Int))), (39, (Value.int .i64 ((k : Nat) : Int)))]) (fun (k, ov) w' => Sat w [cL ov 5 (encN .u8) (uv n ++ uv kind ++ uv lens.length ++ (lens.take (k)).map (· % 2 ^ 8))] w' ∧ (k ≤ lens.length)) (fun (k, ov) => lens.length - k) (0, r_3) ⟨rfl, rfl, rfl, rfl, rfl, trivial⟩ ⟨hs_5, Nat.zero_le _⟩ ?_
      rintro ⟨k, ov⟩ w_4 ⟨hs_6, hkl⟩
      show CW _ _ _ _ [(0, (Value.pointer (some ⟨g, 0, none⟩))), (3, ov), (37, lv), (38, (Value.int .i64 ((lens.length : Nat) : Int))), (39, (Value.int .i64 ((k : Nat) : Int)))] _
      refine CW.seq ?_
      refine CW.region ?_
      refine RT.ev rfl rfl (Ev.lssN rfl rfl) ?_
      refine RT.nil ?_
      refine CW.seq ?_
      refine CW.condD rfl (fun hc_2 => ?_) (fun hc_2 => ?_)
      · refine CW.skip ?_
        refine CW.seq ?_
        refine CW.block ?_
        refine CW.seq ?_
        obtain ⟨x, hx⟩ : ∃ x, (lens)[k]? = some x := ⟨_, List.getElem?_eq_getElem hc_2⟩
        refine CW.region ?_
        refine RT.ev rfl rfl (Ev.idxL (E := encN .i64) sl22 rfl rfl (hl.ext hs_6.ext) (by omega)) <| RT.ev rfl rfl (Ev.ldL (E := encN .i64) scal3 rfl (hl.ext hs_6.ext) hx (by decide) rfl) <| RT.ev rfl rfl (Ev.assign rfl) ?_
        refine RT.nil ?_
        refine CW.region ?_
        refine RT.ev rfl rfl (Ev.move rfl) <| RT.ev rfl rfl (Ev.move rfl) <| RT.ev rfl rfl (Ev.convN (by rw [Try.underlying3]; rfl) Try.underlying5 rfl rfl) ?_
        refine RT.eff rfl rfl (OpE.lit1 (encN .u8) (x % 2 ^ 8) sl40 rfl hs_6 rfl fun v_1 w_5 hs_7 hch_1 => ?_)
        have hs_7d : Sat w [cL ov 5 (encN .u8) (uv n ++ uv kind ++ uv lens.length ++ (lens.take (k)).map (· % 2 ^ 8)), cL v_1 5 (encN .u8) ([(x % 2 ^ 8)])] _ := hs_7
        refine RT.eff rfl rfl (OpE.appendL 0 sl40 hs_7d rfl rfl rfl Try.underlying40 (hs_7d.rdL 1 rfl) (by simp only [List.length_append, List.length_map, List.length_take, List.length_cons, List.length_nil]; omega) (by simp only [List.length_append, List.length_map, List.length_take, List.length_cons, List.length_nil]; omega) fun v_2 w_6 hs_8 hch_2 => ?_)
        have hs_8d : Sat w [cL v_2 5 (encN .u8) (uv n ++ uv kind ++ uv lens.length ++ (lens.take (k)).map (· % 2 ^ 8) ++ [(x % 2 ^ 8)])] _ := hs_8.drop 1
        refine RT.ev rfl rfl (Ev.assign rfl) ?_
        refine RT.nil ?_
        refine CW.region ?_
        refine RT.ev rfl rfl (Ev.addI (b := 1) rfl rfl (by omega)) <| RT.ev rfl rfl (Ev.move rfl) ?_
        refine RT.nil ?_
        have hs_9 : Sat w [cL v_2 5 (encN .u8) (uv n ++ uv kind ++ uv lens.length ++ (lens.take (k)).map (· % 2 ^ 8) ++ [(x % 2 ^ 8)])] w_6 := hs_8d.sub ((.cons_cons _ .slnil))
        have hs_10 : Sat w [cL v_2 5 (encN .u8) (uv n ++ uv kind ++ uv lens.length ++ (lens.take (k + 1)).map (· % 2 ^ 8))] w_6 := by
          have hq : uv n ++ uv kind ++ uv lens.length ++ (lens.take (k)).map (· % 2 ^ 8) ++ [(x % 2 ^ 8)] = uv n ++ uv kind ++ uv lens.length ++ (lens.take (k + 1)).map (· % 2 ^ 8) := by rw [take_succ_of hx]; simp
          rw [← hq]; exact hs_9
        exact ⟨(k + 1, v_2), ⟨rfl, rfl, rfl, rfl, rfl, trivial⟩, ⟨hs_10, by omega⟩, (show (lens.length - (k + 1)) < (lens.length - k) from by omega)⟩
      · refine CW.exit0 ?_
        have hs_11 : Sat w [cL ov 5 (encN .u8) (uv n ++ uv kind ++ uv lens.length ++ (lens.take (k)).map (· % 2 ^ 8))] w_4 := hs_6.sub ((.cons_cons _ .slnil))
        have hs_12 : Sat w [cL ov 5 (encN .u8) (hdP n kind lens)] w_4 := by
          have hq : uv n ++ uv kind ++ uv lens.length ++ (lens.take (k)).map (· % 2 ^ 8) = hdP n kind lens := by rw [hdP, if_pos (hc_1), show k = lens.length by omega, List.take_length]; simp
          rw [← hq]; exact hs_11
        exact ⟨ov, ⟨rfl, rfl, trivial⟩, hs_12⟩
    · refine CW.skip ?_
      have hs_13 : Sat w [cL r_2 5 (encN .u8) (uv (n) ++ uv (kind))] w_2 := hs_2.sub ((.cons _ (.cons_cons _ .slnil)))
      have hs_14 : Sat w [cL r_2 5 (encN .u8) (hdP n kind lens)] w_2 := by
        have hq : uv (n) ++ uv (kind) = hdP n kind lens := by rw [hdP, if_neg hc_1]; simp
        rw [← hq]; exact hs_13
      exact ⟨r_2, ⟨rfl, rfl, trivial⟩, hs_14⟩
  · rintro L' w_7 ⟨ov, hw_1, hs_15⟩
    refine CW.weaken _ hw_1 ?_
    refine CW.seq ?_
    refine CW.seq ?_
    refine CW.region ?_
    refine RT.ev rfl rfl (Ev.move rfl) <| RT.ev rfl rfl (Ev.nilCheck rfl) <| RT.ev rfl rfl (Ev.fieldAddr fld79_3 rfl rfl) <| RT.ev rfl rfl (Ev.load scal77 rfl (hs_15.ext _ _ h3)) <| RT.ev rfl rfl (Ev.lenL Try.underlying77 rfl (hb.ext hs_15.ext)) <| RT.ev rfl rfl (Ev.move rfl) ?_
    refine RT.nil ?_
    refine CW.block ?_
    have hs_16 : Sat w [cL ov 5 (encN .u8) (hdP n kind lens ++ pld kind ((ptsOf ps).take (0)))] w_7 := by
      have hq : hdP n kind lens = hdP n kind lens ++ pld kind ((ptsOf ps).take (0)) := by simp [pld]
      rw [← hq]; exact hs_15
    refine CW.loop (α := Nat × Value) (fun (k, ov) => [(0, (Value.pointer (some ⟨g, 0, none⟩))), (3, ov), (52, bv), (53, (Value.int .i64 ((ps.length : Nat) : Int))), (54, (Value.int .i64 ((k : Nat) : Int)))]) (fun (k, ov) w' => Sat w [cL ov 5 (encN .u8) (hdP n kind lens ++ pld kind ((ptsOf ps).take (k)))] w' ∧ (k ≤ ps.length) ∧ ((pld kind ((ptsOf ps).take k)).length ≤ 20010 * k)) (fun (k, ov) => ps.length - k) (0, ov) ⟨rfl, rfl, rfl, rfl, rfl, trivial⟩ ⟨hs_16, Nat.zero_le _, by simp [pld]⟩ ?_
    rintro ⟨k, ov⟩ w_8 ⟨hs_17, hkl, hpk⟩
    show CW _ _ _ _ [(0, (Value.pointer (some ⟨g, 0, none⟩))), (3, ov), (52, bv), (53, (Value.int .i64 ((ps.length : Nat) : Int))), (54, (Value.int .i64 ((k : Nat) : Int)))] _
    refine CW.seq ?_
    refine CW.region ?_
    refine RT.ev rfl rfl (Ev.lssN rfl rfl) ?_
    refine RT.nil ?_
    refine CW.seq ?_
    refine CW.condD rfl (fun hc_3 => ?_) (fun hc_3 => ?_)
    · refine CW.skip ?_
      refine CW.seq ?_
      refine CW.block ?_
      refine CW.seq ?_
      obtain ⟨x, hx⟩ : ∃ x, (ps)[k]? = some x := ⟨_, List.getElem?_eq_getElem hc_3⟩
      refine CW.region ?_
      refine RT.ev rfl rfl (Ev.idxL (E := encPt) sl77 rfl rfl (hb.ext hs_17.ext) (by omega)) <| RT.ev rfl rfl (Ev.ldAgg (E := encPt) agg124 rfl (hb.ext hs_17.ext) hx (by decide)) ?_
      refine RT.eff rfl rfl (OpE.alloc hs_17 zero124 fun b_1 w_9 hs_18 hch_3 hb_1 => ?_)
      have hs_18d : Sat w [cL ov 5 (encN .u8) (hdP n kind lens ++ pld kind ((ptsOf ps).take (k))), cObj b_1 124 [(Value.slice none 0 0), (Value.int .i64 ((0 : Nat) : Int))]] _ := hs_18
      refine RT.eff rfl rfl (OpE.storeObjA (vs := (encPt).enc x) agg124 hs_18d (i := 1) rfl rfl rfl rfl ((encPt).one _) fun w_10 hs_19 hch_4 => ?_)
      have hs_19d : Sat w [cL ov 5 (encN .u8) (hdP n kind lens ++ pld kind ((ptsOf ps).take (k))), cObj b_1 124 [x.sv.val, (Value.int .i64 ((x.bits : Nat) : Int))]] _ := hs_19
      refine RT.nil ?_
      refine CW.seq ?_
      refine CW.seq ?_
      have hxb := hpb x (mem_of_get hx)
      have hu5 := uv_le x.bys.length
      have hu6 := uv_le x.bits
      refine CW.region ?_
      refine RT.ev rfl rfl (Ev.move rfl) <| RT.ev rfl rfl (Ev.nilCheck rfl) <| RT.ev rfl rfl (Ev.fieldAddr fld79_1 rfl rfl) <| RT.ev rfl rfl (Ev.load scal3 rfl (hs_19d.ext _ _ h1)) <| RT.ev rfl rfl (Ev.eqlN (b := 0) rfl rfl) ?_
      refine RT.nil ?_
      refine CW.condD rfl (fun hc_4 => ?_) (fun hc_4 => ?_)
      · refine CW.region ?_
        refine RT.ev rfl rfl (Ev.move rfl) <| RT.ev rfl rfl (Ev.fieldAddr fld124_0 rfl rfl) <| RT.ev rfl rfl (Ev.load scal40 rfl (hs_19d.cell (i := 1) (j := 0) rfl rfl)) <| RT.ev rfl rfl (Ev.lenL Try.underlying40 rfl ((hall x (mem_of_get hx)).ext hs_19d.ext)) <| RT.ev rfl rfl (Ev.convK (by rw [Try.underlying3]; rfl) Try.underlying108 rfl (wrap_u rfl (by (try simp only [IntKind.bits]); omega))) ?_
        refine RT.eff rfl rfl (OpE.call ent83 rfl ((put_ok ov (hdP n kind lens ++ pld kind ((ptsOf ps).take (k))) (x.bys.length) _ (hs_19d.rdL 0 rfl) (by simp only [List.length_append]; omega) (by omega)).mono fun r_4 w_11 h_4 => ?_))
        have hp_4 := h_4
        have hs_20 : Sat w [cL ov 5 (encN .u8) (hdP n kind lens ++ pld kind ((ptsOf ps).take (k))), cObj b_1 124 [x.sv.val, (Value.int .i64 ((x.bits : Nat) : Int))], cL r_4 5 (encN .u8) (hdP n kind lens ++ pld kind ((ptsOf ps).take (k)) ++ uv (x.bys.length))] _ := hs_19d.adds hp_4
        refine RT.ev rfl rfl (Ev.assign rfl) ?_
        refine RT.nil ?_
        refine CW.region ?_
        refine RT.ev rfl rfl (Ev.move rfl) <| RT.ev rfl rfl (Ev.fieldAddr fld124_0 rfl rfl) <| RT.ev rfl rfl (Ev.load scal40 rfl (hs_20.cell (i := 1) (j := 0) rfl rfl)) ?_
        refine RT.eff rfl rfl (OpE.appendL 2 sl40 hs_20 rfl rfl rfl Try.underlying40 ((hall x (mem_of_get hx)).ext hs_20.ext) (by simp only [List.length_append]; omega) (by simp only [List.length_append]; omega) fun v_3 w_12 hs_21 hch_5 => ?_)
        have hs_21d : Sat w [cL ov 5 (encN .u8) (hdP n kind lens ++ pld kind ((ptsOf ps).take (k))), cObj b_1 124 [x.sv.val, (Value.int .i64 ((x.bits : Nat) : Int))], cL v_3 5 (encN .u8) (hdP n kind lens ++ pld kind ((ptsOf ps).take (k)) ++ uv (x.bys.length) ++ x.bys)] _ := hs_21
        refine RT.ev rfl rfl (Ev.assign rfl) ?_
        refine RT.nil ?_
        refine CW.region ?_
        refine RT.ev rfl rfl (Ev.addI (b := 1) rfl rfl (by omega)) <| RT.ev rfl rfl (Ev.move rfl) ?_
        refine RT.nil ?_
        have hs_22 : Sat w [cL v_3 5 (encN .u8) (hdP n kind lens ++ pld kind ((ptsOf ps).take (k)) ++ uv (x.bys.length) ++ x.bys)] w_12 := hs_21d.sub ((.cons _ (.cons _ (.cons_cons _ .slnil))))
        have hs_23 : Sat w [cL v_3 5 (encN .u8) (hdP n kind lens ++ pld kind ((ptsOf ps).take (k + 1)))] w_12 := by
          have hq : hdP n kind lens ++ pld kind ((ptsOf ps).take (k)) ++ uv (x.bys.length) ++ x.bys = hdP n kind lens ++ pld kind ((ptsOf ps).take (k + 1)) := by rw [take_succ_of (ptsOf_get hx), pld_snoc, pld1]; simp [show kind = 0 from hc_4]
          rw [← hq]; exact hs_22
        exact ⟨(k + 1, v_3), ⟨rfl, rfl, rfl, rfl, rfl, trivial⟩, ⟨hs_23, by omega, by rw [take_succ_of (ptsOf_get hx), pld_snoc, pld1]; simp only [List.length_append, if_pos hc_4]; omega⟩, (show (ps.length - (k + 1)) < (ps.length - k) from by omega)⟩
      · refine CW.region ?_
        refine RT.ev rfl rfl (Ev.move rfl) <| RT.ev rfl rfl (Ev.fieldAddr fld124_1 rfl rfl) <| RT.ev rfl rfl (Ev.load scal3 rfl (hs_19d.cell (i := 1) (j := 1) rfl rfl)) <| RT.ev rfl rfl (Ev.convK (by rw [Try.underlying3]; rfl) Try.underlying108 rfl (wrap_u rfl (by (try simp only [IntKind.bits]); omega))) ?_
        refine RT.eff rfl rfl (OpE.call ent83 rfl ((put_ok ov (hdP n kind lens ++ pld kind ((ptsOf ps).take (k))) (x.bits) _ (hs_19d.rdL 0 rfl) (by simp only [List.length_append]; omega) (by omega)).mono fun r_5 w_13 h_5 => ?_))
        have hp_5 := h_5
        have hs_24 : Sat w [cL ov 5 (encN .u8) (hdP n kind lens ++ pld kind ((ptsOf ps).take (k))), cObj b_1 124 [x.sv.val, (Value.int .i64 ((x.bits : Nat) : Int))], cL r_5 5 (encN .u8) (hdP n kind lens ++ pld kind ((ptsOf ps).take (k)) ++ uv (x.bits))] _ := hs_19d.adds hp_5
        refine RT.ev rfl rfl (Ev.assign rfl) ?_
        refine RT.nil ?_
        refine CW.region ?_
        refine RT.ev rfl rfl (Ev.move rfl) <| RT.ev rfl rfl (Ev.fieldAddr fld124_0 rfl rfl) <| RT.ev rfl rfl (Ev.load scal40 rfl (hs_24.cell (i := 1) (j := 0) rfl rfl)) ?_
        refine RT.eff rfl rfl (OpE.appendL 2 sl40 hs_24 rfl rfl rfl Try.underlying40 ((hall x (mem_of_get hx)).ext hs_24.ext) (by simp only [List.length_append]; omega) (by simp only [List.length_append]; omega) fun v_4 w_14 hs_25 hch_6 => ?_)
        have hs_25d : Sat w [cL ov 5 (encN .u8) (hdP n kind lens ++ pld kind ((ptsOf ps).take (k))), cObj b_1 124 [x.sv.val, (Value.int .i64 ((x.bits : Nat) : Int))], cL v_4 5 (encN .u8) (hdP n kind lens ++ pld kind ((ptsOf ps).take (k)) ++ uv (x.bits) ++ x.bys)] _ := hs_25
        refine RT.ev rfl rfl (Ev.assign rfl) ?_
        refine RT.nil ?_
        refine CW.region ?_
        refine RT.ev rfl rfl (Ev.addI (b := 1) rfl rfl (by omega)) <| RT.ev rfl rfl (Ev.move rfl) ?_
        refine RT.nil ?_
        have hs_26 : Sat w [cL v_4 5 (encN .u8) (hdP n kind lens ++ pld kind ((ptsOf ps).take (k)) ++ uv (x.bits) ++ x.bys)] w_14 := hs_25d.sub ((.cons _ (.cons _ (.cons_cons _ .slnil))))
        have hs_27 : Sat w [cL v_4 5 (encN .u8) (hdP n kind lens ++ pld kind ((ptsOf ps).take (k + 1)))] w_14 := by
          have hq : hdP n kind lens ++ pld kind ((ptsOf ps).take (k)) ++ uv (x.bits) ++ x.bys = hdP n kind lens ++ pld kind ((ptsOf ps).take (k + 1)) := by rw [take_succ_of (ptsOf_get hx), pld_snoc, pld1]; simp [hc_4]
          rw [← hq]; exact hs_26
        exact ⟨(k + 1, v_4), ⟨rfl, rfl, rfl, rfl, rfl, trivial⟩, ⟨hs_27, by omega, by rw [take_succ_of (ptsOf_get hx), pld_snoc, pld1]; simp only [List.length_append, if_neg hc_4]; omega⟩, (show (ps.length - (k + 1)) < (ps.length - k) from by omega)⟩
    · refine CW.exit0 ?_
      refine CW.seq ?_
      refine CW.region ?_
      refine RT.ev rfl rfl (Ev.move rfl) <| RT.ev rfl rfl (Ev.assign rfl) ?_
      refine RT.nil ?_
      refine CW.ret ?_
      show PostK _ _ _ _ _ _
      refine post1 rfl rfl ?_
      have hs_28 : Sat w [cL ov 5 (encN .u8) (payl n kind lens (ptsOf ps))] w_8 := by
        have hq : hdP n kind lens ++ pld kind ((ptsOf ps).take (k)) = payl n kind lens (ptsOf ps) := by rw [payl, show k = (ptsOf ps).length by rw [ptsOf_length]; omega, List.take_length]
        rw [← hq]; exact hs_17
      exact hs_28

end Go.Proofs.Ytfhbflhnelbkfaa
