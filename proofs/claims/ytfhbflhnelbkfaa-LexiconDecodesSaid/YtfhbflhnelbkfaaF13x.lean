/- The walks of the functions of F13x, printed by our own program (kwgen.py) out of our descriptions (base.py). -/
import Derived.Test.YtfhbflhnelbkfaaF13z
import Derived.Test.YtfhbflhnelbkfaaM02v
import Derived.Test.YtfhbflhnelbkfaaTab
namespace Go.Proofs.Ytfhbflhnelbkfaa
open Go.RowKit Go.Kw
set_option maxRecDepth 100000
set_option linter.unusedVariables false
set_option linter.unusedSimpArgs false
theorem tk_cons {l : List Nat} (hb : ∀ y ∈ l, y < 256) (h : (uvR l).2.2 = 0) : l = uv (uvR l).1 ++ (l.take l.length).drop (uvR l).2.1 := by
  rw [List.take_length]; exact (uvR_inv hb h).1
def lastD (q : ByteArray) : List ByteArray → ByteArray
  | [] => q
  | y :: W => lastD y W
theorem lastD_snoc (x : ByteArray) : ∀ (q : ByteArray) (W : List ByteArray), lastD q (W ++ [x]) = x
  | _, [] => rfl
  | _, y :: W => lastD_snoc x y W
theorem encL_snoc (x : ByteArray) (c : Nat) : ∀ (q : ByteArray) (W : List ByteArray) (C : List Nat), C.length = W.length → encL q (W ++ [x]) (C ++ [c]) = encL q W C ++ enc1 (lastD q W) x c
  | q, [], [], _ => by simp [encL, lastD]
  | q, y :: W, d :: C, h => by
    have ih := encL_snoc x c y W C (by simpa using h)
    simp only [List.cons_append, encL, ih, lastD, List.append_assoc]
  | _, [], _ :: _, h => by simp at h
  | _, _ :: _, [], h => by simp at h
theorem strB_strOf {s : List Nat} (h : ∀ y ∈ s, y < 256) : strB (strOf s) = s := by
  unfold strB strOf
  simp only [List.map_map]
  refine (List.map_congr_left fun y hy => ?_).trans (List.map_id _)
  have := h y hy
  simp; omega
theorem enc_match {p x : ByteArray} {a0 a1 c : Nat} {s : List Nat} (hs : ∀ y ∈ s, y < 256) (ha : a0 ≤ p.size) (hl : s.length = a1) (hx : x = p.extract 0 a0 ++ strOf s) (hc : comN p x = a0) : enc1 p x (c + 1) = uv a0 ++ (uv a1 ++ (s ++ uv c)) := by
  have h1 : (p.extract 0 a0).size = a0 := by rw [ByteArray.size_extract]; omega
  have h2 : x.size = a0 + a1 := by rw [hx, ByteArray.size_append, h1, strOf_size, hl]
  have h3 : x.extract a0 x.size = strOf s := by
    refine bytes_ext ?_
    rw [ext_list]
    have e : x.data.toList = (p.extract 0 a0).data.toList ++ (strOf s).data.toList := by rw [hx]; simp
    have h4 : (p.extract 0 a0).data.toList.length = a0 := by rw [bsz, h1]
    rw [e, List.drop_left' h4, List.take_of_length_le (by rw [bsz, strOf_size]; omega)]
  unfold enc1
  rw [hc, h3, strB_strOf hs, h2, Nat.add_sub_cancel_left, Nat.add_sub_cancel]
  simp only [List.append_assoc]
theorem dec28 {A : Nat} {B D : Prop} {v : Bool} (h : ¬ (((A ≠ 0 ∨ B) ∨ D) ∨ ((!v) = true))) : A = 0 ∧ ¬ B ∧ ¬ D ∧ v = true :=
  ⟨Classical.byContradiction fun a => h (.inl (.inl (.inl a))), fun b => h (.inl (.inl (.inr b))), fun d => h (.inl (.inr d)), by cases v; exact absurd (.inr rfl) h; rfl⟩
theorem dec32 {A B : Prop} {m n : Nat} (h : ¬ (A ∧ ((¬ B) ∨ (m ≠ n)))) : A → B ∧ m = n := fun a =>
  ⟨Classical.byContradiction fun nb => h ⟨a, .inl nb⟩, Classical.byContradiction fun ne => h ⟨a, .inr ne⟩⟩

theorem rdec_no (v : Value) (b : List Nat) (w : World) (hv : RdL w v (encN .u8) b) (hb : ∀ x ∈ b, x < 256) (hbn : b.length ≤ 1000000) (hno : ¬ ∃ W C, OkLex W C ∧ b = sealN (encA W C W.length)) :
    CallsV Try.prog 53 [v] w fun r w' => ∃ x y, x.oneCell' = true ∧ y.oneCell' = true ∧ r = .tuple #[.agg #[x, y], .bool false] ∧ Sat w [] w' := by
  have hs0 := Sat.start w
  refine callsV_of Try.func53 rfl rfl ?_
  refine CW.seq ?_
  refine CW.region ?_
  refine RT.eff rfl rfl (OpE.alloc hs0 zero51 fun b_1 w_1 hs_1 hch_1 hb_1 => ?_)
  have hs_1d : Sat w [cObj b_1 51 [(Value.slice none 0 0), (Value.slice none 0 0)]] _ := hs_1
  refine RT.ev rfl rfl (Ev.assign rfl) ?_
  refine RT.nil ?_
  refine CW.seq ?_
  rcases Classical.em (∃ p, b = sealN p) with hun | hun
  · obtain ⟨p0, hp0⟩ := hun
    have hpb : ∀ y ∈ p0, y < 256 := fun y hy => hb y (by rw [hp0]; exact List.mem_append_left _ hy)
    have hpn : p0.length + 4 ≤ 1000000 := by rw [← sealN_length, ← hp0]; exact hbn
    refine CW.region ?_
    refine RT.ev rfl rfl (Ev.move rfl) ?_
    refine RT.eff rfl rfl (OpE.call ent89 rfl ((runseal_good (hv.ext hs_1d.ext) hb (by omega) hp0).mono fun r_1 w_2 h_1 => ?_))
    obtain ⟨vp, rfl, hp_1⟩ := h_1
    have hs_2 : Sat w [cObj b_1 51 [(Value.slice none 0 0), (Value.slice none 0 0)], cL vp 5 (encN .u8) (p0)] _ := hs_1d.adds hp_1
    refine RT.ev rfl rfl (Ev.move rfl) ?_
    refine RT.ev rfl rfl (Ev.extract rfl rfl) ?_
    refine RT.ev rfl rfl (Ev.extract rfl rfl) ?_
    refine RT.ev rfl rfl (Ev.assign rfl) ?_
    refine RT.ev rfl rfl (Ev.assign rfl) ?_
    refine RT.nil ?_
    refine CW.seq ?_
    refine CW.seq ?_
    refine CW.region ?_
    refine RT.ev rfl rfl (Ev.move rfl) ?_
    refine RT.ev rfl rfl (Ev.notB rfl) ?_
    refine RT.nil ?_
    refine CW.condF rfl (rfl) ?_
    refine CW.skip ?_
    refine CW.seq ?_
    refine CW.region ?_
    refine RT.ev rfl rfl (Ev.build bt51 rfl trivial rfl) ?_
    refine RT.eff rfl rfl (OpE.alloc hs_2 zero51 fun b_2 w_3 hs_3 hch_2 hb_2 => ?_)
    have hs_3d : Sat w [cObj b_1 51 [(Value.slice none 0 0), (Value.slice none 0 0)], cL vp 5 (encN .u8) (p0), cObj b_2 51 [(Value.slice none 0 0), (Value.slice none 0 0)]] _ := hs_3
    refine RT.eff rfl rfl (OpE.storeObjA (vs := [(Value.slice none 0 0), (Value.slice none 0 0)]) agg51 hs_3d (i := 2) rfl rfl rfl rfl (fun v h => by simp only [List.mem_cons, List.not_mem_nil, or_false] at h; rcases h with rfl | rfl; exact rfl; exact rfl) fun w_4 hs_4 hch_3 => ?_)
    have hs_4d : Sat w [cObj b_1 51 [(Value.slice none 0 0), (Value.slice none 0 0)], cL vp 5 (encN .u8) (p0), cObj b_2 51 [(Value.slice none 0 0), (Value.slice none 0 0)]] _ := hs_4
    refine RT.nil ?_
    refine CW.seq ?_
    have hbv0 : ∀ w9, RdL w9 vp (encN .u8) p0 → RdL w9 vp (encN .u8) p0 := fun w9 h9 => h9
    refine CW.region ?_
    refine RT.ev rfl rfl (Ev.move rfl) ?_
    refine RT.eff rfl rfl (OpE.call ent90 rfl ((rtk_ok _ (p0) _ (hbv0 _ (hs_4d.rdL 1 rfl)) (hpb)).mono fun r_2 w_5 h_2 => ?_))
    obtain ⟨rfl, hp_2⟩ := h_2
    have hs_5 : Sat w [cObj b_1 51 [(Value.slice none 0 0), (Value.slice none 0 0)], cL vp 5 (encN .u8) (p0), cObj b_2 51 [(Value.slice none 0 0), (Value.slice none 0 0)]] _ := hs_4d.adds hp_2
    refine RT.ev rfl rfl (Ev.move rfl) ?_
    refine RT.ev rfl rfl (Ev.extract rfl rfl) ?_
    refine RT.ev rfl rfl (Ev.extract rfl rfl) ?_
    refine RT.ev rfl rfl (Ev.extract rfl rfl) ?_
    refine RT.ev rfl rfl (Ev.assign rfl) ?_
    refine RT.ev rfl rfl (Ev.assign rfl) ?_
    refine RT.ev rfl rfl (Ev.assign rfl) ?_
    refine RT.nil ?_
    refine CW.seq ?_
    refine CW.seq ?_
    refine CW.mid (fun L' w' => Weak [(0, v), (2, (Value.pointer (some ⟨b_1, 0, none⟩))), (3, (Value.bool false)), (4, vp), (5, (Value.bool true)), (6, (Value.pointer (some ⟨b_2, 0, none⟩))), (7, (Value.int .u64 (((uvR p0).1 : Nat) : Int))), (8, (Value.int .i64 (((uvR p0).2.1 : Nat) : Int))), (9, (Value.int .i64 (((uvR p0).2.2 : Nat) : Int))), (25, (Value.bool false)), (39, (Value.bool (decide (((uvR p0).2.2 ≠ 0) ∨ (1024 < (uvR p0).1)))))] L' ∧ Sat w [cObj b_1 51 [(Value.slice none 0 0), (Value.slice none 0 0)], cL vp 5 (encN .u8) (p0), cObj b_2 51 [(Value.slice none 0 0), (Value.slice none 0 0)]] w') ?_ ?_
    · refine CW.region ?_
      refine RT.ev rfl rfl (Ev.move rfl) ?_
      refine RT.ev rfl rfl (Ev.neqN (b := 0) rfl rfl) ?_
      refine RT.ev rfl rfl (Ev.move rfl) ?_
      by_cases hg_1 : (uvR p0).2.2 ≠ 0
      · refine RT.no rfl rfl rfl (decide_eq_true hg_1) rfl ?_
        refine RT.no rfl rfl rfl (decide_eq_true hg_1) rfl ?_
        refine RT.ev rfl rfl (Ev.pickY rfl (decide_eq_true hg_1) rfl) ?_
        refine RT.nil ?_
        exact ⟨⟨rfl, rfl, rfl, rfl, rfl, rfl, rfl, rfl, rfl, rfl, congrArg some (congrArg Value.bool (by simp [hg_1])), trivial⟩, hs_5⟩
      · refine RT.yes rfl rfl rfl (decide_eq_false hg_1) ?_
        refine RT.ev rfl rfl (Ev.move rfl) ?_
        refine RT.yes rfl rfl rfl (decide_eq_false hg_1) ?_
        refine RT.ev rfl rfl (Ev.gtrN (b := 1024) rfl rfl) ?_
        refine RT.ev rfl rfl (Ev.pickN rfl (decide_eq_false hg_1) rfl) ?_
        refine RT.nil ?_
        exact ⟨⟨rfl, rfl, rfl, rfl, rfl, rfl, rfl, rfl, rfl, rfl, congrArg some (congrArg Value.bool (by simp [hg_1])), trivial⟩, hs_5⟩
    · rintro L' w_6 ⟨hw_1, hs_6⟩
      refine CW.weaken _ hw_1 ?_
      refine CW.condD rfl (fun hc_1 => ?_) (fun hc_1 => ?_)
      · refine CW.seq ?_
        refine CW.region ?_
        refine RT.ev rfl rfl (Ev.build bt51 rfl trivial rfl) ?_
        refine RT.eff rfl rfl (OpE.storeObjA (vs := [(Value.slice none 0 0), (Value.slice none 0 0)]) agg51 hs_6 (i := 0) rfl rfl rfl rfl (fun v h => by simp only [List.mem_cons, List.not_mem_nil, or_false] at h; rcases h with rfl | rfl; exact rfl; exact rfl) fun w_7 hs_7 hch_4 => ?_)
        have hs_7d : Sat w [cObj b_1 51 [(Value.slice none 0 0), (Value.slice none 0 0)], cL vp 5 (encN .u8) (p0), cObj b_2 51 [(Value.slice none 0 0), (Value.slice none 0 0)]] _ := hs_7
        refine RT.ev rfl rfl (Ev.assign rfl) ?_
        refine RT.nil ?_
        refine CW.ret ?_
        show PostK _ _ _ _ _ _
        refine post2c (vs := [(Value.slice none 0 0), (Value.slice none 0 0)]) rfl rfl rfl agg51 (fun j u hu => hs_7d.cell (i := 0) rfl hu) ?_
        have hs_8 : Sat w [] w_7 := hs_7d.sub ((.cons _ (.cons _ (.cons _ .slnil))))
        exact ⟨_, _, rfl, rfl, rfl, hs_8⟩
      · refine CW.skip ?_
        refine CW.seq ?_
        have hE0 : (uvR p0).2.2 = 0 ∧ (uvR p0).1 ≤ 1024 := by have := hc_1; omega
        refine CW.region ?_
        refine RT.ev rfl rfl (Ev.move rfl) ?_
        refine RT.ev rfl rfl (Ev.move rfl) ?_
        refine RT.ev rfl rfl (Ev.sliceL (E := encN .u8) (a := (uvR p0).2.1) (c := (p0).length) sl40 rfl (hbv0 _ (hs_6.rdL 1 rfl)) ⟨_, rfl⟩ rfl (uvR_le _) (Nat.le_refl _)) ?_
        refine RT.ev rfl rfl (Ev.assign rfl) ?_
        refine RT.nil ?_
        refine CW.seq ?_
        refine CW.region ?_
        refine RT.ev rfl rfl (Ev.assign rfl) ?_
        refine RT.nil ?_
        refine CW.seq ?_
        refine CW.region ?_
        refine RT.ev rfl rfl (Ev.assign rfl) ?_
        refine RT.nil ?_
        refine CW.seq ?_
        refine CW.seq ?_
        refine CW.region ?_
        refine RT.ev rfl rfl (Ev.assign rfl) ?_
        refine RT.nil ?_
        refine CW.block ?_
        have hs_9 : Sat w [cObj b_1 51 [(Value.slice none 0 0), (Value.slice none 0 0)], cL vp 5 (encN .u8) (p0), cObj b_2 51 [(Value.slice none 0 0), (Value.slice none 0 0)], cL (Value.slice none 0 0) 9 (encTx) ([])] _ := hs_6.newNilL 9 (encTx)
        have hs_10 : Sat w [cObj b_1 51 [(Value.slice none 0 0), (Value.slice none 0 0)], cL vp 5 (encN .u8) (p0), cObj b_2 51 [(Value.slice none 0 0), (Value.slice none 0 0)], cL (Value.slice none 0 0) 9 (encTx) ([]), cL (Value.slice none 0 0) 3 (encN .i64) ([])] _ := hs_9.newNilL 3 (encN .i64)
        refine CW.loop (α := Value × List Nat × ByteArray × Nat × Value × Value × List ByteArray × List Nat) (fun (bv, l, p, z, vw, vc, W, C) => [(2, (Value.pointer (some ⟨b_1, 0, none⟩))), (4, bv), (6, (Value.pointer (some ⟨b_2, 0, none⟩))), (7, (Value.int .u64 (((uvR p0).1 : Nat) : Int))), (10, (Value.int .i64 ((z : Nat) : Int))), (11, (Value.string p)), (12, (Value.int .u64 ((W.length : Nat) : Int)))]) (fun (bv, l, p, z, vw, vc, W, C) w' => Sat w [cObj b_1 51 [(Value.slice none 0 0), (Value.slice none 0 0)], cL vp 5 (encN .u8) (p0), cObj b_2 51 [vw, vc], cL vw 9 (encTx) (W), cL vc 3 (encN .i64) (C)] w' ∧ (∀ w9, RdL w9 vp (encN .u8) p0 → RdL w9 bv (encN .u8) l) ∧ (∀ y ∈ l, y < 256) ∧ (l.length ≤ 1000000) ∧ (p0 = uv (uvR p0).1 ++ (encL (ByteArray.mk #[]) W C ++ l)) ∧ (p = lastD (ByteArray.mk #[]) W) ∧ (okW W) ∧ (C.length = W.length) ∧ (∀ x ∈ W, x.size ≤ 120) ∧ (∀ c ∈ C, 1 ≤ c ∧ c ≤ 4096) ∧ (z = C.sum) ∧ (z ≤ W.length * 4096) ∧ (p.size ≤ 120) ∧ (∀ y ∈ W, y = p ∨ SLt y p) ∧ (W.length ≤ (uvR p0).1)) (fun (bv, l, p, z, vw, vc, W, C) => (uvR p0).1 - W.length) ((subSl (encN .u8).s vp ((uvR p0).2.1) ((p0).length)), ((p0).take ((p0).length)).drop ((uvR p0).2.1), (ByteArray.mk #[]), 0, (Value.slice none 0 0), (Value.slice none 0 0), [], []) ⟨rfl, rfl, rfl, rfl, rfl, rfl, rfl, trivial⟩ ⟨hs_10, fun w9 h9 => h9.sub (uvR_le p0) (Nat.le_refl _), fun y hy => hpb y (List.mem_of_mem_take (List.mem_of_mem_drop hy)), by rw [List.length_drop, List.length_take]; omega, tk_cons hpb hE0.1, rfl, ⟨List.Pairwise.nil, (fun y hy => by cases hy)⟩, rfl, (fun y hy => by cases hy), (fun y hy => by cases hy), rfl, Nat.zero_le _, by decide, (fun y hy => by cases hy), Nat.zero_le _⟩ ?_
        rintro ⟨bv, l, p, z, vw, vc, W, C⟩ w_8 ⟨hs_11, hbv, hbb, hll, hcons, hp, hok, hCl, hsz, hC, hz, hzb, hpl, hpa, hWn⟩
        show CW _ _ _ _ [(2, (Value.pointer (some ⟨b_1, 0, none⟩))), (4, bv), (6, (Value.pointer (some ⟨b_2, 0, none⟩))), (7, (Value.int .u64 (((uvR p0).1 : Nat) : Int))), (10, (Value.int .i64 ((z : Nat) : Int))), (11, (Value.string p)), (12, (Value.int .u64 ((W.length : Nat) : Int)))] _
        refine CW.seq ?_
        refine CW.seq ?_
        refine CW.region ?_
        refine RT.ev rfl rfl (Ev.move rfl) ?_
        refine RT.ev rfl rfl (Ev.move rfl) ?_
        refine RT.ev rfl rfl (Ev.lssN rfl rfl) ?_
        refine RT.nil ?_
        refine CW.condD rfl (fun hc_2 => ?_) (fun hc_2 => ?_)
        · refine CW.skip ?_
          refine CW.seq ?_
          refine CW.block ?_
          refine CW.seq ?_
          refine CW.region ?_
          refine RT.eff rfl rfl (OpE.alloc hs_11 zero118 fun b_3 w_9 hs_12 hch_5 hb_3 => ?_)
          have hs_12d : Sat w [cObj b_1 51 [(Value.slice none 0 0), (Value.slice none 0 0)], cL vp 5 (encN .u8) (p0), cObj b_2 51 [vw, vc], cL vw 9 (encTx) (W), cL vc 3 (encN .i64) (C), cObj b_3 118 [(Value.int .u64 ((0 : Nat) : Int)), (Value.int .u64 ((0 : Nat) : Int))]] _ := hs_12
          refine RT.nil ?_
          refine CW.seq ?_
          refine CW.seq ?_
          refine CW.region ?_
          refine RT.ev rfl rfl (Ev.move rfl) ?_
          refine RT.nil ?_
          refine CW.block ?_
          have hs_13 : Sat w [cObj b_1 51 [(Value.slice none 0 0), (Value.slice none 0 0)], cL vp 5 (encN .u8) (p0), cObj b_2 51 [vw, vc], cL vw 9 (encTx) (W), cL vc 3 (encN .i64) (C), cObj b_3 118 ((encN .u64).all ([0, 0]))] w_9 := hs_12d
          refine CW.loop (α := Nat × Value × List Nat × Nat × Nat) (fun (q, bv2, l2, a0, a1) => [(2, (Value.pointer (some ⟨b_1, 0, none⟩))), (4, bv2), (6, (Value.pointer (some ⟨b_2, 0, none⟩))), (7, (Value.int .u64 (((uvR p0).1 : Nat) : Int))), (10, (Value.int .i64 ((z : Nat) : Int))), (11, (Value.string p)), (12, (Value.int .u64 ((W.length : Nat) : Int))), (13, (Value.pointer (some ⟨b_3, 0, none⟩))), (49, (Value.int .i64 ((q : Nat) : Int)))]) (fun (q, bv2, l2, a0, a1) w' => Sat w [cObj b_1 51 [(Value.slice none 0 0), (Value.slice none 0 0)], cL vp 5 (encN .u8) (p0), cObj b_2 51 [vw, vc], cL vw 9 (encTx) (W), cL vc 3 (encN .i64) (C), cObj b_3 118 ((encN .u64).all ([a0, a1]))] w' ∧ (q ≤ 2) ∧ (∀ w9, RdL w9 vp (encN .u8) p0 → RdL w9 bv2 (encN .u8) l2) ∧ (∀ y ∈ l2, y < 256) ∧ (l2.length ≤ 1000000) ∧ (q = 0 → l = l2) ∧ (q = 1 → l = uv a0 ++ l2 ∧ a0 ≤ 120) ∧ (q = 2 → l = uv a0 ++ (uv a1 ++ l2) ∧ a0 ≤ 120 ∧ a1 ≤ 120)) (fun (q, bv2, l2, a0, a1) => 2 - q) (0, bv, l, 0, 0) ⟨rfl, rfl, rfl, rfl, rfl, rfl, rfl, rfl, rfl, trivial⟩ ⟨hs_13, Nat.zero_le _, hbv, hbb, hll, fun _ => rfl, fun h9 => absurd h9 (by decide), fun h9 => absurd h9 (by decide)⟩ ?_
          rintro ⟨q, bv2, l2, a0, a1⟩ w_10 ⟨hs_14, hq, hbq, hb2, hl2, h0, h1, h2⟩
          show CW _ _ _ _ [(2, (Value.pointer (some ⟨b_1, 0, none⟩))), (4, bv2), (6, (Value.pointer (some ⟨b_2, 0, none⟩))), (7, (Value.int .u64 (((uvR p0).1 : Nat) : Int))), (10, (Value.int .i64 ((z : Nat) : Int))), (11, (Value.string p)), (12, (Value.int .u64 ((W.length : Nat) : Int))), (13, (Value.pointer (some ⟨b_3, 0, none⟩))), (49, (Value.int .i64 ((q : Nat) : Int)))] _
          refine CW.seq ?_
          refine CW.region ?_
          refine RT.ev rfl rfl (Ev.lssN (b := 2) rfl rfl) ?_
          refine RT.nil ?_
          refine CW.seq ?_
          refine CW.condD rfl (fun hc_3 => ?_) (fun hc_3 => ?_)
          · refine CW.skip ?_
            refine CW.seq ?_
            refine CW.block ?_
            refine CW.seq ?_
            rcases (show q = 0 ∨ q = 1 by omega) with rfl | rfl
            · refine CW.region ?_
              refine RT.ev rfl rfl (Ev.move rfl) ?_
              refine RT.ev rfl rfl (Ev.assign rfl) ?_
              refine RT.nil ?_
              refine CW.seq ?_
              refine CW.region ?_
              refine RT.ev rfl rfl (Ev.move rfl) ?_
              refine RT.ev rfl rfl (Ev.move rfl) ?_
              refine RT.eff rfl rfl (OpE.call ent90 rfl ((rtk_ok _ (l2) _ (hbq _ (hs_14.rdL 1 rfl)) (hb2)).mono fun r_3 w_11 h_3 => ?_))
              obtain ⟨rfl, hp_3⟩ := h_3
              have hs_15 : Sat w [cObj b_1 51 [(Value.slice none 0 0), (Value.slice none 0 0)], cL vp 5 (encN .u8) (p0), cObj b_2 51 [vw, vc], cL vw 9 (encTx) (W), cL vc 3 (encN .i64) (C), cObj b_3 118 ((encN .u64).all ([a0, a1]))] _ := hs_14.adds hp_3
              refine RT.ev rfl rfl (Ev.move rfl) ?_
              refine RT.ev rfl rfl (Ev.extract rfl rfl) ?_
              refine RT.ev rfl rfl (Ev.extract rfl rfl) ?_
              refine RT.ev rfl rfl (Ev.extract rfl rfl) ?_
              refine RT.ev rfl rfl (Ev.idxArr arr118 rfl rfl (by decide)) ?_
              refine RT.eff rfl rfl (OpE.setArr (E := encN .u64) (a := (uvR l2).1) 5 one108 hs_15 rfl rfl rfl rfl (by omega) fun w_12 hs_16 hch_6 => ?_)
              have hs_16d : Sat w [cObj b_1 51 [(Value.slice none 0 0), (Value.slice none 0 0)], cL vp 5 (encN .u8) (p0), cObj b_2 51 [vw, vc], cL vw 9 (encTx) (W), cL vc 3 (encN .i64) (C), cObj b_3 118 ((encN .u64).all (([a0, a1]).set 0 ((uvR l2).1)))] _ := hs_16
              refine RT.ev rfl rfl (Ev.assign rfl) ?_
              refine RT.ev rfl rfl (Ev.assign rfl) ?_
              refine RT.nil ?_
              have hs_17 : Sat w [cObj b_1 51 [(Value.slice none 0 0), (Value.slice none 0 0)], cL vp 5 (encN .u8) (p0), cObj b_2 51 [vw, vc], cL vw 9 (encTx) (W), cL vc 3 (encN .i64) (C), cObj b_3 118 ((encN .u64).all ([(uvR l2).1, a1]))] w_12 := by
                have hq : ([a0, a1]).set 0 ((uvR l2).1) = [(uvR l2).1, a1] := rfl
                rw [← hq]; exact hs_16d
              refine CW.seq ?_
              refine CW.seq ?_
              refine CW.mid (fun L' w' => Weak [(2, (Value.pointer (some ⟨b_1, 0, none⟩))), (4, bv2), (6, (Value.pointer (some ⟨b_2, 0, none⟩))), (7, (Value.int .u64 (((uvR p0).1 : Nat) : Int))), (8, (Value.int .i64 (((uvR l2).2.1 : Nat) : Int))), (9, (Value.int .i64 (((uvR l2).2.2 : Nat) : Int))), (10, (Value.int .i64 ((z : Nat) : Int))), (11, (Value.string p)), (12, (Value.int .u64 ((W.length : Nat) : Int))), (13, (Value.pointer (some ⟨b_3, 0, none⟩))), (14, (Value.int .i64 ((0 : Nat) : Int))), (49, (Value.int .i64 ((0 : Nat) : Int))), (67, (Value.bool (decide (((uvR l2).2.2 ≠ 0) ∨ (120 < (uvR l2).1)))))] L' ∧ Sat w [cObj b_1 51 [(Value.slice none 0 0), (Value.slice none 0 0)], cL vp 5 (encN .u8) (p0), cObj b_2 51 [vw, vc], cL vw 9 (encTx) (W), cL vc 3 (encN .i64) (C), cObj b_3 118 ((encN .u64).all ([(uvR l2).1, a1]))] w') ?_ ?_
              · refine CW.region ?_
                refine RT.ev rfl rfl (Ev.move rfl) ?_
                refine RT.ev rfl rfl (Ev.neqN (b := 0) rfl rfl) ?_
                refine RT.ev rfl rfl (Ev.move rfl) ?_
                by_cases hg_2 : (uvR l2).2.2 ≠ 0
                · refine RT.no rfl rfl rfl (decide_eq_true hg_2) rfl ?_
                  refine RT.no rfl rfl rfl (decide_eq_true hg_2) rfl ?_
                  refine RT.no rfl rfl rfl (decide_eq_true hg_2) rfl ?_
                  refine RT.no rfl rfl rfl (decide_eq_true hg_2) rfl ?_
                  refine RT.ev rfl rfl (Ev.pickY rfl (decide_eq_true hg_2) rfl) ?_
                  refine RT.nil ?_
                  exact ⟨⟨rfl, rfl, rfl, rfl, rfl, rfl, rfl, rfl, rfl, rfl, rfl, rfl, congrArg some (congrArg Value.bool (by simp [hg_2])), trivial⟩, hs_17⟩
                · refine RT.yes rfl rfl rfl (decide_eq_false hg_2) ?_
                  refine RT.ev rfl rfl (Ev.move rfl) ?_
                  refine RT.yes rfl rfl rfl (decide_eq_false hg_2) ?_
                  refine RT.ev rfl rfl (Ev.idxArr arr118 rfl rfl (by decide)) ?_
                  refine RT.yes rfl rfl rfl (decide_eq_false hg_2) ?_
                  refine RT.ev rfl rfl (Ev.load scal108 rfl (hs_17.cellArr (E := encN .u64) 5 rfl rfl (by decide) rfl)) ?_
                  refine RT.yes rfl rfl rfl (decide_eq_false hg_2) ?_
                  refine RT.ev rfl rfl (Ev.gtrN (b := 120) rfl rfl) ?_
                  refine RT.ev rfl rfl (Ev.pickN rfl (decide_eq_false hg_2) rfl) ?_
                  refine RT.nil ?_
                  exact ⟨⟨rfl, rfl, rfl, rfl, rfl, rfl, rfl, rfl, rfl, rfl, rfl, rfl, congrArg some (congrArg Value.bool (by simp [hg_2])), trivial⟩, hs_17⟩
              · rintro L' w_13 ⟨hw_2, hs_18⟩
                refine CW.weaken _ hw_2 ?_
                refine CW.condD rfl (fun hc_4 => ?_) (fun hc_4 => ?_)
                · refine CW.seq ?_
                  refine CW.region ?_
                  refine RT.ev rfl rfl (Ev.build bt51 rfl trivial rfl) ?_
                  refine RT.eff rfl rfl (OpE.storeObjA (vs := [(Value.slice none 0 0), (Value.slice none 0 0)]) agg51 hs_18 (i := 0) rfl rfl rfl rfl (fun v h => by simp only [List.mem_cons, List.not_mem_nil, or_false] at h; rcases h with rfl | rfl; exact rfl; exact rfl) fun w_14 hs_19 hch_7 => ?_)
                  have hs_19d : Sat w [cObj b_1 51 [(Value.slice none 0 0), (Value.slice none 0 0)], cL vp 5 (encN .u8) (p0), cObj b_2 51 [vw, vc], cL vw 9 (encTx) (W), cL vc 3 (encN .i64) (C), cObj b_3 118 ((encN .u64).all ([(uvR l2).1, a1]))] _ := hs_19
                  refine RT.ev rfl rfl (Ev.assign rfl) ?_
                  refine RT.nil ?_
                  refine CW.ret ?_
                  show PostK _ _ _ _ _ _
                  refine post2c (vs := [(Value.slice none 0 0), (Value.slice none 0 0)]) rfl rfl rfl agg51 (fun j u hu => hs_19d.cell (i := 0) rfl hu) ?_
                  have hs_20 : Sat w [] w_14 := hs_19d.sub ((.cons _ (.cons _ (.cons _ (.cons _ (.cons _ (.cons _ .slnil)))))))
                  exact ⟨_, _, rfl, rfl, rfl, hs_20⟩
                · refine CW.skip ?_
                  have hE : (uvR l2).2.2 = 0 ∧ (uvR l2).1 ≤ 120 := by have := hc_4; omega
                  have hcn := tk_cons hb2 hE.1
                  have hle2 := uvR_le l2
                  refine CW.region ?_
                  refine RT.ev rfl rfl (Ev.move rfl) ?_
                  refine RT.ev rfl rfl (Ev.move rfl) ?_
                  refine RT.ev rfl rfl (Ev.sliceL (E := encN .u8) (a := (uvR l2).2.1) (c := (l2).length) sl40 rfl (hbq _ (hs_18.rdL 1 rfl)) ⟨_, rfl⟩ rfl (hle2) (Nat.le_refl _)) ?_
                  refine RT.ev rfl rfl (Ev.assign rfl) ?_
                  refine RT.nil ?_
                  refine CW.region ?_
                  refine RT.ev rfl rfl (Ev.addI (b := 1) rfl rfl (by omega)) ?_
                  refine RT.ev rfl rfl (Ev.move rfl) ?_
                  refine RT.nil ?_
                  exact ⟨(0 + 1, (subSl (encN .u8).s bv2 ((uvR l2).2.1) ((l2).length)), ((l2).take ((l2).length)).drop ((uvR l2).2.1), (uvR l2).1, a1), ⟨rfl, rfl, rfl, rfl, rfl, rfl, rfl, rfl, rfl, trivial⟩, ⟨hs_18, by omega, fun w9 h9 => (hbq w9 h9).sub hle2 (Nat.le_refl _), fun y hy => hb2 y (List.mem_of_mem_take (List.mem_of_mem_drop hy)), by rw [List.length_drop, List.length_take]; omega, fun h9 => absurd h9 (by decide), fun _ => ⟨(h0 rfl).trans hcn, hE.2⟩, fun h9 => absurd h9 (by decide)⟩, (show (2 - (0 + 1)) < (2 - 0) from by omega)⟩
            · refine CW.region ?_
              refine RT.ev rfl rfl (Ev.move rfl) ?_
              refine RT.ev rfl rfl (Ev.assign rfl) ?_
              refine RT.nil ?_
              refine CW.seq ?_
              refine CW.region ?_
              refine RT.ev rfl rfl (Ev.move rfl) ?_
              refine RT.ev rfl rfl (Ev.move rfl) ?_
              refine RT.eff rfl rfl (OpE.call ent90 rfl ((rtk_ok _ (l2) _ (hbq _ (hs_14.rdL 1 rfl)) (hb2)).mono fun r_4 w_15 h_4 => ?_))
              obtain ⟨rfl, hp_4⟩ := h_4
              have hs_21 : Sat w [cObj b_1 51 [(Value.slice none 0 0), (Value.slice none 0 0)], cL vp 5 (encN .u8) (p0), cObj b_2 51 [vw, vc], cL vw 9 (encTx) (W), cL vc 3 (encN .i64) (C), cObj b_3 118 ((encN .u64).all ([a0, a1]))] _ := hs_14.adds hp_4
              refine RT.ev rfl rfl (Ev.move rfl) ?_
              refine RT.ev rfl rfl (Ev.extract rfl rfl) ?_
              refine RT.ev rfl rfl (Ev.extract rfl rfl) ?_
              refine RT.ev rfl rfl (Ev.extract rfl rfl) ?_
              refine RT.ev rfl rfl (Ev.idxArr arr118 rfl rfl (by decide)) ?_
              refine RT.eff rfl rfl (OpE.setArr (E := encN .u64) (a := (uvR l2).1) 5 one108 hs_21 rfl rfl rfl rfl (by omega) fun w_16 hs_22 hch_8 => ?_)
              have hs_22d : Sat w [cObj b_1 51 [(Value.slice none 0 0), (Value.slice none 0 0)], cL vp 5 (encN .u8) (p0), cObj b_2 51 [vw, vc], cL vw 9 (encTx) (W), cL vc 3 (encN .i64) (C), cObj b_3 118 ((encN .u64).all (([a0, a1]).set 1 ((uvR l2).1)))] _ := hs_22
              refine RT.ev rfl rfl (Ev.assign rfl) ?_
              refine RT.ev rfl rfl (Ev.assign rfl) ?_
              refine RT.nil ?_
              have hs_23 : Sat w [cObj b_1 51 [(Value.slice none 0 0), (Value.slice none 0 0)], cL vp 5 (encN .u8) (p0), cObj b_2 51 [vw, vc], cL vw 9 (encTx) (W), cL vc 3 (encN .i64) (C), cObj b_3 118 ((encN .u64).all ([a0, (uvR l2).1]))] w_16 := by
                have hq : ([a0, a1]).set 1 ((uvR l2).1) = [a0, (uvR l2).1] := rfl
                rw [← hq]; exact hs_22d
              refine CW.seq ?_
              refine CW.seq ?_
              refine CW.mid (fun L' w' => Weak [(2, (Value.pointer (some ⟨b_1, 0, none⟩))), (4, bv2), (6, (Value.pointer (some ⟨b_2, 0, none⟩))), (7, (Value.int .u64 (((uvR p0).1 : Nat) : Int))), (8, (Value.int .i64 (((uvR l2).2.1 : Nat) : Int))), (9, (Value.int .i64 (((uvR l2).2.2 : Nat) : Int))), (10, (Value.int .i64 ((z : Nat) : Int))), (11, (Value.string p)), (12, (Value.int .u64 ((W.length : Nat) : Int))), (13, (Value.pointer (some ⟨b_3, 0, none⟩))), (14, (Value.int .i64 ((1 : Nat) : Int))), (49, (Value.int .i64 ((1 : Nat) : Int))), (67, (Value.bool (decide (((uvR l2).2.2 ≠ 0) ∨ (120 < (uvR l2).1)))))] L' ∧ Sat w [cObj b_1 51 [(Value.slice none 0 0), (Value.slice none 0 0)], cL vp 5 (encN .u8) (p0), cObj b_2 51 [vw, vc], cL vw 9 (encTx) (W), cL vc 3 (encN .i64) (C), cObj b_3 118 ((encN .u64).all ([a0, (uvR l2).1]))] w') ?_ ?_
              · refine CW.region ?_
                refine RT.ev rfl rfl (Ev.move rfl) ?_
                refine RT.ev rfl rfl (Ev.neqN (b := 0) rfl rfl) ?_
                refine RT.ev rfl rfl (Ev.move rfl) ?_
                by_cases hg_3 : (uvR l2).2.2 ≠ 0
                · refine RT.no rfl rfl rfl (decide_eq_true hg_3) rfl ?_
                  refine RT.no rfl rfl rfl (decide_eq_true hg_3) rfl ?_
                  refine RT.no rfl rfl rfl (decide_eq_true hg_3) rfl ?_
                  refine RT.no rfl rfl rfl (decide_eq_true hg_3) rfl ?_
                  refine RT.ev rfl rfl (Ev.pickY rfl (decide_eq_true hg_3) rfl) ?_
                  refine RT.nil ?_
                  exact ⟨⟨rfl, rfl, rfl, rfl, rfl, rfl, rfl, rfl, rfl, rfl, rfl, rfl, congrArg some (congrArg Value.bool (by simp [hg_3])), trivial⟩, hs_23⟩
                · refine RT.yes rfl rfl rfl (decide_eq_false hg_3) ?_
                  refine RT.ev rfl rfl (Ev.move rfl) ?_
                  refine RT.yes rfl rfl rfl (decide_eq_false hg_3) ?_
                  refine RT.ev rfl rfl (Ev.idxArr arr118 rfl rfl (by decide)) ?_
                  refine RT.yes rfl rfl rfl (decide_eq_false hg_3) ?_
                  refine RT.ev rfl rfl (Ev.load scal108 rfl (hs_23.cellArr (E := encN .u64) 5 rfl rfl (by decide) rfl)) ?_
                  refine RT.yes rfl rfl rfl (decide_eq_false hg_3) ?_
                  refine RT.ev rfl rfl (Ev.gtrN (b := 120) rfl rfl) ?_
                  refine RT.ev rfl rfl (Ev.pickN rfl (decide_eq_false hg_3) rfl) ?_
                  refine RT.nil ?_
                  exact ⟨⟨rfl, rfl, rfl, rfl, rfl, rfl, rfl, rfl, rfl, rfl, rfl, rfl, congrArg some (congrArg Value.bool (by simp [hg_3])), trivial⟩, hs_23⟩
              · rintro L' w_17 ⟨hw_3, hs_24⟩
                refine CW.weaken _ hw_3 ?_
                refine CW.condD rfl (fun hc_5 => ?_) (fun hc_5 => ?_)
                · refine CW.seq ?_
                  refine CW.region ?_
                  refine RT.ev rfl rfl (Ev.build bt51 rfl trivial rfl) ?_
                  refine RT.eff rfl rfl (OpE.storeObjA (vs := [(Value.slice none 0 0), (Value.slice none 0 0)]) agg51 hs_24 (i := 0) rfl rfl rfl rfl (fun v h => by simp only [List.mem_cons, List.not_mem_nil, or_false] at h; rcases h with rfl | rfl; exact rfl; exact rfl) fun w_18 hs_25 hch_9 => ?_)
                  have hs_25d : Sat w [cObj b_1 51 [(Value.slice none 0 0), (Value.slice none 0 0)], cL vp 5 (encN .u8) (p0), cObj b_2 51 [vw, vc], cL vw 9 (encTx) (W), cL vc 3 (encN .i64) (C), cObj b_3 118 ((encN .u64).all ([a0, (uvR l2).1]))] _ := hs_25
                  refine RT.ev rfl rfl (Ev.assign rfl) ?_
                  refine RT.nil ?_
                  refine CW.ret ?_
                  show PostK _ _ _ _ _ _
                  refine post2c (vs := [(Value.slice none 0 0), (Value.slice none 0 0)]) rfl rfl rfl agg51 (fun j u hu => hs_25d.cell (i := 0) rfl hu) ?_
                  have hs_26 : Sat w [] w_18 := hs_25d.sub ((.cons _ (.cons _ (.cons _ (.cons _ (.cons _ (.cons _ .slnil)))))))
                  exact ⟨_, _, rfl, rfl, rfl, hs_26⟩
                · refine CW.skip ?_
                  have hE : (uvR l2).2.2 = 0 ∧ (uvR l2).1 ≤ 120 := by have := hc_5; omega
                  have hcn := tk_cons hb2 hE.1
                  have hle2 := uvR_le l2
                  refine CW.region ?_
                  refine RT.ev rfl rfl (Ev.move rfl) ?_
                  refine RT.ev rfl rfl (Ev.move rfl) ?_
                  refine RT.ev rfl rfl (Ev.sliceL (E := encN .u8) (a := (uvR l2).2.1) (c := (l2).length) sl40 rfl (hbq _ (hs_24.rdL 1 rfl)) ⟨_, rfl⟩ rfl (hle2) (Nat.le_refl _)) ?_
                  refine RT.ev rfl rfl (Ev.assign rfl) ?_
                  refine RT.nil ?_
                  refine CW.region ?_
                  refine RT.ev rfl rfl (Ev.addI (b := 1) rfl rfl (by omega)) ?_
                  refine RT.ev rfl rfl (Ev.move rfl) ?_
                  refine RT.nil ?_
                  exact ⟨(1 + 1, (subSl (encN .u8).s bv2 ((uvR l2).2.1) ((l2).length)), ((l2).take ((l2).length)).drop ((uvR l2).2.1), a0, (uvR l2).1), ⟨rfl, rfl, rfl, rfl, rfl, rfl, rfl, rfl, rfl, trivial⟩, ⟨hs_24, by omega, fun w9 h9 => (hbq w9 h9).sub hle2 (Nat.le_refl _), fun y hy => hb2 y (List.mem_of_mem_take (List.mem_of_mem_drop hy)), by rw [List.length_drop, List.length_take]; omega, fun h9 => absurd h9 (by decide), fun h9 => absurd h9 (by decide), fun _ => ⟨(h1 rfl).1.trans (congrArg (uv a0 ++ ·) hcn), (h1 rfl).2, hE.2⟩⟩, (show (2 - (1 + 1)) < (2 - 1) from by omega)⟩
          · refine CW.exit0 ?_
            refine CW.seq ?_
            refine CW.seq ?_
            obtain rfl : q = 2 := by have h9 : ¬ q < 2 := hc_3; omega
            obtain ⟨hcc2, ha0, ha1⟩ := h2 rfl
            refine CW.mid (fun L' w' => Weak [(2, (Value.pointer (some ⟨b_1, 0, none⟩))), (4, bv2), (6, (Value.pointer (some ⟨b_2, 0, none⟩))), (7, (Value.int .u64 (((uvR p0).1 : Nat) : Int))), (10, (Value.int .i64 ((z : Nat) : Int))), (11, (Value.string p)), (12, (Value.int .u64 ((W.length : Nat) : Int))), (13, (Value.pointer (some ⟨b_3, 0, none⟩))), (49, (Value.int .i64 ((2 : Nat) : Int))), (86, (Value.bool (decide ((p.size < a0) ∨ (l2.length < a1)))))] L' ∧ Sat w [cObj b_1 51 [(Value.slice none 0 0), (Value.slice none 0 0)], cL vp 5 (encN .u8) (p0), cObj b_2 51 [vw, vc], cL vw 9 (encTx) (W), cL vc 3 (encN .i64) (C), cObj b_3 118 ((encN .u64).all ([a0, a1]))] w') ?_ ?_
            · refine CW.region ?_
              refine RT.ev rfl rfl (Ev.idxArr (j := 0) arr118 rfl rfl (by decide)) ?_
              refine RT.ev rfl rfl (Ev.load scal108 rfl (hs_14.cellArr (E := encN .u64) 5 rfl rfl (by decide) rfl)) ?_
              refine RT.ev rfl rfl (Ev.move rfl) ?_
              refine RT.ev rfl rfl (Ev.lenStr Try.underlying9 rfl) ?_
              refine RT.ev rfl rfl (Ev.convK (by rw [Try.underlying3]; rfl) Try.underlying108 rfl (wrap_u rfl (by (try simp only [IntKind.bits]); omega))) ?_
              refine RT.ev rfl rfl (Ev.gtrN rfl rfl) ?_
              refine RT.ev rfl rfl (Ev.move rfl) ?_
              by_cases hg_4 : p.size < a0
              · refine RT.no rfl rfl rfl (decide_eq_true hg_4) rfl ?_
                refine RT.no rfl rfl rfl (decide_eq_true hg_4) rfl ?_
                refine RT.no rfl rfl rfl (decide_eq_true hg_4) rfl ?_
                refine RT.no rfl rfl rfl (decide_eq_true hg_4) rfl ?_
                refine RT.no rfl rfl rfl (decide_eq_true hg_4) rfl ?_
                refine RT.no rfl rfl rfl (decide_eq_true hg_4) rfl ?_
                refine RT.ev rfl rfl (Ev.pickY rfl (decide_eq_true hg_4) rfl) ?_
                refine RT.nil ?_
                exact ⟨⟨rfl, rfl, rfl, rfl, rfl, rfl, rfl, rfl, rfl, congrArg some (congrArg Value.bool (by simp [hg_4])), trivial⟩, hs_14⟩
              · refine RT.yes rfl rfl rfl (decide_eq_false hg_4) ?_
                refine RT.ev rfl rfl (Ev.idxArr (j := 1) arr118 rfl rfl (by decide)) ?_
                refine RT.yes rfl rfl rfl (decide_eq_false hg_4) ?_
                refine RT.ev rfl rfl (Ev.load scal108 rfl (hs_14.cellArr (E := encN .u64) 5 rfl rfl (by decide) rfl)) ?_
                refine RT.yes rfl rfl rfl (decide_eq_false hg_4) ?_
                refine RT.ev rfl rfl (Ev.move rfl) ?_
                refine RT.yes rfl rfl rfl (decide_eq_false hg_4) ?_
                refine RT.ev rfl rfl (Ev.lenL Try.underlying40 rfl (hbq _ (hs_14.rdL 1 rfl))) ?_
                refine RT.yes rfl rfl rfl (decide_eq_false hg_4) ?_
                refine RT.ev rfl rfl (Ev.convK (by rw [Try.underlying3]; rfl) Try.underlying108 rfl (wrap_u rfl (by (try simp only [IntKind.bits]); omega))) ?_
                refine RT.yes rfl rfl rfl (decide_eq_false hg_4) ?_
                refine RT.ev rfl rfl (Ev.gtrN rfl rfl) ?_
                refine RT.ev rfl rfl (Ev.pickN rfl (decide_eq_false hg_4) rfl) ?_
                refine RT.nil ?_
                exact ⟨⟨rfl, rfl, rfl, rfl, rfl, rfl, rfl, rfl, rfl, congrArg some (congrArg Value.bool (by simp [hg_4])), trivial⟩, hs_14⟩
            · rintro L' w_19 ⟨hw_4, hs_27⟩
              refine CW.weaken _ hw_4 ?_
              refine CW.condD rfl (fun hc_6 => ?_) (fun hc_6 => ?_)
              · refine CW.seq ?_
                refine CW.region ?_
                refine RT.ev rfl rfl (Ev.build bt51 rfl trivial rfl) ?_
                refine RT.eff rfl rfl (OpE.storeObjA (vs := [(Value.slice none 0 0), (Value.slice none 0 0)]) agg51 hs_27 (i := 0) rfl rfl rfl rfl (fun v h => by simp only [List.mem_cons, List.not_mem_nil, or_false] at h; rcases h with rfl | rfl; exact rfl; exact rfl) fun w_20 hs_28 hch_10 => ?_)
                have hs_28d : Sat w [cObj b_1 51 [(Value.slice none 0 0), (Value.slice none 0 0)], cL vp 5 (encN .u8) (p0), cObj b_2 51 [vw, vc], cL vw 9 (encTx) (W), cL vc 3 (encN .i64) (C), cObj b_3 118 ((encN .u64).all ([a0, a1]))] _ := hs_28
                refine RT.ev rfl rfl (Ev.assign rfl) ?_
                refine RT.nil ?_
                refine CW.ret ?_
                show PostK _ _ _ _ _ _
                refine post2c (vs := [(Value.slice none 0 0), (Value.slice none 0 0)]) rfl rfl rfl agg51 (fun j u hu => hs_28d.cell (i := 0) rfl hu) ?_
                have hs_29 : Sat w [] w_20 := hs_28d.sub ((.cons _ (.cons _ (.cons _ (.cons _ (.cons _ (.cons _ .slnil)))))))
                exact ⟨_, _, rfl, rfl, rfl, hs_29⟩
              · refine CW.skip ?_
                refine CW.seq ?_
                have hE5 : a0 ≤ p.size ∧ a1 ≤ l2.length := by have := hc_6; omega
                refine CW.draw (fun w' => Sat w [cObj b_1 51 [(Value.slice none 0 0), (Value.slice none 0 0)], cL vp 5 (encN .u8) (p0), cObj b_2 51 [vw, vc], cL vw 9 (encTx) (W), cL vc 3 (encN .i64) (C), cObj b_3 118 ((encN .u64).all ([a0, a1]))] w') (.free 0 (.free 1 (.free 2 (.free 3 (.free 4 (.free 5 (.free 6 (.free 7 (.free 8 (.free 9 (.free 10 .fin))))))))))) mixed (by kernel_rfl) ?_
                have hs_30 := hs_27.drew
                refine RP.ev rfl rfl rfl (fun w' hS' => Ev.move rfl) hs_30 ?_
                refine RP.ev rfl rfl rfl (fun w' hS' => Ev.idxArr (j := 0) arr118 rfl rfl (by decide)) hs_30 ?_
                refine RP.ev rfl rfl rfl (fun w' hS' => Ev.load scal108 rfl (hS'.cellArr (E := encN .u64) 5 rfl rfl (by decide) rfl)) hs_30 ?_
                refine RP.ev rfl rfl rfl (fun w' hS' => Ev.sliceStr (l := 0) (h := a0) Try.underlying9 rfl rfl ⟨_, rfl⟩ (Nat.zero_le _) (by omega)) hs_30 ?_
                refine RP.ev rfl rfl rfl (fun w' hS' => Ev.move rfl) hs_30 ?_
                refine RP.ev rfl rfl rfl (fun w' hS' => Ev.idxArr (j := 1) arr118 rfl rfl (by decide)) hs_30 ?_
                refine RP.ev rfl rfl rfl (fun w' hS' => Ev.load scal108 rfl (hS'.cellArr (E := encN .u64) 5 rfl rfl (by decide) rfl)) hs_30 ?_
                refine RP.ev rfl rfl rfl (fun w' hS' => Ev.sliceL (E := encN .u8) (a := 0) (c := a1) sl40 rfl (hbq _ (hS'.rdL 1 rfl)) rfl ⟨_, rfl⟩ (Nat.zero_le _) (by omega)) hs_30 ?_
                refine RP.ev rfl rfl rfl (fun w' hS' => Ev.bytesStr Try.underlying40 Try.underlying9 Try.underlying5 rfl (((hbq _ (hS'.rdL 1 rfl))).sub (a := 0) (b := a1) (Nat.zero_le _) (by omega))) hs_30 ?_
                refine RP.ev rfl rfl rfl (fun w' hS' => Ev.strAdd rfl rfl (by rw [strOf_size, List.length_drop, List.length_take, ByteArray.size_extract]; omega)) hs_30 ?_
                refine RP.ev rfl rfl rfl (fun w' hS' => Ev.assign rfl) hs_30 ?_
                refine RP.fin ?_
                refine CW.seq ?_
                obtain ⟨x, hx⟩ : ∃ x, x = ((p.extract 0 a0) ++ (strOf (((l2).take a1).drop 0))) := ⟨_, rfl⟩
                have hxs : x.size ≤ 240 := by rw [hx, ByteArray.size_append, ByteArray.size_extract, strOf_size, List.length_drop, List.length_take]; omega
                refine CW.weaken [(2, _), (4, _), (6, _), (7, _), (10, _), (11, _), (12, _), (13, _), (15, (Value.string x)), (49, _), (86, _), (88, _), (89, _), (90, _), (91, _), (92, _), (93, _), (94, _), (95, _), (96, _), (97, _)] ⟨rfl, rfl, rfl, rfl, rfl, rfl, rfl, rfl, congrArg some (congrArg Value.string hx.symm), rfl, rfl, rfl, rfl, rfl, rfl, rfl, rfl, rfl, rfl, rfl, rfl, trivial⟩ ?_
                refine CW.region ?_
                refine RT.ev rfl rfl (Ev.move rfl) ?_
                refine RT.ev rfl rfl (Ev.idxArr (j := 1) arr118 rfl rfl (by decide)) ?_
                refine RT.ev rfl rfl (Ev.load scal108 rfl (hs_30.cellArr (E := encN .u64) 5 rfl rfl (by decide) rfl)) ?_
                refine RT.ev rfl rfl (Ev.sliceL (E := encN .u8) (a := a1) (c := (l2).length) sl40 rfl (hbq _ (hs_30.rdL 1 rfl)) ⟨_, rfl⟩ rfl (by omega) (Nat.le_refl _)) ?_
                refine RT.ev rfl rfl (Ev.assign rfl) ?_
                refine RT.nil ?_
                refine CW.seq ?_
                have hbv3 : ∀ w9, RdL w9 vp (encN .u8) p0 → RdL w9 (subSl (encN .u8).s bv2 a1 ((l2).length)) (encN .u8) (l2.drop a1) := fun w9 h9 => by have hs9 := (hbq w9 h9).sub (a := a1) (b := l2.length) (by omega) (Nat.le_refl _); rw [List.take_length] at hs9; exact hs9
                have hb3 : ∀ y ∈ l2.drop a1, y < 256 := fun y hy => hb2 y (List.mem_of_mem_drop hy)
                have hl3 : (l2.drop a1).length ≤ 1000000 := by rw [List.length_drop]; omega
                refine CW.region ?_
                refine RT.ev rfl rfl (Ev.move rfl) ?_
                refine RT.eff rfl rfl (OpE.call ent90 rfl ((rtk_ok _ (l2.drop a1) _ (hbv3 _ (hs_30.rdL 1 rfl)) (hb3)).mono fun r_5 w_21 h_5 => ?_))
                obtain ⟨rfl, hp_5⟩ := h_5
                have hs_31 : Sat w [cObj b_1 51 [(Value.slice none 0 0), (Value.slice none 0 0)], cL vp 5 (encN .u8) (p0), cObj b_2 51 [vw, vc], cL vw 9 (encTx) (W), cL vc 3 (encN .i64) (C), cObj b_3 118 ((encN .u64).all ([a0, a1]))] _ := hs_30.adds hp_5
                refine RT.ev rfl rfl (Ev.move rfl) ?_
                refine RT.ev rfl rfl (Ev.extract rfl rfl) ?_
                refine RT.ev rfl rfl (Ev.extract rfl rfl) ?_
                refine RT.ev rfl rfl (Ev.extract rfl rfl) ?_
                refine RT.ev rfl rfl (Ev.assign rfl) ?_
                refine RT.ev rfl rfl (Ev.assign rfl) ?_
                refine RT.ev rfl rfl (Ev.assign rfl) ?_
                refine RT.nil ?_
                refine CW.seq ?_
                refine CW.seq ?_
                refine CW.mid (fun L' w' => Weak [(2, (Value.pointer (some ⟨b_1, 0, none⟩))), (4, (subSl (encN .u8).s bv2 a1 ((l2).length))), (6, (Value.pointer (some ⟨b_2, 0, none⟩))), (7, (Value.int .u64 (((uvR p0).1 : Nat) : Int))), (10, (Value.int .i64 ((z : Nat) : Int))), (11, (Value.string p)), (12, (Value.int .u64 ((W.length : Nat) : Int))), (13, (Value.pointer (some ⟨b_3, 0, none⟩))), (15, (Value.string x)), (16, (Value.int .u64 (((uvR (l2.drop a1)).1 : Nat) : Int))), (17, (Value.int .i64 (((uvR (l2.drop a1)).2.1 : Nat) : Int))), (18, (Value.int .i64 (((uvR (l2.drop a1)).2.2 : Nat) : Int))), (49, (Value.int .i64 ((2 : Nat) : Int))), (86, (Value.bool (decide ((p.size < a0) ∨ (l2.length < a1))))), (123, (Value.bool (decide (((((uvR (l2.drop a1)).2.2 ≠ 0) ∨ (4096 ≤ (uvR (l2.drop a1)).1)) ∨ (120 < x.size)) ∨ ((!(validN x)) = true)))))] L' ∧ Sat w [cObj b_1 51 [(Value.slice none 0 0), (Value.slice none 0 0)], cL vp 5 (encN .u8) (p0), cObj b_2 51 [vw, vc], cL vw 9 (encTx) (W), cL vc 3 (encN .i64) (C), cObj b_3 118 ((encN .u64).all ([a0, a1]))] w') ?_ ?_
                · refine CW.region ?_
                  refine RT.ev rfl rfl (Ev.move rfl) ?_
                  refine RT.ev rfl rfl (Ev.neqN (b := 0) rfl rfl) ?_
                  refine RT.ev rfl rfl (Ev.move rfl) ?_
                  by_cases hg_5 : (uvR (l2.drop a1)).2.2 ≠ 0
                  · refine RT.no rfl rfl rfl (decide_eq_true hg_5) rfl ?_
                    refine RT.no rfl rfl rfl (decide_eq_true hg_5) rfl ?_
                    refine RT.ev rfl rfl (Ev.pickY rfl (decide_eq_true hg_5) rfl) ?_
                    refine RT.ev rfl rfl (Ev.move rfl) ?_
                    refine RT.no rfl rfl rfl (rfl) rfl ?_
                    refine RT.no rfl rfl rfl (rfl) rfl ?_
                    refine RT.no rfl rfl rfl (rfl) rfl ?_
                    refine RT.ev rfl rfl (Ev.pickY rfl (rfl) rfl) ?_
                    refine RT.ev rfl rfl (Ev.move rfl) ?_
                    refine RT.no rfl rfl rfl (rfl) rfl ?_
                    refine RT.no rfl rfl rfl (rfl) rfl ?_
                    refine RT.no rfl rfl rfl (rfl) rfl ?_
                    refine RT.ev rfl rfl (Ev.pickY rfl (rfl) rfl) ?_
                    refine RT.nil ?_
                    exact ⟨⟨rfl, rfl, rfl, rfl, rfl, rfl, rfl, rfl, rfl, rfl, rfl, rfl, rfl, rfl, congrArg some (congrArg Value.bool (by simp [hg_5])), trivial⟩, hs_31⟩
                  · refine RT.yes rfl rfl rfl (decide_eq_false hg_5) ?_
                    refine RT.ev rfl rfl (Ev.move rfl) ?_
                    refine RT.yes rfl rfl rfl (decide_eq_false hg_5) ?_
                    refine RT.ev rfl rfl (Ev.geqN (b := 4096) rfl rfl) ?_
                    refine RT.ev rfl rfl (Ev.pickN rfl (decide_eq_false hg_5) rfl) ?_
                    refine RT.ev rfl rfl (Ev.move rfl) ?_
                    by_cases hg_6 : 4096 ≤ (uvR (l2.drop a1)).1
                    · refine RT.no rfl rfl rfl (decide_eq_true hg_6) rfl ?_
                      refine RT.no rfl rfl rfl (decide_eq_true hg_6) rfl ?_
                      refine RT.no rfl rfl rfl (decide_eq_true hg_6) rfl ?_
                      refine RT.ev rfl rfl (Ev.pickY rfl (decide_eq_true hg_6) rfl) ?_
                      refine RT.ev rfl rfl (Ev.move rfl) ?_
                      refine RT.no rfl rfl rfl (rfl) rfl ?_
                      refine RT.no rfl rfl rfl (rfl) rfl ?_
                      refine RT.no rfl rfl rfl (rfl) rfl ?_
                      refine RT.ev rfl rfl (Ev.pickY rfl (rfl) rfl) ?_
                      refine RT.nil ?_
                      exact ⟨⟨rfl, rfl, rfl, rfl, rfl, rfl, rfl, rfl, rfl, rfl, rfl, rfl, rfl, rfl, congrArg some (congrArg Value.bool (by simp [hg_5, hg_6])), trivial⟩, hs_31⟩
                    · refine RT.yes rfl rfl rfl (decide_eq_false hg_6) ?_
                      refine RT.ev rfl rfl (Ev.move rfl) ?_
                      refine RT.yes rfl rfl rfl (decide_eq_false hg_6) ?_
                      refine RT.ev rfl rfl (Ev.lenStr Try.underlying9 rfl) ?_
                      refine RT.yes rfl rfl rfl (decide_eq_false hg_6) ?_
                      refine RT.ev rfl rfl (Ev.gtrN (b := 120) rfl rfl) ?_
                      refine RT.ev rfl rfl (Ev.pickN rfl (decide_eq_false hg_6) rfl) ?_
                      refine RT.ev rfl rfl (Ev.move rfl) ?_
                      by_cases hg_7 : 120 < x.size
                      · refine RT.no rfl rfl rfl (decide_eq_true hg_7) rfl ?_
                        refine RT.no rfl rfl rfl (decide_eq_true hg_7) rfl ?_
                        refine RT.no rfl rfl rfl (decide_eq_true hg_7) rfl ?_
                        refine RT.ev rfl rfl (Ev.pickY rfl (decide_eq_true hg_7) rfl) ?_
                        refine RT.nil ?_
                        exact ⟨⟨rfl, rfl, rfl, rfl, rfl, rfl, rfl, rfl, rfl, rfl, rfl, rfl, rfl, rfl, congrArg some (congrArg Value.bool (by simp [hg_5, hg_6, hg_7])), trivial⟩, hs_31⟩
                      · refine RT.yes rfl rfl rfl (decide_eq_false hg_7) ?_
                        refine RT.ev rfl rfl (Ev.move rfl) ?_
                        refine RT.yes rfl rfl rfl (decide_eq_false hg_7) ?_
                        refine RT.eff rfl rfl (OpE.call ent91 rfl ((rvalid_ok x _ (by omega)).mono fun r_6 w_22 h_6 => ?_))
                        obtain ⟨rfl, hp_6⟩ := h_6
                        have hs_32 : Sat w [cObj b_1 51 [(Value.slice none 0 0), (Value.slice none 0 0)], cL vp 5 (encN .u8) (p0), cObj b_2 51 [vw, vc], cL vw 9 (encTx) (W), cL vc 3 (encN .i64) (C), cObj b_3 118 ((encN .u64).all ([a0, a1]))] _ := hs_31.adds hp_6
                        refine RT.yes rfl rfl rfl (decide_eq_false hg_7) ?_
                        refine RT.ev rfl rfl (Ev.notB rfl) ?_
                        refine RT.ev rfl rfl (Ev.pickN rfl (decide_eq_false hg_7) rfl) ?_
                        refine RT.nil ?_
                        exact ⟨⟨rfl, rfl, rfl, rfl, rfl, rfl, rfl, rfl, rfl, rfl, rfl, rfl, rfl, rfl, congrArg some (congrArg Value.bool (by simp [hg_5, hg_6, hg_7])), trivial⟩, hs_32⟩
                · rintro L' w_23 ⟨hw_5, hs_33⟩
                  refine CW.weaken _ hw_5 ?_
                  refine CW.condD rfl (fun hc_7 => ?_) (fun hc_7 => ?_)
                  · refine CW.seq ?_
                    refine CW.region ?_
                    refine RT.ev rfl rfl (Ev.build bt51 rfl trivial rfl) ?_
                    refine RT.eff rfl rfl (OpE.storeObjA (vs := [(Value.slice none 0 0), (Value.slice none 0 0)]) agg51 hs_33 (i := 0) rfl rfl rfl rfl (fun v h => by simp only [List.mem_cons, List.not_mem_nil, or_false] at h; rcases h with rfl | rfl; exact rfl; exact rfl) fun w_24 hs_34 hch_11 => ?_)
                    have hs_34d : Sat w [cObj b_1 51 [(Value.slice none 0 0), (Value.slice none 0 0)], cL vp 5 (encN .u8) (p0), cObj b_2 51 [vw, vc], cL vw 9 (encTx) (W), cL vc 3 (encN .i64) (C), cObj b_3 118 ((encN .u64).all ([a0, a1]))] _ := hs_34
                    refine RT.ev rfl rfl (Ev.assign rfl) ?_
                    refine RT.nil ?_
                    refine CW.ret ?_
                    show PostK _ _ _ _ _ _
                    refine post2c (vs := [(Value.slice none 0 0), (Value.slice none 0 0)]) rfl rfl rfl agg51 (fun j u hu => hs_34d.cell (i := 0) rfl hu) ?_
                    have hs_35 : Sat w [] w_24 := hs_34d.sub ((.cons _ (.cons _ (.cons _ (.cons _ (.cons _ (.cons _ .slnil)))))))
                    exact ⟨_, _, rfl, rfl, rfl, hs_35⟩
                  · refine CW.skip ?_
                    refine CW.seq ?_
                    obtain ⟨he1, he2, he3, he4⟩ := dec28 hc_7
                    have hle3 := uvR_le (l2.drop a1)
                    have hcn3 := tk_cons hb3 he1
                    have hmul : W.length * 4096 ≤ 1024 * 4096 := Nat.mul_le_mul_right _ (by omega)
                    refine CW.region ?_
                    refine RT.ev rfl rfl (Ev.move rfl) ?_
                    refine RT.ev rfl rfl (Ev.move rfl) ?_
                    refine RT.ev rfl rfl (Ev.sliceL (E := encN .u8) (a := (uvR (l2.drop a1)).2.1) (c := (l2.drop a1).length) sl40 rfl (hbv3 _ (hs_33.rdL 1 rfl)) ⟨_, rfl⟩ rfl (hle3) (Nat.le_refl _)) ?_
                    refine RT.ev rfl rfl (Ev.assign rfl) ?_
                    refine RT.nil ?_
                    refine CW.seq ?_
                    refine CW.region ?_
                    refine RT.ev rfl rfl (Ev.move rfl) ?_
                    refine RT.ev rfl rfl (Ev.move rfl) ?_
                    refine RT.ev rfl rfl (Ev.convK (by rw [Try.underlying108]; rfl) Try.underlying3 rfl (wrap_i (by omega))) ?_
                    refine RT.ev rfl rfl (Ev.addI (b := 1) rfl rfl (by omega)) ?_
                    refine RT.ev rfl rfl (Ev.addI rfl rfl (by omega)) ?_
                    refine RT.ev rfl rfl (Ev.assign rfl) ?_
                    refine RT.nil ?_
                    refine CW.seq ?_
                    refine CW.seq ?_
                    refine CW.mid (fun L' w' => Weak [(2, (Value.pointer (some ⟨b_1, 0, none⟩))), (4, (subSl (encN .u8).s (subSl (encN .u8).s bv2 a1 ((l2).length)) ((uvR (l2.drop a1)).2.1) ((l2.drop a1).length))), (6, (Value.pointer (some ⟨b_2, 0, none⟩))), (7, (Value.int .u64 (((uvR p0).1 : Nat) : Int))), (10, (Value.int .i64 (((z + ((uvR (l2.drop a1)).1 + 1)) : Nat) : Int))), (11, (Value.string p)), (12, (Value.int .u64 ((W.length : Nat) : Int))), (13, (Value.pointer (some ⟨b_3, 0, none⟩))), (15, (Value.string x)), (16, (Value.int .u64 (((uvR (l2.drop a1)).1 : Nat) : Int))), (17, (Value.int .i64 (((uvR (l2.drop a1)).2.1 : Nat) : Int))), (18, (Value.int .i64 (((uvR (l2.drop a1)).2.2 : Nat) : Int))), (49, (Value.int .i64 ((2 : Nat) : Int))), (86, (Value.bool (decide ((p.size < a0) ∨ (l2.length < a1))))), (123, (Value.bool (decide (((((uvR (l2.drop a1)).2.2 ≠ 0) ∨ (4096 ≤ (uvR (l2.drop a1)).1)) ∨ (120 < x.size)) ∨ ((!(validN x)) = true))))), (148, (Value.bool (decide ((0 < W.length) ∧ ((¬ SLt p x) ∨ ((comN p x) ≠ a0))))))] L' ∧ Sat w [cObj b_1 51 [(Value.slice none 0 0), (Value.slice none 0 0)], cL vp 5 (encN .u8) (p0), cObj b_2 51 [vw, vc], cL vw 9 (encTx) (W), cL vc 3 (encN .i64) (C), cObj b_3 118 ((encN .u64).all ([a0, a1]))] w') ?_ ?_
                    · refine CW.draw (fun w' => Sat w [cObj b_1 51 [(Value.slice none 0 0), (Value.slice none 0 0)], cL vp 5 (encN .u8) (p0), cObj b_2 51 [vw, vc], cL vw 9 (encTx) (W), cL vc 3 (encN .i64) (C), cObj b_3 118 ((encN .u64).all ([a0, a1]))] w') (.free 0 (.free 1 (.free 2 (.free 3 (.free 4 (.free 5 (.free 6 (.free 7 (.free 8 (.free 10 (.free 11 (.free 12 (.one 9 (.free 13 (.free 14 (.free 15 .fin)))))))))))))))) mixed (by kernel_rfl) ?_
                      have hs_36 := hs_33.drew
                      refine RP.ev rfl rfl rfl (fun w' hS' => Ev.move rfl) hs_36 ?_
                      refine RP.ev rfl rfl rfl (fun w' hS' => Ev.gtrN (b := 0) rfl rfl) hs_36 ?_
                      refine RP.ev rfl rfl rfl (fun w' hS' => Ev.move rfl) hs_36 ?_
                      by_cases hg_8 : 0 < W.length
                      · refine RP.evYes rfl rfl rfl rfl (decide_eq_true hg_8) rfl (fun w' hS' => Ev.move rfl) hs_36 ?_
                        refine RP.evYes rfl rfl rfl rfl (decide_eq_true hg_8) rfl (fun w' hS' => Ev.move rfl) hs_36 ?_
                        refine RP.evYes rfl rfl rfl rfl (decide_eq_true hg_8) rfl (fun w' hS' => Ev.strLeq rfl rfl) hs_36 ?_
                        refine RP.evYes rfl rfl rfl rfl (decide_eq_true hg_8) rfl (fun w' hS' => Ev.move rfl) hs_36 ?_
                        by_cases hg_9 : ¬ SLt p x
                        · refine RP.no rfl rfl rfl rfl (decide_eq_true hg_9) rfl hs_36 ?_
                          refine RP.no rfl rfl rfl rfl (decide_eq_true hg_9) rfl hs_36 ?_
                          refine RP.no rfl rfl rfl rfl (decide_eq_true hg_9) rfl hs_36 ?_
                          refine RP.no rfl rfl rfl rfl (decide_eq_true hg_9) rfl hs_36 ?_
                          refine RP.no rfl rfl rfl rfl (decide_eq_true hg_9) rfl hs_36 ?_
                          refine RP.effNo rfl rfl rfl rfl (decide_eq_true hg_9) rfl hs_36 ?_
                          refine RP.no rfl rfl rfl rfl (decide_eq_true hg_9) rfl hs_36 ?_
                          refine RP.evYes rfl rfl rfl rfl (decide_eq_true hg_8) rfl (fun w' hS' => Ev.pickY rfl (decide_eq_true hg_9) rfl) hs_36 ?_
                          refine RP.ev rfl rfl rfl (fun w' hS' => Ev.pickY rfl (decide_eq_true hg_8) rfl) hs_36 ?_
                          refine RP.fin ?_
                          exact ⟨⟨rfl, rfl, rfl, rfl, rfl, rfl, rfl, rfl, rfl, rfl, rfl, rfl, rfl, rfl, rfl, congrArg some (congrArg Value.bool (by simp [hg_8, hg_9])), trivial⟩, hs_36⟩
                        · refine RP.evYes rfl rfl rfl rfl (decide_eq_false hg_9) rfl (fun w' hS' => Ev.move rfl) hs_36 ?_
                          refine RP.evYes rfl rfl rfl rfl (decide_eq_false hg_9) rfl (fun w' hS' => Ev.move rfl) hs_36 ?_
                          refine RP.evYes rfl rfl rfl rfl (decide_eq_false hg_9) rfl (fun w' hS' => Ev.idxArr (j := 0) arr118 rfl rfl (by decide)) hs_36 ?_
                          refine RP.evYes rfl rfl rfl rfl (decide_eq_false hg_9) rfl (fun w' hS' => Ev.load scal108 rfl (hS'.cellArr (E := encN .u64) 5 rfl rfl (by decide) rfl)) hs_36 ?_
                          refine RP.evYes rfl rfl rfl rfl (decide_eq_false hg_9) rfl (fun w' hS' => Ev.convK (by rw [Try.underlying108]; rfl) Try.underlying3 rfl (wrap_i (by omega))) hs_36 ?_
                          refine RP.effYes rfl rfl rfl rfl (decide_eq_false hg_9) rfl (OpE.call ent88 rfl ((rcommon_ok p x _ (by omega)).mono fun r_7 w_25 h_7 => ?_))
                          obtain ⟨rfl, hp_7⟩ := h_7
                          have hs_37 : Sat w [cObj b_1 51 [(Value.slice none 0 0), (Value.slice none 0 0)], cL vp 5 (encN .u8) (p0), cObj b_2 51 [vw, vc], cL vw 9 (encTx) (W), cL vc 3 (encN .i64) (C), cObj b_3 118 ((encN .u64).all ([a0, a1]))] _ := hs_36.adds hp_7
                          have hS_1 : Sat w [cObj b_1 51 [(Value.slice none 0 0), (Value.slice none 0 0)], cL vp 5 (encN .u8) (p0), cObj b_2 51 [vw, vc], cL vw 9 (encTx) (W), cL vc 3 (encN .i64) (C), cObj b_3 118 ((encN .u64).all ([a0, a1]))] _ := hs_37.sub ((.cons_cons _ (.cons_cons _ (.cons_cons _ (.cons_cons _ (.cons_cons _ (.cons_cons _ .slnil)))))))
                          refine ⟨hS_1, ?_⟩
                          refine RP.evYes rfl rfl rfl rfl (decide_eq_false hg_9) rfl (fun w' hS' => Ev.neqN rfl rfl) hS_1 ?_
                          refine RP.evYes rfl rfl rfl rfl (decide_eq_true hg_8) rfl (fun w' hS' => Ev.pickN rfl (decide_eq_false hg_9) rfl) hS_1 ?_
                          refine RP.ev rfl rfl rfl (fun w' hS' => Ev.pickY rfl (decide_eq_true hg_8) rfl) hS_1 ?_
                          refine RP.fin ?_
                          exact ⟨⟨rfl, rfl, rfl, rfl, rfl, rfl, rfl, rfl, rfl, rfl, rfl, rfl, rfl, rfl, rfl, congrArg some (congrArg Value.bool (by simp [hg_8, hg_9])), trivial⟩, hs_37⟩
                      · refine RP.no rfl rfl rfl rfl (decide_eq_false hg_8) rfl hs_36 ?_
                        refine RP.no rfl rfl rfl rfl (decide_eq_false hg_8) rfl hs_36 ?_
                        refine RP.no rfl rfl rfl rfl (decide_eq_false hg_8) rfl hs_36 ?_
                        refine RP.no rfl rfl rfl rfl (decide_eq_false hg_8) rfl hs_36 ?_
                        refine RP.noU rfl rfl rfl rfl rfl hs_36 ?_
                        refine RP.noU rfl rfl rfl rfl rfl hs_36 ?_
                        refine RP.noU rfl rfl rfl rfl rfl hs_36 ?_
                        refine RP.noU rfl rfl rfl rfl rfl hs_36 ?_
                        refine RP.noU rfl rfl rfl rfl rfl hs_36 ?_
                        refine RP.effNoU rfl rfl rfl rfl rfl hs_36 ?_
                        refine RP.noU rfl rfl rfl rfl rfl hs_36 ?_
                        refine RP.no rfl rfl rfl rfl (decide_eq_false hg_8) rfl hs_36 ?_
                        refine RP.ev rfl rfl rfl (fun w' hS' => Ev.pickN rfl (decide_eq_false hg_8) rfl) hs_36 ?_
                        refine RP.fin ?_
                        exact ⟨⟨rfl, rfl, rfl, rfl, rfl, rfl, rfl, rfl, rfl, rfl, rfl, rfl, rfl, rfl, rfl, congrArg some (congrArg Value.bool (by simp [hg_8])), trivial⟩, hs_36⟩
                    · rintro L' w_26 ⟨hw_6, hs_38⟩
                      refine CW.weaken _ hw_6 ?_
                      refine CW.condD rfl (fun hc_8 => ?_) (fun hc_8 => ?_)
                      · refine CW.seq ?_
                        refine CW.region ?_
                        refine RT.ev rfl rfl (Ev.build bt51 rfl trivial rfl) ?_
                        refine RT.eff rfl rfl (OpE.storeObjA (vs := [(Value.slice none 0 0), (Value.slice none 0 0)]) agg51 hs_38 (i := 0) rfl rfl rfl rfl (fun v h => by simp only [List.mem_cons, List.not_mem_nil, or_false] at h; rcases h with rfl | rfl; exact rfl; exact rfl) fun w_27 hs_39 hch_12 => ?_)
                        have hs_39d : Sat w [cObj b_1 51 [(Value.slice none 0 0), (Value.slice none 0 0)], cL vp 5 (encN .u8) (p0), cObj b_2 51 [vw, vc], cL vw 9 (encTx) (W), cL vc 3 (encN .i64) (C), cObj b_3 118 ((encN .u64).all ([a0, a1]))] _ := hs_39
                        refine RT.ev rfl rfl (Ev.assign rfl) ?_
                        refine RT.nil ?_
                        refine CW.ret ?_
                        show PostK _ _ _ _ _ _
                        refine post2c (vs := [(Value.slice none 0 0), (Value.slice none 0 0)]) rfl rfl rfl agg51 (fun j u hu => hs_39d.cell (i := 0) rfl hu) ?_
                        have hs_40 : Sat w [] w_27 := hs_39d.sub ((.cons _ (.cons _ (.cons _ (.cons _ (.cons _ (.cons _ .slnil)))))))
                        exact ⟨_, _, rfl, rfl, rfl, hs_40⟩
                      · refine CW.skip ?_
                        refine CW.seq ?_
                        have hq := dec32 hc_8
                        have hcom : comN p x = a0 := (Nat.eq_zero_or_pos W.length).elim (fun h9 => by rw [List.eq_nil_of_length_eq_zero h9] at hp; rw [hp] at hE5 ⊢; have h8 : a0 = 0 := Nat.le_zero.1 hE5.1; rw [h8]; simp [comN, comL, lastD]) (fun h9 => (hq h9).2)
                        have hos := okW_snoc hok hpa (fun h9 => (hq h9).1) he4
                        have hem := enc_match (a1 := a1) (c := (uvR (l2.drop a1)).1) (s := (l2.take a1).drop 0) (fun y hy => hb2 y (List.mem_of_mem_take (List.mem_of_mem_drop hy))) hE5.1 (by rw [List.drop_zero, List.length_take]; omega) hx hcom
                        have hshp_1 := (hs_38.rdL (E := encTx) 3 rfl).shp (by decide)
                        have hshp_2 := (hs_38.rdL (E := encN .i64) 4 rfl).shp (by decide)
                        refine CW.draw2 (fun w' => Sat w [cObj b_1 51 [(Value.slice none 0 0), (Value.slice none 0 0)], cL vp 5 (encN .u8) (p0), cObj b_2 51 [vw, vc], cObj b_3 118 ((encN .u64).all ([a0, a1]))] w') (fun w' => Sat w [cObj b_1 51 [(Value.slice none 0 0), (Value.slice none 0 0)], cL vp 5 (encN .u8) (p0), cObj b_3 118 ((encN .u64).all ([a0, a1]))] w') 13 (.free 0 (.free 1 (.free 2 (.free 5 (.free 6 (.loose 7 (.loose 8 (.loose 9 (.two 3 10 (.two 4 10 (.free 12 (.one 10 (.one 11 (.bar 13 (.free 14 (.one 15 .fin)))))) (.one 4 (.free 12 (.one 11 (.bar 13 (.free 14 (.one 15 .fin))))))) (.one 3 (.one 4 (.free 12 (.one 11 (.bar 13 (.free 14 (.one 15 .fin)))))))))))))))) (fun w' h => h.sub ((.cons_cons _ (.cons_cons _ (.cons _ (.cons_cons _ .slnil)))))) mixed (by kernel_rfl) ?_
                        have hs_41 := hs_38.drew
                        have hS_2 : Sat w [cObj b_1 51 [(Value.slice none 0 0), (Value.slice none 0 0)], cL vp 5 (encN .u8) (p0), cObj b_2 51 [vw, vc], cObj b_3 118 ((encN .u64).all ([a0, a1]))] _ := hs_41.sub ((.cons_cons _ (.cons_cons _ (.cons_cons _ (.cons _ (.cons _ (.cons_cons _ .slnil)))))))
                        refine RP.ev rfl rfl rfl (fun w' hS' => Ev.fieldAddr fld51_0 rfl rfl) hS_2 ?_
                        refine RP.ev rfl rfl rfl (fun w' hS' => Ev.load scal45 rfl (hS'.cell (i := 2) (j := 0) rfl rfl)) hS_2 ?_
                        refine RP.ev rfl rfl rfl (fun w' hS' => Ev.move rfl) hS_2 ?_
                        refine RP.ev rfl rfl rfl (fun w' hS' => Ev.fieldAddr fld51_1 rfl rfl) hS_2 ?_
                        refine RP.ev rfl rfl rfl (fun w' hS' => Ev.load scal22 rfl (hS'.cell (i := 2) (j := 1) rfl rfl)) hS_2 ?_
                        refine RP.loose rfl rfl rfl (fun w' hS' => Ev.move rfl) hS_2 ?_
                        refine RP.loose rfl rfl rfl (fun w' hS' => Ev.convK (by rw [Try.underlying108]; rfl) Try.underlying3 rfl (wrap_i (by omega))) hS_2 ?_
                        refine RP.loose rfl rfl rfl (fun w' hS' => Ev.addI (b := 1) rfl rfl (by omega)) hS_2 ?_
                        refine RP.two rfl rfl rfl rfl rfl rfl (OpE.lit1 (encTx) x sl45 rfl hs_41 rfl fun v_1 w_28 hs_42 hch_13 => ?_) (OpE.lit1 (encN .i64) ((uvR (l2.drop a1)).1 + 1) sl22 rfl hs_41 rfl fun v_2 w_29 hs_43 hch_14 => ?_)
                        · have hs_42d : Sat w [cObj b_1 51 [(Value.slice none 0 0), (Value.slice none 0 0)], cL vp 5 (encN .u8) (p0), cObj b_2 51 [vw, vc], cL vw 9 (encTx) (W), cL vc 3 (encN .i64) (C), cObj b_3 118 ((encN .u64).all ([a0, a1])), cL v_1 9 (encTx) ([x])] _ := hs_42
                          have hS_3 : Sat w [cObj b_1 51 [(Value.slice none 0 0), (Value.slice none 0 0)], cL vp 5 (encN .u8) (p0), cObj b_2 51 [vw, vc], cObj b_3 118 ((encN .u64).all ([a0, a1]))] _ := hs_42d.sub ((.cons_cons _ (.cons_cons _ (.cons_cons _ (.cons _ (.cons _ (.cons_cons _ (.cons _ .slnil))))))))
                          refine ⟨hS_3, ?_⟩
                          refine RP.two rfl rfl rfl rfl rfl rfl (OpE.appendL 3 sl45 hs_42d rfl rfl rfl Try.underlying45 (hs_42d.rdL 6 rfl) (by simp only [List.length_cons, List.length_nil]; omega) (by simp only [List.length_cons, List.length_nil]; omega) fun v_3 w_30 hs_44 hch_15 => ?_) (OpE.lit1 (encN .i64) ((uvR (l2.drop a1)).1 + 1) sl22 rfl hs_42d rfl fun v_4 w_31 hs_45 hch_16 => ?_)
                          · have hs_44d : Sat w [cObj b_1 51 [(Value.slice none 0 0), (Value.slice none 0 0)], cL vp 5 (encN .u8) (p0), cObj b_2 51 [vw, vc], cL v_3 9 (encTx) (W ++ [x]), cL vc 3 (encN .i64) (C), cObj b_3 118 ((encN .u64).all ([a0, a1]))] _ := hs_44.drop 6
                            have hS_4 : Sat w [cObj b_1 51 [(Value.slice none 0 0), (Value.slice none 0 0)], cL vp 5 (encN .u8) (p0), cObj b_2 51 [vw, vc], cObj b_3 118 ((encN .u64).all ([a0, a1]))] _ := hs_44d.sub ((.cons_cons _ (.cons_cons _ (.cons_cons _ (.cons _ (.cons _ (.cons_cons _ .slnil)))))))
                            refine ⟨hS_4, ?_⟩
                            refine RP.ev rfl rfl rfl (fun w' hS' => Ev.fieldAddr fld51_0 rfl rfl) hS_4 ?_
                            refine RP.eff rfl rfl rfl (OpE.lit1 (encN .i64) ((uvR (l2.drop a1)).1 + 1) sl22 rfl hs_44d rfl fun v_5 w_32 hs_46 hch_17 => ?_)
                            have hs_46d : Sat w [cObj b_1 51 [(Value.slice none 0 0), (Value.slice none 0 0)], cL vp 5 (encN .u8) (p0), cObj b_2 51 [vw, vc], cL v_3 9 (encTx) (W ++ [x]), cL vc 3 (encN .i64) (C), cObj b_3 118 ((encN .u64).all ([a0, a1])), cL v_5 3 (encN .i64) ([((uvR (l2.drop a1)).1 + 1)])] _ := hs_46
                            have hS_5 : Sat w [cObj b_1 51 [(Value.slice none 0 0), (Value.slice none 0 0)], cL vp 5 (encN .u8) (p0), cObj b_2 51 [vw, vc], cObj b_3 118 ((encN .u64).all ([a0, a1]))] _ := hs_46d.sub ((.cons_cons _ (.cons_cons _ (.cons_cons _ (.cons _ (.cons _ (.cons_cons _ (.cons _ .slnil))))))))
                            refine ⟨hS_5, ?_⟩
                            refine RP.eff rfl rfl rfl (OpE.appendL 4 sl22 hs_46d rfl rfl rfl Try.underlying22 (hs_46d.rdL 6 rfl) (by simp only [List.length_cons, List.length_nil]; omega) (by simp only [List.length_cons, List.length_nil]; omega) fun v_6 w_33 hs_47 hch_18 => ?_)
                            have hs_47d : Sat w [cObj b_1 51 [(Value.slice none 0 0), (Value.slice none 0 0)], cL vp 5 (encN .u8) (p0), cObj b_2 51 [vw, vc], cL v_3 9 (encTx) (W ++ [x]), cL v_6 3 (encN .i64) (C ++ [((uvR (l2.drop a1)).1 + 1)]), cObj b_3 118 ((encN .u64).all ([a0, a1]))] _ := hs_47.drop 6
                            have hS_6 : Sat w [cObj b_1 51 [(Value.slice none 0 0), (Value.slice none 0 0)], cL vp 5 (encN .u8) (p0), cObj b_2 51 [vw, vc], cObj b_3 118 ((encN .u64).all ([a0, a1]))] _ := hs_47d.sub ((.cons_cons _ (.cons_cons _ (.cons_cons _ (.cons _ (.cons _ (.cons_cons _ .slnil)))))))
                            refine ⟨hS_6, ?_⟩
                            refine RP.bar rfl rfl rfl (OpE.storeObj one45 hs_47d (i := 2) rfl rfl rfl ((hs_47d.rdL 3 rfl).oneCell) rfl fun w_34 hs_48 hch_19 => ?_)
                            have hs_48d : Sat w [cObj b_1 51 [(Value.slice none 0 0), (Value.slice none 0 0)], cL vp 5 (encN .u8) (p0), cObj b_2 51 [v_3, vc], cL v_3 9 (encTx) (W ++ [x]), cL v_6 3 (encN .i64) (C ++ [((uvR (l2.drop a1)).1 + 1)]), cObj b_3 118 ((encN .u64).all ([a0, a1]))] _ := hs_48
                            have hS_7 : Sat w [cObj b_1 51 [(Value.slice none 0 0), (Value.slice none 0 0)], cL vp 5 (encN .u8) (p0), cObj b_3 118 ((encN .u64).all ([a0, a1]))] _ := hs_48d.sub ((.cons_cons _ (.cons_cons _ (.cons _ (.cons _ (.cons _ (.cons_cons _ .slnil)))))))
                            refine ⟨hS_7, ?_⟩
                            refine RP.ev rfl rfl rfl (fun w' hS' => Ev.fieldAddr fld51_1 rfl rfl) hS_7 ?_
                            refine RP.eff rfl rfl rfl (OpE.storeObj one22 hs_48d (i := 2) rfl rfl rfl ((hs_48d.rdL 4 rfl).oneCell) rfl fun w_35 hs_49 hch_20 => ?_)
                            have hs_49d : Sat w [cObj b_1 51 [(Value.slice none 0 0), (Value.slice none 0 0)], cL vp 5 (encN .u8) (p0), cObj b_2 51 [v_3, v_6], cL v_3 9 (encTx) (W ++ [x]), cL v_6 3 (encN .i64) (C ++ [((uvR (l2.drop a1)).1 + 1)]), cObj b_3 118 ((encN .u64).all ([a0, a1]))] _ := hs_49
                            have hS_8 : Sat w [cObj b_1 51 [(Value.slice none 0 0), (Value.slice none 0 0)], cL vp 5 (encN .u8) (p0), cObj b_3 118 ((encN .u64).all ([a0, a1]))] _ := hs_49d.sub ((.cons_cons _ (.cons_cons _ (.cons _ (.cons _ (.cons _ (.cons_cons _ .slnil)))))))
                            refine ⟨hS_8, ?_⟩
                            refine RP.fin ?_
                            refine CW.region ?_
                            refine RT.ev rfl rfl (Ev.move rfl) ?_
                            refine RT.ev rfl rfl (Ev.assign rfl) ?_
                            refine RT.nil ?_
                            refine CW.region ?_
                            refine RT.ev rfl rfl (Ev.move rfl) ?_
                            refine RT.ev rfl rfl (Ev.addN (b := 1) rfl rfl rfl) ?_
                            refine RT.ev rfl rfl (Ev.assign rfl) ?_
                            refine RT.nil ?_
                            have hs_50 : Sat w [cObj b_1 51 [(Value.slice none 0 0), (Value.slice none 0 0)], cL vp 5 (encN .u8) (p0), cObj b_2 51 [v_3, v_6], cL v_3 9 (encTx) (W ++ [x]), cL v_6 3 (encN .i64) (C ++ [((uvR (l2.drop a1)).1 + 1)])] w_35 := hs_49d.sub ((.cons_cons _ (.cons_cons _ (.cons_cons _ (.cons_cons _ (.cons_cons _ (.cons _ .slnil)))))))
                            exact ⟨((subSl (encN .u8).s (subSl (encN .u8).s bv2 a1 ((l2).length)) ((uvR (l2.drop a1)).2.1) ((l2.drop a1).length)), ((l2.drop a1).take ((l2.drop a1).length)).drop ((uvR (l2.drop a1)).2.1), x, (z + ((uvR (l2.drop a1)).1 + 1)), v_3, v_6, W ++ [x], C ++ [((uvR (l2.drop a1)).1 + 1)]), ⟨rfl, rfl, rfl, rfl, rfl, rfl, congrArg some (congrArg (fun q : Nat => Value.int .u64 (q : Int)) (show (W.length + 1) % 2 ^ 64 = (W ++ [x]).length by rw [List.length_append]; exact Nat.mod_eq_of_lt (by omega))), trivial⟩, ⟨hs_50, fun w9 h9 => (hbv3 w9 h9).sub hle3 (Nat.le_refl _), fun y hy => hb3 y (List.mem_of_mem_take (List.mem_of_mem_drop hy)), by rw [List.length_drop, List.length_take]; omega, by rw [encL_snoc _ _ _ _ _ hCl, ← hp, hem, List.append_assoc, List.append_assoc, List.append_assoc, List.append_assoc, ← hcn3, List.drop_zero, List.take_append_drop, ← hcc2]; exact hcons, (lastD_snoc _ _ _).symm, hos.1, by rw [List.length_append, List.length_append, hCl]; rfl, all_snoc1 hsz (by omega), all_snoc1 hC (by omega), by rw [List.sum_append, hz]; simp, by rw [List.length_append, List.length_singleton]; omega, by omega, hos.2, by rw [List.length_append, List.length_singleton]; omega⟩, (show ((uvR p0).1 - (W ++ [x]).length) < ((uvR p0).1 - W.length) from by rw [List.length_append, List.length_singleton]; omega)⟩
                          · have hs_45d : Sat w [cObj b_1 51 [(Value.slice none 0 0), (Value.slice none 0 0)], cL vp 5 (encN .u8) (p0), cObj b_2 51 [vw, vc], cL vw 9 (encTx) (W), cL vc 3 (encN .i64) (C), cObj b_3 118 ((encN .u64).all ([a0, a1])), cL v_1 9 (encTx) ([x]), cL v_4 3 (encN .i64) ([((uvR (l2.drop a1)).1 + 1)])] _ := hs_45
                            have hS_9 : Sat w [cObj b_1 51 [(Value.slice none 0 0), (Value.slice none 0 0)], cL vp 5 (encN .u8) (p0), cObj b_2 51 [vw, vc], cObj b_3 118 ((encN .u64).all ([a0, a1]))] _ := hs_45d.sub ((.cons_cons _ (.cons_cons _ (.cons_cons _ (.cons _ (.cons _ (.cons_cons _ (.cons _ (.cons _ .slnil)))))))))
                            refine ⟨hS_9, ?_⟩
                            refine RP.eff rfl rfl rfl (OpE.appendL 3 sl45 hs_45d rfl rfl rfl Try.underlying45 (hs_45d.rdL 6 rfl) (by simp only [List.length_cons, List.length_nil]; omega) (by simp only [List.length_cons, List.length_nil]; omega) fun v_7 w_36 hs_51 hch_21 => ?_)
                            have hs_51d : Sat w [cObj b_1 51 [(Value.slice none 0 0), (Value.slice none 0 0)], cL vp 5 (encN .u8) (p0), cObj b_2 51 [vw, vc], cL v_7 9 (encTx) (W ++ [x]), cL vc 3 (encN .i64) (C), cObj b_3 118 ((encN .u64).all ([a0, a1])), cL v_4 3 (encN .i64) ([((uvR (l2.drop a1)).1 + 1)])] _ := hs_51.drop 6
                            have hS_10 : Sat w [cObj b_1 51 [(Value.slice none 0 0), (Value.slice none 0 0)], cL vp 5 (encN .u8) (p0), cObj b_2 51 [vw, vc], cObj b_3 118 ((encN .u64).all ([a0, a1]))] _ := hs_51d.sub ((.cons_cons _ (.cons_cons _ (.cons_cons _ (.cons _ (.cons _ (.cons_cons _ (.cons _ .slnil))))))))
                            refine ⟨hS_10, ?_⟩
                            refine RP.ev rfl rfl rfl (fun w' hS' => Ev.fieldAddr fld51_0 rfl rfl) hS_10 ?_
                            refine RP.eff rfl rfl rfl (OpE.appendL 4 sl22 hs_51d rfl rfl rfl Try.underlying22 (hs_51d.rdL 6 rfl) (by simp only [List.length_cons, List.length_nil]; omega) (by simp only [List.length_cons, List.length_nil]; omega) fun v_8 w_37 hs_52 hch_22 => ?_)
                            have hs_52d : Sat w [cObj b_1 51 [(Value.slice none 0 0), (Value.slice none 0 0)], cL vp 5 (encN .u8) (p0), cObj b_2 51 [vw, vc], cL v_7 9 (encTx) (W ++ [x]), cL v_8 3 (encN .i64) (C ++ [((uvR (l2.drop a1)).1 + 1)]), cObj b_3 118 ((encN .u64).all ([a0, a1]))] _ := hs_52.drop 6
                            have hS_11 : Sat w [cObj b_1 51 [(Value.slice none 0 0), (Value.slice none 0 0)], cL vp 5 (encN .u8) (p0), cObj b_2 51 [vw, vc], cObj b_3 118 ((encN .u64).all ([a0, a1]))] _ := hs_52d.sub ((.cons_cons _ (.cons_cons _ (.cons_cons _ (.cons _ (.cons _ (.cons_cons _ .slnil)))))))
                            refine ⟨hS_11, ?_⟩
                            refine RP.bar rfl rfl rfl (OpE.storeObj one45 hs_52d (i := 2) rfl rfl rfl ((hs_52d.rdL 3 rfl).oneCell) rfl fun w_38 hs_53 hch_23 => ?_)
                            have hs_53d : Sat w [cObj b_1 51 [(Value.slice none 0 0), (Value.slice none 0 0)], cL vp 5 (encN .u8) (p0), cObj b_2 51 [v_7, vc], cL v_7 9 (encTx) (W ++ [x]), cL v_8 3 (encN .i64) (C ++ [((uvR (l2.drop a1)).1 + 1)]), cObj b_3 118 ((encN .u64).all ([a0, a1]))] _ := hs_53
                            have hS_12 : Sat w [cObj b_1 51 [(Value.slice none 0 0), (Value.slice none 0 0)], cL vp 5 (encN .u8) (p0), cObj b_3 118 ((encN .u64).all ([a0, a1]))] _ := hs_53d.sub ((.cons_cons _ (.cons_cons _ (.cons _ (.cons _ (.cons _ (.cons_cons _ .slnil)))))))
                            refine ⟨hS_12, ?_⟩
                            refine RP.ev rfl rfl rfl (fun w' hS' => Ev.fieldAddr fld51_1 rfl rfl) hS_12 ?_
                            refine RP.eff rfl rfl rfl (OpE.storeObj one22 hs_53d (i := 2) rfl rfl rfl ((hs_53d.rdL 4 rfl).oneCell) rfl fun w_39 hs_54 hch_24 => ?_)
                            have hs_54d : Sat w [cObj b_1 51 [(Value.slice none 0 0), (Value.slice none 0 0)], cL vp 5 (encN .u8) (p0), cObj b_2 51 [v_7, v_8], cL v_7 9 (encTx) (W ++ [x]), cL v_8 3 (encN .i64) (C ++ [((uvR (l2.drop a1)).1 + 1)]), cObj b_3 118 ((encN .u64).all ([a0, a1]))] _ := hs_54
                            have hS_13 : Sat w [cObj b_1 51 [(Value.slice none 0 0), (Value.slice none 0 0)], cL vp 5 (encN .u8) (p0), cObj b_3 118 ((encN .u64).all ([a0, a1]))] _ := hs_54d.sub ((.cons_cons _ (.cons_cons _ (.cons _ (.cons _ (.cons _ (.cons_cons _ .slnil)))))))
                            refine ⟨hS_13, ?_⟩
                            refine RP.fin ?_
                            refine CW.region ?_
                            refine RT.ev rfl rfl (Ev.move rfl) ?_
                            refine RT.ev rfl rfl (Ev.assign rfl) ?_
                            refine RT.nil ?_
                            refine CW.region ?_
                            refine RT.ev rfl rfl (Ev.move rfl) ?_
                            refine RT.ev rfl rfl (Ev.addN (b := 1) rfl rfl rfl) ?_
                            refine RT.ev rfl rfl (Ev.assign rfl) ?_
                            refine RT.nil ?_
                            have hs_55 : Sat w [cObj b_1 51 [(Value.slice none 0 0), (Value.slice none 0 0)], cL vp 5 (encN .u8) (p0), cObj b_2 51 [v_7, v_8], cL v_7 9 (encTx) (W ++ [x]), cL v_8 3 (encN .i64) (C ++ [((uvR (l2.drop a1)).1 + 1)])] w_39 := hs_54d.sub ((.cons_cons _ (.cons_cons _ (.cons_cons _ (.cons_cons _ (.cons_cons _ (.cons _ .slnil)))))))
                            exact ⟨((subSl (encN .u8).s (subSl (encN .u8).s bv2 a1 ((l2).length)) ((uvR (l2.drop a1)).2.1) ((l2.drop a1).length)), ((l2.drop a1).take ((l2.drop a1).length)).drop ((uvR (l2.drop a1)).2.1), x, (z + ((uvR (l2.drop a1)).1 + 1)), v_7, v_8, W ++ [x], C ++ [((uvR (l2.drop a1)).1 + 1)]), ⟨rfl, rfl, rfl, rfl, rfl, rfl, congrArg some (congrArg (fun q : Nat => Value.int .u64 (q : Int)) (show (W.length + 1) % 2 ^ 64 = (W ++ [x]).length by rw [List.length_append]; exact Nat.mod_eq_of_lt (by omega))), trivial⟩, ⟨hs_55, fun w9 h9 => (hbv3 w9 h9).sub hle3 (Nat.le_refl _), fun y hy => hb3 y (List.mem_of_mem_take (List.mem_of_mem_drop hy)), by rw [List.length_drop, List.length_take]; omega, by rw [encL_snoc _ _ _ _ _ hCl, ← hp, hem, List.append_assoc, List.append_assoc, List.append_assoc, List.append_assoc, ← hcn3, List.drop_zero, List.take_append_drop, ← hcc2]; exact hcons, (lastD_snoc _ _ _).symm, hos.1, by rw [List.length_append, List.length_append, hCl]; rfl, all_snoc1 hsz (by omega), all_snoc1 hC (by omega), by rw [List.sum_append, hz]; simp, by rw [List.length_append, List.length_singleton]; omega, by omega, hos.2, by rw [List.length_append, List.length_singleton]; omega⟩, (show ((uvR p0).1 - (W ++ [x]).length) < ((uvR p0).1 - W.length) from by rw [List.length_append, List.length_singleton]; omega)⟩
                        · have hs_43d : Sat w [cObj b_1 51 [(Value.slice none 0 0), (Value.slice none 0 0)], cL vp 5 (encN .u8) (p0), cObj b_2 51 [vw, vc], cL vw 9 (encTx) (W), cL vc 3 (encN .i64) (C), cObj b_3 118 ((encN .u64).all ([a0, a1])), cL v_2 3 (encN .i64) ([((uvR (l2.drop a1)).1 + 1)])] _ := hs_43
                          have hS_14 : Sat w [cObj b_1 51 [(Value.slice none 0 0), (Value.slice none 0 0)], cL vp 5 (encN .u8) (p0), cObj b_2 51 [vw, vc], cObj b_3 118 ((encN .u64).all ([a0, a1]))] _ := hs_43d.sub ((.cons_cons _ (.cons_cons _ (.cons_cons _ (.cons _ (.cons _ (.cons_cons _ (.cons _ .slnil))))))))
                          refine ⟨hS_14, ?_⟩
                          refine RP.eff rfl rfl rfl (OpE.lit1 (encTx) x sl45 rfl hs_43d rfl fun v_9 w_40 hs_56 hch_25 => ?_)
                          have hs_56d : Sat w [cObj b_1 51 [(Value.slice none 0 0), (Value.slice none 0 0)], cL vp 5 (encN .u8) (p0), cObj b_2 51 [vw, vc], cL vw 9 (encTx) (W), cL vc 3 (encN .i64) (C), cObj b_3 118 ((encN .u64).all ([a0, a1])), cL v_2 3 (encN .i64) ([((uvR (l2.drop a1)).1 + 1)]), cL v_9 9 (encTx) ([x])] _ := hs_56
                          have hS_15 : Sat w [cObj b_1 51 [(Value.slice none 0 0), (Value.slice none 0 0)], cL vp 5 (encN .u8) (p0), cObj b_2 51 [vw, vc], cObj b_3 118 ((encN .u64).all ([a0, a1]))] _ := hs_56d.sub ((.cons_cons _ (.cons_cons _ (.cons_cons _ (.cons _ (.cons _ (.cons_cons _ (.cons _ (.cons _ .slnil)))))))))
                          refine ⟨hS_15, ?_⟩
                          refine RP.eff rfl rfl rfl (OpE.appendL 3 sl45 hs_56d rfl rfl rfl Try.underlying45 (hs_56d.rdL 7 rfl) (by simp only [List.length_cons, List.length_nil]; omega) (by simp only [List.length_cons, List.length_nil]; omega) fun v_10 w_41 hs_57 hch_26 => ?_)
                          have hs_57d : Sat w [cObj b_1 51 [(Value.slice none 0 0), (Value.slice none 0 0)], cL vp 5 (encN .u8) (p0), cObj b_2 51 [vw, vc], cL v_10 9 (encTx) (W ++ [x]), cL vc 3 (encN .i64) (C), cObj b_3 118 ((encN .u64).all ([a0, a1])), cL v_2 3 (encN .i64) ([((uvR (l2.drop a1)).1 + 1)])] _ := hs_57.drop 7
                          have hS_16 : Sat w [cObj b_1 51 [(Value.slice none 0 0), (Value.slice none 0 0)], cL vp 5 (encN .u8) (p0), cObj b_2 51 [vw, vc], cObj b_3 118 ((encN .u64).all ([a0, a1]))] _ := hs_57d.sub ((.cons_cons _ (.cons_cons _ (.cons_cons _ (.cons _ (.cons _ (.cons_cons _ (.cons _ .slnil))))))))
                          refine ⟨hS_16, ?_⟩
                          refine RP.ev rfl rfl rfl (fun w' hS' => Ev.fieldAddr fld51_0 rfl rfl) hS_16 ?_
                          refine RP.eff rfl rfl rfl (OpE.appendL 4 sl22 hs_57d rfl rfl rfl Try.underlying22 (hs_57d.rdL 6 rfl) (by simp only [List.length_cons, List.length_nil]; omega) (by simp only [List.length_cons, List.length_nil]; omega) fun v_11 w_42 hs_58 hch_27 => ?_)
                          have hs_58d : Sat w [cObj b_1 51 [(Value.slice none 0 0), (Value.slice none 0 0)], cL vp 5 (encN .u8) (p0), cObj b_2 51 [vw, vc], cL v_10 9 (encTx) (W ++ [x]), cL v_11 3 (encN .i64) (C ++ [((uvR (l2.drop a1)).1 + 1)]), cObj b_3 118 ((encN .u64).all ([a0, a1]))] _ := hs_58.drop 6
                          have hS_17 : Sat w [cObj b_1 51 [(Value.slice none 0 0), (Value.slice none 0 0)], cL vp 5 (encN .u8) (p0), cObj b_2 51 [vw, vc], cObj b_3 118 ((encN .u64).all ([a0, a1]))] _ := hs_58d.sub ((.cons_cons _ (.cons_cons _ (.cons_cons _ (.cons _ (.cons _ (.cons_cons _ .slnil)))))))
                          refine ⟨hS_17, ?_⟩
                          refine RP.bar rfl rfl rfl (OpE.storeObj one45 hs_58d (i := 2) rfl rfl rfl ((hs_58d.rdL 3 rfl).oneCell) rfl fun w_43 hs_59 hch_28 => ?_)
                          have hs_59d : Sat w [cObj b_1 51 [(Value.slice none 0 0), (Value.slice none 0 0)], cL vp 5 (encN .u8) (p0), cObj b_2 51 [v_10, vc], cL v_10 9 (encTx) (W ++ [x]), cL v_11 3 (encN .i64) (C ++ [((uvR (l2.drop a1)).1 + 1)]), cObj b_3 118 ((encN .u64).all ([a0, a1]))] _ := hs_59
                          have hS_18 : Sat w [cObj b_1 51 [(Value.slice none 0 0), (Value.slice none 0 0)], cL vp 5 (encN .u8) (p0), cObj b_3 118 ((encN .u64).all ([a0, a1]))] _ := hs_59d.sub ((.cons_cons _ (.cons_cons _ (.cons _ (.cons _ (.cons _ (.cons_cons _ .slnil)))))))
                          refine ⟨hS_18, ?_⟩
                          refine RP.ev rfl rfl rfl (fun w' hS' => Ev.fieldAddr fld51_1 rfl rfl) hS_18 ?_
                          refine RP.eff rfl rfl rfl (OpE.storeObj one22 hs_59d (i := 2) rfl rfl rfl ((hs_59d.rdL 4 rfl).oneCell) rfl fun w_44 hs_60 hch_29 => ?_)
                          have hs_60d : Sat w [cObj b_1 51 [(Value.slice none 0 0), (Value.slice none 0 0)], cL vp 5 (encN .u8) (p0), cObj b_2 51 [v_10, v_11], cL v_10 9 (encTx) (W ++ [x]), cL v_11 3 (encN .i64) (C ++ [((uvR (l2.drop a1)).1 + 1)]), cObj b_3 118 ((encN .u64).all ([a0, a1]))] _ := hs_60
                          have hS_19 : Sat w [cObj b_1 51 [(Value.slice none 0 0), (Value.slice none 0 0)], cL vp 5 (encN .u8) (p0), cObj b_3 118 ((encN .u64).all ([a0, a1]))] _ := hs_60d.sub ((.cons_cons _ (.cons_cons _ (.cons _ (.cons _ (.cons _ (.cons_cons _ .slnil)))))))
                          refine ⟨hS_19, ?_⟩
                          refine RP.fin ?_
                          refine CW.region ?_
                          refine RT.ev rfl rfl (Ev.move rfl) ?_
                          refine RT.ev rfl rfl (Ev.assign rfl) ?_
                          refine RT.nil ?_
                          refine CW.region ?_
                          refine RT.ev rfl rfl (Ev.move rfl) ?_
                          refine RT.ev rfl rfl (Ev.addN (b := 1) rfl rfl rfl) ?_
                          refine RT.ev rfl rfl (Ev.assign rfl) ?_
                          refine RT.nil ?_
                          have hs_61 : Sat w [cObj b_1 51 [(Value.slice none 0 0), (Value.slice none 0 0)], cL vp 5 (encN .u8) (p0), cObj b_2 51 [v_10, v_11], cL v_10 9 (encTx) (W ++ [x]), cL v_11 3 (encN .i64) (C ++ [((uvR (l2.drop a1)).1 + 1)])] w_44 := hs_60d.sub ((.cons_cons _ (.cons_cons _ (.cons_cons _ (.cons_cons _ (.cons_cons _ (.cons _ .slnil)))))))
                          exact ⟨((subSl (encN .u8).s (subSl (encN .u8).s bv2 a1 ((l2).length)) ((uvR (l2.drop a1)).2.1) ((l2.drop a1).length)), ((l2.drop a1).take ((l2.drop a1).length)).drop ((uvR (l2.drop a1)).2.1), x, (z + ((uvR (l2.drop a1)).1 + 1)), v_10, v_11, W ++ [x], C ++ [((uvR (l2.drop a1)).1 + 1)]), ⟨rfl, rfl, rfl, rfl, rfl, rfl, congrArg some (congrArg (fun q : Nat => Value.int .u64 (q : Int)) (show (W.length + 1) % 2 ^ 64 = (W ++ [x]).length by rw [List.length_append]; exact Nat.mod_eq_of_lt (by omega))), trivial⟩, ⟨hs_61, fun w9 h9 => (hbv3 w9 h9).sub hle3 (Nat.le_refl _), fun y hy => hb3 y (List.mem_of_mem_take (List.mem_of_mem_drop hy)), by rw [List.length_drop, List.length_take]; omega, by rw [encL_snoc _ _ _ _ _ hCl, ← hp, hem, List.append_assoc, List.append_assoc, List.append_assoc, List.append_assoc, ← hcn3, List.drop_zero, List.take_append_drop, ← hcc2]; exact hcons, (lastD_snoc _ _ _).symm, hos.1, by rw [List.length_append, List.length_append, hCl]; rfl, all_snoc1 hsz (by omega), all_snoc1 hC (by omega), by rw [List.sum_append, hz]; simp, by rw [List.length_append, List.length_singleton]; omega, by omega, hos.2, by rw [List.length_append, List.length_singleton]; omega⟩, (show ((uvR p0).1 - (W ++ [x]).length) < ((uvR p0).1 - W.length) from by rw [List.length_append, List.length_singleton]; omega)⟩
        · refine CW.exit0 ?_
          refine CW.seq ?_
          refine CW.region ?_
          refine RT.ev rfl rfl (Ev.ldObj agg51 rfl hs_11 (i := 2) rfl rfl) ?_
          refine RT.ev rfl rfl (Ev.move rfl) ?_
          refine RT.ev rfl rfl (Ev.lenL Try.underlying40 rfl (hbv _ (hs_11.rdL 1 rfl))) ?_
          refine RT.ev rfl rfl (Ev.eqlN (b := 0) rfl rfl) ?_
          refine RT.ev rfl rfl (Ev.move rfl) ?_
          by_cases hg_10 : l.length = 0
          · refine RT.yes rfl rfl rfl (decide_eq_true hg_10) ?_
            refine RT.ev rfl rfl (Ev.move rfl) ?_
            refine RT.yes rfl rfl rfl (decide_eq_true hg_10) ?_
            refine RT.ev rfl rfl (Ev.leqN (b := 4096) rfl rfl) ?_
            refine RT.ev rfl rfl (Ev.pickY rfl (decide_eq_true hg_10) rfl) ?_
            refine RT.eff rfl rfl (OpE.storeObjA (vs := [vw, vc]) agg51 hs_11 (i := 0) rfl rfl rfl rfl (fun v h => by simp only [List.mem_cons, List.not_mem_nil, or_false] at h; rcases h with rfl | rfl; exact (hs_11.rdL 3 rfl).oneCell; exact (hs_11.rdL 4 rfl).oneCell) fun w_45 hs_62 hch_30 => ?_)
            have hs_62d : Sat w [cObj b_1 51 [vw, vc], cL vp 5 (encN .u8) (p0), cObj b_2 51 [vw, vc], cL vw 9 (encTx) (W), cL vc 3 (encN .i64) (C)] _ := hs_62
            refine RT.ev rfl rfl (Ev.assign rfl) ?_
            refine RT.nil ?_
            refine CW.ret ?_
            show PostK _ _ _ _ _ _
            refine post2c (vs := [vw, vc]) rfl rfl rfl agg51 (fun j u hu => hs_62d.cell (i := 0) rfl hu) ?_
            have hs_63 : Sat w [] w_45 := hs_62d.sub ((.cons _ (.cons _ (.cons _ (.cons _ (.cons _ .slnil))))))
            have hz9 : ¬ z ≤ 4096 := fun h9 => hno ⟨W, C, ⟨hok, hCl, hsz, hC, by omega, by omega⟩, by rw [hp0, encA_all hCl, hcons, show l = [] from List.eq_nil_of_length_eq_zero (by assumption), List.append_nil, show (uvR p0).1 = W.length by omega]; rfl⟩
            exact ⟨_, _, (hs_62d.rdL 3 rfl).oneCell, (hs_62d.rdL 4 rfl).oneCell, congrArg (fun q => Value.tuple #[_, Value.bool q]) (decide_eq_false hz9), hs_63⟩
          · refine RT.no rfl rfl rfl (decide_eq_false hg_10) rfl ?_
            refine RT.no rfl rfl rfl (decide_eq_false hg_10) rfl ?_
            refine RT.ev rfl rfl (Ev.pickN rfl (decide_eq_false hg_10) rfl) ?_
            refine RT.eff rfl rfl (OpE.storeObjA (vs := [vw, vc]) agg51 hs_11 (i := 0) rfl rfl rfl rfl (fun v h => by simp only [List.mem_cons, List.not_mem_nil, or_false] at h; rcases h with rfl | rfl; exact (hs_11.rdL 3 rfl).oneCell; exact (hs_11.rdL 4 rfl).oneCell) fun w_46 hs_64 hch_31 => ?_)
            have hs_64d : Sat w [cObj b_1 51 [vw, vc], cL vp 5 (encN .u8) (p0), cObj b_2 51 [vw, vc], cL vw 9 (encTx) (W), cL vc 3 (encN .i64) (C)] _ := hs_64
            refine RT.ev rfl rfl (Ev.assign rfl) ?_
            refine RT.nil ?_
            refine CW.ret ?_
            show PostK _ _ _ _ _ _
            refine post2c (vs := [vw, vc]) rfl rfl rfl agg51 (fun j u hu => hs_64d.cell (i := 0) rfl hu) ?_
            have hs_65 : Sat w [] w_46 := hs_64d.sub ((.cons _ (.cons _ (.cons _ (.cons _ (.cons _ .slnil))))))
            exact ⟨_, _, (hs_64d.rdL 3 rfl).oneCell, (hs_64d.rdL 4 rfl).oneCell, rfl, hs_65⟩
  · refine CW.region ?_
    refine RT.ev rfl rfl (Ev.move rfl) ?_
    refine RT.eff rfl rfl (OpE.call ent89 rfl ((runseal_bad (hv.ext hs_1d.ext) hb (by omega) hun).mono fun r_8 w_47 h_8 => ?_))
    obtain ⟨ru_1, rfl, hp_8⟩ := h_8
    have hs_66 : Sat w [cObj b_1 51 [(Value.slice none 0 0), (Value.slice none 0 0)]] _ := hs_1d.adds hp_8
    refine RT.ev rfl rfl (Ev.move rfl) ?_
    refine RT.ev rfl rfl (Ev.extract rfl rfl) ?_
    refine RT.ev rfl rfl (Ev.extract rfl rfl) ?_
    refine RT.ev rfl rfl (Ev.assign rfl) ?_
    refine RT.ev rfl rfl (Ev.assign rfl) ?_
    refine RT.nil ?_
    refine CW.seq ?_
    refine CW.seq ?_
    refine CW.region ?_
    refine RT.ev rfl rfl (Ev.move rfl) ?_
    refine RT.ev rfl rfl (Ev.notB rfl) ?_
    refine RT.nil ?_
    refine CW.condT rfl (rfl) ?_
    refine CW.seq ?_
    refine CW.region ?_
    refine RT.ev rfl rfl (Ev.build bt51 rfl trivial rfl) ?_
    refine RT.eff rfl rfl (OpE.storeObjA (vs := [(Value.slice none 0 0), (Value.slice none 0 0)]) agg51 hs_66 (i := 0) rfl rfl rfl rfl (fun v h => by simp only [List.mem_cons, List.not_mem_nil, or_false] at h; rcases h with rfl | rfl; exact rfl; exact rfl) fun w_48 hs_67 hch_32 => ?_)
    have hs_67d : Sat w [cObj b_1 51 [(Value.slice none 0 0), (Value.slice none 0 0)]] _ := hs_67
    refine RT.ev rfl rfl (Ev.assign rfl) ?_
    refine RT.nil ?_
    refine CW.ret ?_
    show PostK _ _ _ _ _ _
    refine post2c (vs := [(Value.slice none 0 0), (Value.slice none 0 0)]) rfl rfl rfl agg51 (fun j u hu => hs_67d.cell (i := 0) rfl hu) ?_
    have hs_68 : Sat w [] w_48 := hs_67d.sub ((.cons _ .slnil))
    exact ⟨_, _, rfl, rfl, rfl, hs_68⟩

end Go.Proofs.Ytfhbflhnelbkfaa
