/- The walks of the functions of F42k, printed by our own program (kwgen.py) out of our descriptions (base.py). -/
import Derived.Test.YtecfgjdpghddgaaGreatDoorF42q
import Derived.Test.YtecfgjdpghddgaaGreatDoorKp
import Derived.Test.YtecfgjdpghddgaaGreatDoorTab
set_option linter.unusedVariables false
set_option linter.unusedSimpArgs false
set_option linter.unusedSectionVars false
namespace Go.Proofs.YtecfgjdpghddgaaGreatDoor
open Go.RowKit Go.Kw
set_option maxRecDepth 100000
theorem mattrs_n (w : World) :
    CallsV Tryz.prog 15 [] w fun r w' => Sat w [cL r 70 encAt [((ByteArray.mk #[119, 111, 114, 100]), false), (ByteArray.mk #[116, 97, 103], false), (ByteArray.mk #[102, 101, 97, 116], true)]] w' := by
  have hs0 := Sat.start w
  refine callsV_of Tryz.func15 rfl rfl ?_
  refine .seq <| .region <| .s rfl rfl <| .nil <| .seq <| .region <| .e rfl (.build bt70 rfl ⟨rfl, trivial⟩ rfl) <| .e rfl (.build bt70 rfl ⟨rfl, trivial⟩ rfl) <| .e rfl (.build bt70 rfl ⟨rfl, rfl, trivial⟩ rfl) <| .f rfl (.lit3A (encAt) ((ByteArray.mk #[119, 111, 114, 100]), false) ((ByteArray.mk #[116, 97, 103]), false) ((ByteArray.mk #[102, 101, 97, 116]), true) sl23 (m := 2) rfl (by decide) (by decide) hs0 rfl rfl rfl fun v_1 w_1 hs_1 hch_1 => ?_)
  refine .s rfl rfl <| .nil <| .ret ?_
  show PostK _ _ _ _ _ _
  refine post1 rfl rfl ?_
  have hs_2 : Sat w [_] w_1 := hs_1.sub ((.cons_cons _ .slnil))
  exact hs_2
theorem cloneAt_n (v : Value) (l : List (ByteArray × Bool)) (w : World) (hv : RdL w v encAt l) (h0 : 0 < l.length) (hn : l.length ≤ 1000000) :
    CallsV Tryz.prog 63 [v] w fun r w' => Sat w [cL r 70 encAt l] w' := by
  have hs0 := Sat.start w
  refine callsV_of Tryz.func63 rfl rfl ?_
  refine .seq <| .region <| .s rfl rfl <| .nil <| .seq <| .seq <| .region <| .m rfl rfl <| .e rfl (.eqlSlF Tryz.underlying23 rfl rfl (RdL.shp (E := encAt) (hv.ext hs0.ext) (by decide)) (by omega)) <| .nil <| .condF rfl (rfl) <| .skip <| .seq <| .region <| .f rfl (.lit0 (encAt) sl23 hs0 fun v_1 w_1 hs_1 hch_1 => ?_)
  refine .m rfl rfl <| .f rfl (.appendL 0 sl23 hs_1 rfl rfl rfl Tryz.underlying23 (hv.ext hs_1.ext) (by simp; omega) (by simp; omega) fun v_2 w_2 hs_2 hch_2 => ?_)
  refine .s rfl rfl <| .nil <| .ret ?_
  show PostK _ _ _ _ _ _
  refine post1 rfl rfl ?_
  have hs_3 : Sat w [_] w_2 := hs_2.reL 0 rfl (show l = l from List.nil_append _)
  exact hs_3
theorem ixe_n (fv : Value) (w : World) :
    CallsV Tryz.prog 186 [(.slice none 0 0), fv] w fun r w' => r = .int .i64 (-1) ∧ Sat w [] w' := by
  have hs0 := Sat.start w
  refine callsV_of Tryz.func186 rfl rfl ?_
  refine .seq <| .region <| .s rfl rfl <| .nil <| .seq <| .seq <| .region <| .m rfl rfl <| .e rfl (.lenL (l := ([] : List Nat)) (E := encN .u8) Tryz.underlying29 rfl (RdL.nil _ _)) <| .m rfl rfl <| .nil <| .block <| .loop (α := Unit) (fun _ => [(0, (.slice none 0 0)), (1, fv), (7, (.int .i64 (0 : Nat))), (8, (.int .i64 (0 : Nat)))]) (fun _ w' => Sat w [] w') (fun _ => 0) () ⟨rfl, rfl, rfl, rfl, trivial⟩ hs0 ?_
  rintro _ w_1 hs_1
  show CW _ _ _ _ [(0, (.slice none 0 0)), (1, fv), (7, (.int .i64 (0 : Nat))), (8, (.int .i64 (0 : Nat)))] _
  refine .seq <| .region <| .e rfl (.lssN (a := 0) (b := 0) rfl rfl) <| .nil <| .seq <| .condF rfl (rfl) <| .exit0 <| .seq <| .region <| .s rfl rfl <| .nil <| .ret ?_
  show PostK _ _ _ _ _ _
  refine post1 rfl rfl ?_
  exact ⟨rfl, hs_1⟩
theorem cte_n (fv : Value) (w : World) :
    CallsV Tryz.prog 147 [(.slice none 0 0), fv] w fun r w' => r = .bool false ∧ Sat w [] w' := by
  have hs0 := Sat.start w
  refine callsV_of Tryz.func147 rfl rfl ?_
  refine .seq <| .region <| .s rfl rfl <| .nil <| .seq <| .region <| .m rfl rfl <| .m rfl rfl <| .f rfl (.call ent186 rfl ((ixe_n _ _).mono fun r_1 w_1 h_1 => ?_))
  obtain ⟨rfl, hp_1⟩ := h_1
  have hs_1 := hs0.adds hp_1
  refine .e rfl (.geq rfl rfl) <| .s rfl rfl <| .nil <| .ret ?_
  show PostK _ _ _ _ _ _
  refine post1 rfl rfl ?_
  exact ⟨rfl, hs_1⟩
theorem has_n (s : ByteArray) (w : World) :
    CallsV Tryz.prog 108 [(.agg #[(.slice none 0 0), (.slice none 0 0), (.slice none 0 0), (.slice none 0 0)]), (.string s)] w fun r w' => r = .bool false ∧ Sat w [] w' := by
  have hs0 := Sat.start w
  refine callsV_of Tryz.func108 rfl rfl ?_
  refine .seq <| .region <| .f rfl (.box hs0 rfl fun b_1 w_1 hs_1 hch_1 hb_1 => ?_)
  refine .f rfl (.box hs_1 rfl fun b_2 w_2 hs_2 hch_2 hb_2 => ?_)
  refine .s rfl rfl <| .nil <| .seq <| .region <| .e rfl (.fieldAddr fld32_1 rfl rfl) <| .e rfl (.load scal29 rfl (hs_2.cell (i := 0) (j := 1) rfl rfl)) <| .e rfl (.makeFunc1 rfl) <| .f rfl (.call ent147 rfl ((cte_n _ _).mono fun r_1 w_3 h_1 => ?_))
  obtain ⟨rfl, hp_1⟩ := h_1
  have hs_3 : Sat w [_, _] _ := hs_2.adds hp_1
  refine .s rfl rfl <| .nil <| .ret ?_
  show PostK _ _ _ _ _ _
  refine post1 rfl rfl ?_
  have hs_4 : Sat w [] w_3 := hs_3.sub ((.cons _ (.cons _ .slnil)))
  exact ⟨rfl, hs_4⟩
theorem nfile_d (nm data : ByteArray) (w : World) (hd : data ≠ ByteArray.empty) :
    CallsV Tryz.prog 65 [(.agg #[(.slice none 0 0), (.slice none 0 0), (.slice none 0 0), (.slice none 0 0)]), (.string nm), (.string data)] w fun r w' => Sat w [cL r 84 encOp ([((1 : Int), nm, ByteArray.empty, ByteArray.empty)] ++ [((2 : Int), nm, ByteArray.empty, data)] ++ [((3 : Int), nm, ByteArray.empty, ByteArray.empty)])] w' := by
  have hs0 := Sat.start w
  refine callsV_of Tryz.func65 rfl rfl ?_
  refine .seq <| .region <| .f rfl (.box hs0 rfl fun b_1 w_1 hs_1 hch_1 hb_1 => ?_)
  refine .s rfl rfl <| .nil <| .seq <| .region <| .s rfl rfl <| .nil <| .seq <| .seq <| .region <| .e rfl (.ldObj agg32 rfl hs_1 (i := 0) rfl rfl) <| .m rfl rfl <| .f rfl (.call ent108 rfl ((has_n nm _).mono fun r_1 w_2 h_1 => ?_))
  obtain ⟨rfl, hp_1⟩ := h_1
  have hs_2 := hs_1.adds hp_1
  refine .nil <| .condF rfl (rfl) <| .skip <| .seq <| .region <| .m rfl rfl <| .m rfl rfl <| .e rfl (.build bt84 rfl ⟨rfl, rfl, trivial⟩ rfl) <| .f rfl (.lit1A (encOp) ((1 : Int), nm, ByteArray.empty, ByteArray.empty) sl30 (by decide) (by decide) hs_2 rfl fun v_1 w_3 hs_3 hch_2 => ?_)
  have hs_3d : Sat w [_, cL v_1 84 (encOp) ([((1 : Int), nm, ByteArray.empty, ByteArray.empty)])] _ := hs_3
  have hs_4 := hs_3d.newNilL 84 (encOp)
  refine .f rfl (.appendL 2 sl30 hs_4 rfl rfl rfl Tryz.underlying30 (hs_4.rdL 1 rfl) (by simp) (by simp) fun v_2 w_4 hs_5 hch_3 => ?_)
  refine .s rfl rfl <| .nil <| .seq <| .seq <| .region <| .m rfl rfl <| .e rfl (.strNeq rfl rfl) <| .nil <| .condT rfl (decide_eq_true hd) <| .region <| .m rfl rfl <| .m rfl rfl <| .m rfl rfl <| .e rfl (.build bt84 rfl ⟨rfl, rfl, rfl, trivial⟩ rfl) <| .f rfl (.lit1A (encOp) ((2 : Int), nm, ByteArray.empty, data) sl30 (by decide) (by decide) hs_5 rfl fun v_3 w_5 hs_6 hch_4 => ?_)
  have hs_6d : Sat w [_, _, _, cL v_3 84 (encOp) ([((2 : Int), nm, ByteArray.empty, data)])] _ := hs_6
  refine .f rfl (.appendL 2 sl30 hs_6d rfl rfl rfl Tryz.underlying30 (hs_6d.rdL 3 rfl) (by simp) (by simp) fun v_4 w_6 hs_7 hch_5 => ?_)
  have hs_7d : Sat w [_, _, cL v_4 84 (encOp) ([((1 : Int), nm, ByteArray.empty, ByteArray.empty)] ++ [((2 : Int), nm, ByteArray.empty, data)])] _ := hs_7.drop 3
  refine .s rfl rfl <| .nil <| .seq <| .region <| .m rfl rfl <| .m rfl rfl <| .e rfl (.build bt84 rfl ⟨rfl, rfl, trivial⟩ rfl) <| .f rfl (.lit1A (encOp) ((3 : Int), nm, ByteArray.empty, ByteArray.empty) sl30 (by decide) (by decide) hs_7d rfl fun v_5 w_7 hs_8 hch_6 => ?_)
  refine .f rfl (.appendL 2 sl30 hs_8 rfl rfl rfl Tryz.underlying30 (hs_8.rdL 3 rfl) (by simp) (by simp) fun v_6 w_8 hs_9 hch_7 => ?_)
  have hs_9d : Sat w [_, _, cL v_6 84 (encOp) ([((1 : Int), nm, ByteArray.empty, ByteArray.empty)] ++ [((2 : Int), nm, ByteArray.empty, data)] ++ [((3 : Int), nm, ByteArray.empty, ByteArray.empty)])] _ := hs_9.drop 3
  refine .s rfl rfl <| .nil <| .ret ?_
  show PostK _ _ _ _ _ _
  refine post1 rfl rfl ?_
  have hs_10 : Sat w [_] w_8 := hs_9d.sub ((.cons _ (.cons _ (.cons_cons _ .slnil))))
  exact hs_10
theorem nfile_e (nm data : ByteArray) (w : World) (hd : data = ByteArray.empty) :
    CallsV Tryz.prog 65 [(.agg #[(.slice none 0 0), (.slice none 0 0), (.slice none 0 0), (.slice none 0 0)]), (.string nm), (.string data)] w fun r w' => Sat w [cL r 84 encOp ([((1 : Int), nm, ByteArray.empty, ByteArray.empty)] ++ [((3 : Int), nm, ByteArray.empty, ByteArray.empty)])] w' := by
  have hs0 := Sat.start w
  refine callsV_of Tryz.func65 rfl rfl ?_
  refine .seq <| .region <| .f rfl (.box hs0 rfl fun b_1 w_1 hs_1 hch_1 hb_1 => ?_)
  refine .s rfl rfl <| .nil <| .seq <| .region <| .s rfl rfl <| .nil <| .seq <| .seq <| .region <| .e rfl (.ldObj agg32 rfl hs_1 (i := 0) rfl rfl) <| .m rfl rfl <| .f rfl (.call ent108 rfl ((has_n nm _).mono fun r_1 w_2 h_1 => ?_))
  obtain ⟨rfl, hp_1⟩ := h_1
  have hs_2 := hs_1.adds hp_1
  refine .nil <| .condF rfl (rfl) <| .skip <| .seq <| .region <| .m rfl rfl <| .m rfl rfl <| .e rfl (.build bt84 rfl ⟨rfl, rfl, trivial⟩ rfl) <| .f rfl (.lit1A (encOp) ((1 : Int), nm, ByteArray.empty, ByteArray.empty) sl30 (by decide) (by decide) hs_2 rfl fun v_1 w_3 hs_3 hch_2 => ?_)
  have hs_3d : Sat w [_, cL v_1 84 (encOp) ([((1 : Int), nm, ByteArray.empty, ByteArray.empty)])] _ := hs_3
  have hs_4 := hs_3d.newNilL 84 (encOp)
  refine .f rfl (.appendL 2 sl30 hs_4 rfl rfl rfl Tryz.underlying30 (hs_4.rdL 1 rfl) (by simp) (by simp) fun v_2 w_4 hs_5 hch_3 => ?_)
  refine .s rfl rfl <| .nil <| .seq <| .seq <| .region <| .m rfl rfl <| .e rfl (.strNeq rfl rfl) <| .nil <| .condF rfl (decide_eq_false (fun h9 => h9 hd)) <| .skip <| .seq <| .region <| .m rfl rfl <| .m rfl rfl <| .e rfl (.build bt84 rfl ⟨rfl, rfl, trivial⟩ rfl) <| .f rfl (.lit1A (encOp) ((3 : Int), nm, ByteArray.empty, ByteArray.empty) sl30 (by decide) (by decide) hs_5 rfl fun v_3 w_5 hs_6 hch_4 => ?_)
  have hs_6d : Sat w [_, _, _, cL v_3 84 (encOp) ([((3 : Int), nm, ByteArray.empty, ByteArray.empty)])] _ := hs_6
  refine .f rfl (.appendL 2 sl30 hs_6d rfl rfl rfl Tryz.underlying30 (hs_6d.rdL 3 rfl) (by simp) (by simp) fun v_4 w_6 hs_7 hch_5 => ?_)
  have hs_7d : Sat w [_, _, cL v_4 84 (encOp) ([((1 : Int), nm, ByteArray.empty, ByteArray.empty)] ++ [((3 : Int), nm, ByteArray.empty, ByteArray.empty)])] _ := hs_7.drop 3
  refine .s rfl rfl <| .nil <| .ret ?_
  show PostK _ _ _ _ _ _
  refine post1 rfl rfl ?_
  have hs_8 : Sat w [_] w_6 := hs_7d.sub ((.cons _ (.cons _ (.cons_cons _ .slnil))))
  exact hs_8
theorem sync_n (w : World) :
    CallsV Tryz.prog 107 [] w fun r w' => r = (Value.agg #[(.int .i64 (6 : Nat)), (.string ByteArray.empty), (.string ByteArray.empty), (.string ByteArray.empty)]) ∧ Sat w [] w' := by
  have hs0 := Sat.start w
  refine callsV_of Tryz.func107 rfl rfl ?_
  refine .seq <| .region <| .f rfl (.alloc hs0 zero84 fun b_1 w_1 hs_1 hch_1 hb_1 => ?_)
  refine .nil <| .seq <| .region <| .e rfl (.build bt84 rfl ⟨rfl, trivial⟩ rfl) <| .f rfl (.storeObjA (vs := [(.int .i64 (6 : Nat)), (.string ByteArray.empty), (.string ByteArray.empty), (.string ByteArray.empty)]) agg84 hs_1 (i := 0) rfl rfl rfl rfl (fun v h => by simp only [List.mem_cons, List.not_mem_nil, or_false] at h; rcases h with rfl | rfl | rfl | rfl; exact rfl; exact rfl; exact rfl; exact rfl) fun w_2 hs_2 hch_2 => ?_)
  refine .nil <| .ret ?_
  show PostK _ _ _ _ _ _
  refine post1c (vs := [(.int .i64 (6 : Nat)), (.string ByteArray.empty), (.string ByteArray.empty), (.string ByteArray.empty)]) rfl rfl agg84 (fun j u hu => hs_2.cell (i := 0) rfl hu) ?_
  have hs_3 : Sat w [] w_2 := hs_2.sub ((.cons _ .slnil))
  exact ⟨rfl, hs_3⟩
theorem itoa1_n (w : World) (hgv : GV Tryz.prog 0 w) : CallsV Tryz.prog 23 [.int .i64 ((1 : Nat) : Int)] w fun r w' => r = .string (bs [49]) ∧ Sat w [] w' :=
  (itoa_n 1 w (by omega) (by omega) hgv).mono fun r w' hq => ⟨by
    have e : decS (1 : Int).toNat = bs [49] := by unfold decS decN; rw [if_pos (by decide)]; rfl
    rw [← e]; exact hq.1, hq.2⟩
theorem ok1 : stOk [((ByteArray.mk #[119, 111, 114, 100]), false)] 2 1 [] := by
  refine ⟨⟨fun i x hx => ?_, by simp, by simp⟩, by omega, by omega, by omega, by simp, fun i p hp => by simp at hp⟩
  have hi := (List.getElem?_eq_some_iff.1 hx).1
  have h0 : i = 0 := by simp at hi; omega
  subst h0
  cases hx
  decide
noncomputable def dat1 : ByteArray := manT [((ByteArray.mk #[119, 111, 114, 100]), false)] 2 1 []
theorem dat1_ne : dat1 ≠ ByteArray.empty := fun h => by
  have := (manT_body (s := dat1) rfl).1
  rw [h] at this
  simp at this
theorem man1_n (av : Value) (w : World) (ha : RdL w av encAt [((ByteArray.mk #[119, 111, 114, 100]), false)]) (hgv : GV Tryz.prog 0 w) : CallsV Tryz.prog 7 [(.agg #[av, (.int .i64 (2 : Nat)), (.int .i64 (1 : Nat)), (.slice none 0 0), (.slice none 0 0)])] w fun r w' => r = .tuple #[.string dat1, .int .i64 ((0 : Nat) : Int)] ∧ Sat w [] w' :=
  (manifest_n av _ _ [((ByteArray.mk #[119, 111, 114, 100]), false)] 2 1 [] w ha (by simp) (RdL.nil _ _) (by simp) (fun p hp => absurd hp (by simp)) (fun p hp => absurd hp (by simp)) rfl hgv).mono fun r w' hq => ⟨hq.1 ok1, hq.2.2⟩
theorem mops_n (av : Value) (w : World) (ha : RdL w av encAt [((ByteArray.mk #[119, 111, 114, 100]), false)]) (hgv : GV Tryz.prog 0 w) :
    CallsV Tryz.prog 106 [(.agg #[av, (.int .i64 (2 : Nat)), (.int .i64 (1 : Nat)), (.slice none 0 0), (.slice none 0 0)]), (.agg #[(.slice none 0 0), (.slice none 0 0), (.slice none 0 0), (.slice none 0 0)])] w fun r w' => ∃ v, r = .tuple #[v, .int .i64 ((0 : Nat) : Int)] ∧ Sat w [cL v 84 encOp ([((1 : Int), (ByteArray.mk #[77, 65, 78, 73, 70, 69, 83, 84, 46, 110, 101, 119]), ByteArray.empty, ByteArray.empty)] ++ [((2 : Int), (ByteArray.mk #[77, 65, 78, 73, 70, 69, 83, 84, 46, 110, 101, 119]), ByteArray.empty, dat1)] ++ [((3 : Int), (ByteArray.mk #[77, 65, 78, 73, 70, 69, 83, 84, 46, 110, 101, 119]), ByteArray.empty, ByteArray.empty)] ++ [((6 : Int), ByteArray.empty, ByteArray.empty, ByteArray.empty), ((4 : Int), (ByteArray.mk #[77, 65, 78, 73, 70, 69, 83, 84, 46, 110, 101, 119]), (ByteArray.mk #[77, 65, 78, 73, 70, 69, 83, 84]), ByteArray.empty), ((6 : Int), ByteArray.empty, ByteArray.empty, ByteArray.empty)])] w' := by
  have hs0 := Sat.start w
  refine callsV_of Tryz.func106 rfl rfl ?_
  refine .seq <| .region <| .f rfl (.box hs0 rfl fun b_1 w_1 hs_1 hch_1 hb_1 => ?_)
  refine .f rfl (.box hs_1 rfl fun b_2 w_2 hs_2 hch_2 hb_2 => ?_)
  refine .s rfl rfl <| .s rfl rfl <| .nil <| .seq <| .region <| .e rfl (.ldObj agg27 rfl hs_2 (i := 0) rfl rfl) <| .f rfl (.call ent7 rfl ((man1_n _ _ (ha.ext hs_2.ext) (hgv.sat hs_2)).mono fun r_1 w_3 h_1 => ?_))
  obtain ⟨rfl, hp_1⟩ := h_1
  have hs_3 : Sat w [_, _] _ := hs_2.adds hp_1
  refine .m rfl rfl <| .e rfl (.extract rfl rfl) <| .e rfl (.extract rfl rfl) <| .s rfl rfl <| .s rfl rfl <| .nil <| .seq <| .seq <| .region <| .m rfl rfl <| .e rfl (.neqN (a := 0) (b := 0) rfl rfl) <| .nil <| .condF rfl (decide_eq_false (by simp)) <| .skip <| .seq <| .region <| .e rfl (.ldObj agg32 rfl hs_3 (i := 1) rfl rfl) <| .m rfl rfl <| .f rfl (.call ent65 rfl ((nfile_d (ByteArray.mk #[77, 65, 78, 73, 70, 69, 83, 84, 46, 110, 101, 119]) dat1 _ dat1_ne).mono fun r_2 w_4 h_2 => ?_))
  have hp_2 := h_2
  have hs_4 := hs_3.adds hp_2
  refine .f rfl (.call ent107 rfl ((sync_n _).mono fun r_3 w_5 h_3 => ?_))
  obtain ⟨rfl, hp_3⟩ := h_3
  have hs_5 := hs_4.adds hp_3
  refine .e rfl (.build bt84 rfl ⟨rfl, rfl, rfl, trivial⟩ rfl) <| .f rfl (.call ent107 rfl ((sync_n _).mono fun r_4 w_6 h_4 => ?_))
  obtain ⟨rfl, hp_4⟩ := h_4
  have hs_6 : Sat w [_, _, _] _ := hs_5.adds hp_4
  refine .f rfl (.lit3A (encOp) ((6 : Int), ByteArray.empty, ByteArray.empty, ByteArray.empty) ((4 : Int), (ByteArray.mk #[77, 65, 78, 73, 70, 69, 83, 84, 46, 110, 101, 119]), (ByteArray.mk #[77, 65, 78, 73, 70, 69, 83, 84]), ByteArray.empty) ((6 : Int), ByteArray.empty, ByteArray.empty, ByteArray.empty) sl30 (m := 4) rfl (by decide) (by decide) hs_6 rfl rfl rfl fun v_1 w_7 hs_7 hch_3 => ?_)
  refine .f rfl (.appendL 2 sl30 hs_7 rfl rfl rfl Tryz.underlying30 (hs_7.rdL 3 rfl) (by simp) (by simp) fun v_2 w_8 hs_8 hch_4 => ?_)
  have hs_8d : Sat w [_, _, cL v_2 84 (encOp) ([((1 : Int), (ByteArray.mk #[77, 65, 78, 73, 70, 69, 83, 84, 46, 110, 101, 119]), ByteArray.empty, ByteArray.empty)] ++ [((2 : Int), (ByteArray.mk #[77, 65, 78, 73, 70, 69, 83, 84, 46, 110, 101, 119]), ByteArray.empty, dat1)] ++ [((3 : Int), (ByteArray.mk #[77, 65, 78, 73, 70, 69, 83, 84, 46, 110, 101, 119]), ByteArray.empty, ByteArray.empty)] ++ [((6 : Int), ByteArray.empty, ByteArray.empty, ByteArray.empty), ((4 : Int), (ByteArray.mk #[77, 65, 78, 73, 70, 69, 83, 84, 46, 110, 101, 119]), (ByteArray.mk #[77, 65, 78, 73, 70, 69, 83, 84]), ByteArray.empty), ((6 : Int), ByteArray.empty, ByteArray.empty, ByteArray.empty)])] _ := hs_8.drop 3
  refine .s rfl rfl <| .s rfl rfl <| .nil <| .ret ?_
  show PostK _ _ _ _ _ _
  refine post2 rfl rfl rfl ?_
  have hs_9 : Sat w [_] w_8 := hs_8d.sub ((.cons _ (.cons _ (.cons_cons _ .slnil))))
  exact ⟨_, rfl, hs_9⟩
theorem jfile_n (w : World) (hgv : GV Tryz.prog 0 w) :
    CallsV Tryz.prog 66 [(.int .i64 (1 : Nat))] w fun r w' => r = .string (bs [74, 79, 85, 82, 78, 65, 76, 46, 49]) ∧ Sat w [] w' := by
  have hs0 := Sat.start w
  refine callsV_of Tryz.func66 rfl rfl ?_
  refine .seq <| .region <| .s rfl rfl <| .nil <| .seq <| .region <| .m rfl rfl <| .f rfl (.call ent23 rfl ((itoa1_n _ (hgv.sat hs0)).mono fun r_1 w_1 h_1 => ?_))
  obtain ⟨rfl, hp_1⟩ := h_1
  have hs_1 := hs0.adds hp_1
  refine .e rfl (.strAdd rfl rfl (by decide)) <| .s rfl rfl <| .nil <| .ret ?_
  show PostK _ _ _ _ _ _
  refine post1 rfl rfl ?_
  exact ⟨congrArg Value.string (by decide), hs_1⟩
theorem finish_n (w0 w : World) (cs : List Chunk) (av ov : Value) (hgv : GV Tryz.prog 0 w0) (hs : Sat w0 ([cL ov 84 encOp ([((1 : Int), (bs [74, 79, 85, 82, 78, 65, 76, 46, 49]), ByteArray.empty, ByteArray.empty)] ++ [((3 : Int), (bs [74, 79, 85, 82, 78, 65, 76, 46, 49]), ByteArray.empty, ByteArray.empty)]), cL av 70 encAt [((ByteArray.mk #[119, 111, 114, 100]), false)]] ++ cs) w) :
    CallsV Tryz.prog 64 [(.agg #[av, (.int .i64 (2 : Nat)), (.int .i64 (1 : Nat)), (.slice none 0 0), (.slice none 0 0)]), (.agg #[(.slice none 0 0), (.slice none 0 0), (.slice none 0 0), (.slice none 0 0)]), ov] w fun r w' => ∃ v, r = .tuple #[.agg #[av, .int .i64 ((2 : Nat) : Int), .int .i64 ((1 : Nat) : Int), .slice none 0 0, .slice none 0 0], v, .int .i64 ((0 : Nat) : Int)] ∧ Sat w0 ([cL v 84 encOp ([((1 : Int), (bs [74, 79, 85, 82, 78, 65, 76, 46, 49]), ByteArray.empty, ByteArray.empty)] ++ [((3 : Int), (bs [74, 79, 85, 82, 78, 65, 76, 46, 49]), ByteArray.empty, ByteArray.empty)] ++ [((6 : Int), ByteArray.empty, ByteArray.empty, ByteArray.empty)] ++ ([((1 : Int), (ByteArray.mk #[77, 65, 78, 73, 70, 69, 83, 84, 46, 110, 101, 119]), ByteArray.empty, ByteArray.empty)] ++ [((2 : Int), (ByteArray.mk #[77, 65, 78, 73, 70, 69, 83, 84, 46, 110, 101, 119]), ByteArray.empty, dat1)] ++ [((3 : Int), (ByteArray.mk #[77, 65, 78, 73, 70, 69, 83, 84, 46, 110, 101, 119]), ByteArray.empty, ByteArray.empty)] ++ [((6 : Int), ByteArray.empty, ByteArray.empty, ByteArray.empty), ((4 : Int), (ByteArray.mk #[77, 65, 78, 73, 70, 69, 83, 84, 46, 110, 101, 119]), (ByteArray.mk #[77, 65, 78, 73, 70, 69, 83, 84]), ByteArray.empty), ((6 : Int), ByteArray.empty, ByteArray.empty, ByteArray.empty)])), cL av 70 encAt [((ByteArray.mk #[119, 111, 114, 100]), false)]] ++ cs) w' := by
  refine callsV_of Tryz.func64 rfl rfl ?_
  refine .seq <| .region <| .f rfl (.box hs rfl fun b_1 w_1 hs_1 hch_1 hb_1 => ?_)
  have hs_1d : Sat w0 ([cL ov 84 (encOp) ([((1 : Int), (bs [74, 79, 85, 82, 78, 65, 76, 46, 49]), ByteArray.empty, ByteArray.empty)] ++ [((3 : Int), (bs [74, 79, 85, 82, 78, 65, 76, 46, 49]), ByteArray.empty, ByteArray.empty)]), cL av 70 (encAt) ([((ByteArray.mk #[119, 111, 114, 100]), false)]), cObj b_1 27 [av, (.int .i64 (2 : Nat)), (.int .i64 (1 : Nat)), (.slice none 0 0), (.slice none 0 0)]] ++ cs) _ := (hs_1).mid
  refine .f rfl (.box hs_1d rfl fun b_2 w_2 hs_2 hch_2 hb_2 => ?_)
  have hs_2d : Sat w0 ([cL ov 84 (encOp) ([((1 : Int), (bs [74, 79, 85, 82, 78, 65, 76, 46, 49]), ByteArray.empty, ByteArray.empty)] ++ [((3 : Int), (bs [74, 79, 85, 82, 78, 65, 76, 46, 49]), ByteArray.empty, ByteArray.empty)]), cL av 70 (encAt) ([((ByteArray.mk #[119, 111, 114, 100]), false)]), cObj b_1 27 [av, (.int .i64 (2 : Nat)), (.int .i64 (1 : Nat)), (.slice none 0 0), (.slice none 0 0)], cObj b_2 32 [(.slice none 0 0), (.slice none 0 0), (.slice none 0 0), (.slice none 0 0)]] ++ cs) _ := (hs_2).mid
  refine .f rfl (.alloc hs_2d zero27 fun b_3 w_3 hs_3 hch_3 hb_3 => ?_)
  have hs_3d : Sat w0 ([cL ov 84 (encOp) ([((1 : Int), (bs [74, 79, 85, 82, 78, 65, 76, 46, 49]), ByteArray.empty, ByteArray.empty)] ++ [((3 : Int), (bs [74, 79, 85, 82, 78, 65, 76, 46, 49]), ByteArray.empty, ByteArray.empty)]), cL av 70 (encAt) ([((ByteArray.mk #[119, 111, 114, 100]), false)]), cObj b_1 27 [av, (.int .i64 (2 : Nat)), (.int .i64 (1 : Nat)), (.slice none 0 0), (.slice none 0 0)], cObj b_2 32 [(.slice none 0 0), (.slice none 0 0), (.slice none 0 0), (.slice none 0 0)], cObj b_3 27 [(.slice none 0 0), (.int .i64 (0 : Nat)), (.int .i64 (0 : Nat)), (.slice none 0 0), (.slice none 0 0)]] ++ cs) _ := (hs_3).mid
  refine .s rfl rfl <| .s rfl rfl <| .nil <| .seq <| .region <| .e rfl (.ldObj agg27 rfl hs_3d (i := 2) rfl rfl) <| .e rfl (.ldObj agg32 rfl hs_3d (i := 3) rfl rfl) <| .f rfl (.call ent106 rfl ((mops_n _ _ (hs_3d.rdL 1 rfl) (hgv.sat hs_3d)).mono fun r_1 w_4 h_1 => ?_))
  obtain ⟨mv_1, rfl, hp_1⟩ := h_1
  have hs_4 : Sat w0 ([_, _, _, _, _, cL mv_1 84 (encOp) ([((1 : Int), (ByteArray.mk #[77, 65, 78, 73, 70, 69, 83, 84, 46, 110, 101, 119]), ByteArray.empty, ByteArray.empty)] ++ [((2 : Int), (ByteArray.mk #[77, 65, 78, 73, 70, 69, 83, 84, 46, 110, 101, 119]), ByteArray.empty, dat1)] ++ [((3 : Int), (ByteArray.mk #[77, 65, 78, 73, 70, 69, 83, 84, 46, 110, 101, 119]), ByteArray.empty, ByteArray.empty)] ++ [((6 : Int), ByteArray.empty, ByteArray.empty, ByteArray.empty), ((4 : Int), (ByteArray.mk #[77, 65, 78, 73, 70, 69, 83, 84, 46, 110, 101, 119]), (ByteArray.mk #[77, 65, 78, 73, 70, 69, 83, 84]), ByteArray.empty), ((6 : Int), ByteArray.empty, ByteArray.empty, ByteArray.empty)])] ++ cs) _ := (hs_3d.adds hp_1).mid
  refine .m rfl rfl <| .e rfl (.extract rfl rfl) <| .e rfl (.extract rfl rfl) <| .s rfl rfl <| .s rfl rfl <| .nil <| .seq <| .seq <| .region <| .m rfl rfl <| .e rfl (.neqN (a := 0) (b := 0) rfl rfl) <| .nil <| .condF rfl (decide_eq_false (by simp)) <| .skip <| .seq ?_
  have hshp_1 := (hs_4.rdL (E := encOp) 0 rfl).shp (by decide)
  refine .draw (fun w' => Sat w0 ([cL av 70 (encAt) ([((ByteArray.mk #[119, 111, 114, 100]), false)]), cObj b_1 27 [av, (.int .i64 (2 : Nat)), (.int .i64 (1 : Nat)), (.slice none 0 0), (.slice none 0 0)], cObj b_2 32 [(.slice none 0 0), (.slice none 0 0), (.slice none 0 0), (.slice none 0 0)], cL mv_1 84 (encOp) ([((1 : Int), (ByteArray.mk #[77, 65, 78, 73, 70, 69, 83, 84, 46, 110, 101, 119]), ByteArray.empty, ByteArray.empty)] ++ [((2 : Int), (ByteArray.mk #[77, 65, 78, 73, 70, 69, 83, 84, 46, 110, 101, 119]), ByteArray.empty, dat1)] ++ [((3 : Int), (ByteArray.mk #[77, 65, 78, 73, 70, 69, 83, 84, 46, 110, 101, 119]), ByteArray.empty, ByteArray.empty)] ++ [((6 : Int), ByteArray.empty, ByteArray.empty, ByteArray.empty), ((4 : Int), (ByteArray.mk #[77, 65, 78, 73, 70, 69, 83, 84, 46, 110, 101, 119]), (ByteArray.mk #[77, 65, 78, 73, 70, 69, 83, 84]), ByteArray.empty), ((6 : Int), ByteArray.empty, ByteArray.empty, ByteArray.empty)])] ++ cs) w') (.free 0 (.free 1 (.free 5 (.one 2 (.one 3 (.one 4 (.one 6 (.one 7 (.free 8 (.free 9 .fin)))))))))) mixed (by kernel_rfl) ?_
  have hs_5 := hs_4.drew
  have hS_1 : Sat w0 ([_, _, _, _] ++ cs) _ := hs_5.sub ((.cons _ (.cons_cons _ (.cons_cons _ (.cons_cons _ (.cons _ (.cons_cons _ (.refl _))))))))
  refine .e rfl (fun w' hS' => .ldObj agg27 rfl hS' (i := 1) rfl rfl) hS_1 <| .m rfl rfl hS_1 <| .m rfl rfl hS_1 <| .f rfl (.call ent107 rfl ((sync_n _).mono fun r_2 w_5 h_2 => ?_))
  obtain ⟨rfl, hp_2⟩ := h_2
  have hs_6 : Sat w0 ([cL ov 84 (encOp) ([((1 : Int), (bs [74, 79, 85, 82, 78, 65, 76, 46, 49]), ByteArray.empty, ByteArray.empty)] ++ [((3 : Int), (bs [74, 79, 85, 82, 78, 65, 76, 46, 49]), ByteArray.empty, ByteArray.empty)]), _, _, _, cObj b_3 27 [(.slice none 0 0), (.int .i64 (0 : Nat)), (.int .i64 (0 : Nat)), (.slice none 0 0), (.slice none 0 0)], _] ++ cs) _ := (hs_5.adds hp_2).mid
  have hS_2 : Sat w0 ([_, _, _, _] ++ cs) _ := hs_6.sub ((.cons _ (.cons_cons _ (.cons_cons _ (.cons_cons _ (.cons _ (.cons_cons _ (.refl _))))))))
  refine ⟨hS_2, ?_⟩
  refine .f rfl (.lit1A (encOp) ((6 : Int), ByteArray.empty, ByteArray.empty, ByteArray.empty) sl30 (by decide) (by decide) hs_6 rfl fun v_1 w_6 hs_7 hch_4 => ?_)
  have hs_7d : Sat w0 ([cL ov 84 (encOp) ([((1 : Int), (bs [74, 79, 85, 82, 78, 65, 76, 46, 49]), ByteArray.empty, ByteArray.empty)] ++ [((3 : Int), (bs [74, 79, 85, 82, 78, 65, 76, 46, 49]), ByteArray.empty, ByteArray.empty)]), cL av 70 (encAt) ([((ByteArray.mk #[119, 111, 114, 100]), false)]), cObj b_1 27 [av, (.int .i64 (2 : Nat)), (.int .i64 (1 : Nat)), (.slice none 0 0), (.slice none 0 0)], cObj b_2 32 [(.slice none 0 0), (.slice none 0 0), (.slice none 0 0), (.slice none 0 0)], cObj b_3 27 [(.slice none 0 0), (.int .i64 (0 : Nat)), (.int .i64 (0 : Nat)), (.slice none 0 0), (.slice none 0 0)], cL mv_1 84 (encOp) ([((1 : Int), (ByteArray.mk #[77, 65, 78, 73, 70, 69, 83, 84, 46, 110, 101, 119]), ByteArray.empty, ByteArray.empty)] ++ [((2 : Int), (ByteArray.mk #[77, 65, 78, 73, 70, 69, 83, 84, 46, 110, 101, 119]), ByteArray.empty, dat1)] ++ [((3 : Int), (ByteArray.mk #[77, 65, 78, 73, 70, 69, 83, 84, 46, 110, 101, 119]), ByteArray.empty, ByteArray.empty)] ++ [((6 : Int), ByteArray.empty, ByteArray.empty, ByteArray.empty), ((4 : Int), (ByteArray.mk #[77, 65, 78, 73, 70, 69, 83, 84, 46, 110, 101, 119]), (ByteArray.mk #[77, 65, 78, 73, 70, 69, 83, 84]), ByteArray.empty), ((6 : Int), ByteArray.empty, ByteArray.empty, ByteArray.empty)]), cL v_1 84 (encOp) ([((6 : Int), ByteArray.empty, ByteArray.empty, ByteArray.empty)])] ++ cs) _ := (hs_7).mid
  have hS_3 : Sat w0 ([_, _, _, _] ++ cs) _ := hs_7d.sub ((.cons _ (.cons_cons _ (.cons_cons _ (.cons_cons _ (.cons _ (.cons_cons _ (.cons _ (.refl _)))))))))
  refine ⟨hS_3, ?_⟩
  refine .f rfl (.appendL 0 sl30 hs_7d rfl rfl rfl Tryz.underlying30 (hs_7d.rdL 6 rfl) (by simp) (by simp) fun v_2 w_7 hs_8 hch_5 => ?_)
  have hs_8d : Sat w0 ([cL v_2 84 (encOp) ([((1 : Int), (bs [74, 79, 85, 82, 78, 65, 76, 46, 49]), ByteArray.empty, ByteArray.empty)] ++ [((3 : Int), (bs [74, 79, 85, 82, 78, 65, 76, 46, 49]), ByteArray.empty, ByteArray.empty)] ++ [((6 : Int), ByteArray.empty, ByteArray.empty, ByteArray.empty)]), _, _, _, cObj b_3 27 [(.slice none 0 0), (.int .i64 (0 : Nat)), (.int .i64 (0 : Nat)), (.slice none 0 0), (.slice none 0 0)], _] ++ cs) _ := hs_8.drop 6
  have hS_4 : Sat w0 ([_, _, _, _] ++ cs) _ := hs_8d.sub ((.cons _ (.cons_cons _ (.cons_cons _ (.cons_cons _ (.cons _ (.cons_cons _ (.refl _))))))))
  refine ⟨hS_4, ?_⟩
  refine .f rfl (.appendL 0 sl30 hs_8d rfl rfl rfl Tryz.underlying30 (hs_8d.rdL 5 rfl) (by simp) (by simp) fun v_3 w_8 hs_9 hch_6 => ?_)
  have hS_5 : Sat w0 ([_, _, _, _] ++ cs) _ := hs_9.sub ((.cons _ (.cons_cons _ (.cons_cons _ (.cons_cons _ (.cons _ (.cons_cons _ (.refl _))))))))
  refine ⟨hS_5, ?_⟩
  refine .f rfl (.storeObjA (vs := [av, (.int .i64 (2 : Nat)), (.int .i64 (1 : Nat)), (.slice none 0 0), (.slice none 0 0)]) agg27 hs_9 (i := 4) rfl rfl rfl rfl (fun v h => by simp only [List.mem_cons, List.not_mem_nil, or_false] at h; rcases h with rfl | rfl | rfl | rfl | rfl; exact (hs_9.rdL 1 rfl).oneCell; exact rfl; exact rfl; exact rfl; exact rfl) fun w_9 hs_10 hch_7 => ?_)
  have hS_6 : Sat w0 ([_, _, _, _] ++ cs) _ := hs_10.sub ((.cons _ (.cons_cons _ (.cons_cons _ (.cons_cons _ (.cons _ (.cons_cons _ (.refl _))))))))
  refine ⟨hS_6, ?_⟩
  refine .e rfl (fun w' hS' => .assign rfl) hS_6 <| .e rfl (fun w' hS' => .assign rfl) hS_6 <| .fin <| .ret ?_
  show PostK _ _ _ _ _ _
  refine post3c (vs := [av, (.int .i64 (2 : Nat)), (.int .i64 (1 : Nat)), (.slice none 0 0), (.slice none 0 0)]) rfl rfl rfl rfl agg27 (fun j u hu => hs_10.cell (i := 4) rfl hu) ?_
  have hs_11 : Sat w0 ([cL v_3 84 (encOp) ([((1 : Int), (bs [74, 79, 85, 82, 78, 65, 76, 46, 49]), ByteArray.empty, ByteArray.empty)] ++ [((3 : Int), (bs [74, 79, 85, 82, 78, 65, 76, 46, 49]), ByteArray.empty, ByteArray.empty)] ++ [((6 : Int), ByteArray.empty, ByteArray.empty, ByteArray.empty)] ++ [((1 : Int), (ByteArray.mk #[77, 65, 78, 73, 70, 69, 83, 84, 46, 110, 101, 119]), ByteArray.empty, ByteArray.empty)] ++ [((2 : Int), (ByteArray.mk #[77, 65, 78, 73, 70, 69, 83, 84, 46, 110, 101, 119]), ByteArray.empty, dat1)] ++ [((3 : Int), (ByteArray.mk #[77, 65, 78, 73, 70, 69, 83, 84, 46, 110, 101, 119]), ByteArray.empty, ByteArray.empty)] ++ [((6 : Int), ByteArray.empty, ByteArray.empty, ByteArray.empty), ((4 : Int), (ByteArray.mk #[77, 65, 78, 73, 70, 69, 83, 84, 46, 110, 101, 119]), (ByteArray.mk #[77, 65, 78, 73, 70, 69, 83, 84]), ByteArray.empty), ((6 : Int), ByteArray.empty, ByteArray.empty, ByteArray.empty)]), _] ++ cs) w_9 := hs_10.sub ((.cons_cons _ (.cons_cons _ (.cons _ (.cons _ (.cons _ (.cons _ (.refl _))))))))
  exact ⟨_, rfl, hs_11⟩
theorem valid1_n (av : Value) (w : World) (ha : RdL w av encAt [((ByteArray.mk #[119, 111, 114, 100]), false)]) : CallsV Tryz.prog 19 [(.agg #[av, (.int .i64 (2 : Nat)), (.int .i64 (1 : Nat)), (.slice none 0 0), (.slice none 0 0)])] w fun r w' => r = .bool true ∧ Sat w [] w' :=
  (valid_n av _ _ [((ByteArray.mk #[119, 111, 114, 100]), false)] 2 1 [] w ha (by simp) (RdL.nil _ _) (by simp) (fun p hp => absurd hp (by simp)) (fun p hp => absurd hp (by simp)) rfl).mono fun r w' hq => ⟨by rw [← stB_iff.2 ok1]; exact hq.1, hq.2⟩
theorem create_n (v : Value) (w : World) (hv : RdL w v encAt [((ByteArray.mk #[119, 111, 114, 100]), false)]) (hgv : GV Tryz.prog 0 w) :
    CallsV Tryz.prog 36 [v] w fun r w' => ∃ av ov, r = .tuple #[.agg #[av, .int .i64 ((2 : Nat) : Int), .int .i64 ((1 : Nat) : Int), .slice none 0 0, .slice none 0 0], ov, .int .i64 ((0 : Nat) : Int)] ∧ Sat w [cL ov 84 encOp ([((1 : Int), (bs [74, 79, 85, 82, 78, 65, 76, 46, 49]), ByteArray.empty, ByteArray.empty)] ++ [((3 : Int), (bs [74, 79, 85, 82, 78, 65, 76, 46, 49]), ByteArray.empty, ByteArray.empty)] ++ [((6 : Int), ByteArray.empty, ByteArray.empty, ByteArray.empty)] ++ ([((1 : Int), (ByteArray.mk #[77, 65, 78, 73, 70, 69, 83, 84, 46, 110, 101, 119]), ByteArray.empty, ByteArray.empty)] ++ [((2 : Int), (ByteArray.mk #[77, 65, 78, 73, 70, 69, 83, 84, 46, 110, 101, 119]), ByteArray.empty, dat1)] ++ [((3 : Int), (ByteArray.mk #[77, 65, 78, 73, 70, 69, 83, 84, 46, 110, 101, 119]), ByteArray.empty, ByteArray.empty)] ++ [((6 : Int), ByteArray.empty, ByteArray.empty, ByteArray.empty), ((4 : Int), (ByteArray.mk #[77, 65, 78, 73, 70, 69, 83, 84, 46, 110, 101, 119]), (ByteArray.mk #[77, 65, 78, 73, 70, 69, 83, 84]), ByteArray.empty), ((6 : Int), ByteArray.empty, ByteArray.empty, ByteArray.empty)])), cL av 70 encAt [((ByteArray.mk #[119, 111, 114, 100]), false)]] w' := by
  have hs0 := Sat.start w
  refine callsV_of Tryz.func36 rfl rfl ?_
  refine .seq <| .region <| .f rfl (.alloc hs0 zero27 fun b_1 w_1 hs_1 hch_1 hb_1 => ?_)
  refine .s rfl rfl <| .s rfl rfl <| .nil <| .seq <| .region <| .m rfl rfl <| .f rfl (.call ent63 rfl ((cloneAt_n _ ([((ByteArray.mk #[119, 111, 114, 100]), false)]) _ (hv.ext hs_1.ext) (by simp) (by simp)).mono fun r_1 w_2 h_1 => ?_))
  have hp_1 := h_1
  have hs_2 := hs_1.adds hp_1
  refine .e rfl (.build bt27 rfl ⟨(hs_2.rdL 1 rfl).oneCell, rfl, rfl, trivial⟩ rfl) <| .f rfl (.alloc hs_2 zero27 fun b_2 w_3 hs_3 hch_2 hb_2 => ?_)
  have hs_3d : Sat w [_, _, cObj b_2 27 [(.slice none 0 0), (.int .i64 (0 : Nat)), (.int .i64 (0 : Nat)), (.slice none 0 0), (.slice none 0 0)]] _ := hs_3
  refine .f rfl (.storeObjA (vs := [r_1, (.int .i64 (2 : Nat)), (.int .i64 (1 : Nat)), (.slice none 0 0), (.slice none 0 0)]) agg27 hs_3d (i := 2) rfl rfl rfl rfl (fun v h => by simp only [List.mem_cons, List.not_mem_nil, or_false] at h; rcases h with rfl | rfl | rfl | rfl | rfl; exact (hs_3d.rdL 1 rfl).oneCell; exact rfl; exact rfl; exact rfl; exact rfl) fun w_4 hs_4 hch_3 => ?_)
  refine .nil <| .seq <| .seq <| .region <| .e rfl (.ldObj agg27 rfl hs_4 (i := 2) rfl rfl) <| .f rfl (.call ent19 rfl ((valid1_n _ _ (hs_4.rdL 1 rfl)).mono fun r_2 w_5 h_2 => ?_))
  obtain ⟨rfl, hp_2⟩ := h_2
  have hs_5 := hs_4.adds hp_2
  refine .e rfl (.notB rfl) <| .nil <| .condF rfl (rfl) <| .skip <| .seq <| .draw (fun w' => Sat w [cL r_1 70 (encAt) ([((ByteArray.mk #[119, 111, 114, 100]), false)]), cObj b_2 27 [r_1, (.int .i64 (2 : Nat)), (.int .i64 (1 : Nat)), (.slice none 0 0), (.slice none 0 0)]] w') (.free 0 (.free 1 (.free 2 (.one 3 (.one 4 (.one 5 (.free 6 (.free 7 (.free 8 (.one 9 (.free 10 (.free 11 .fin)))))))))))) mixed (by kernel_rfl) ?_
  have hs_6 := hs_5.drew
  have hS_1 : Sat w [_, _] _ := hs_6.sub ((.cons _ (.cons_cons _ (.cons_cons _ .slnil))))
  refine .e rfl (fun w' hS' => .ldObj agg27 rfl hS' (i := 1) rfl rfl) hS_1 <| .e rfl (fun w' hS' => .build bt32 rfl trivial rfl) hS_1 <| .e rfl (fun w' hS' => .build bt32 rfl trivial rfl) hS_1 <| .f rfl (.call ent66 rfl ((jfile_n _ (hgv.sat hs_6)).mono fun r_3 w_6 h_3 => ?_))
  obtain ⟨rfl, hp_3⟩ := h_3
  have hs_7 := hs_6.adds hp_3
  have hS_2 : Sat w [_, _] _ := hs_7.sub ((.cons _ (.cons_cons _ (.cons_cons _ .slnil))))
  refine ⟨hS_2, ?_⟩
  refine .f rfl (.call ent65 rfl ((nfile_e (bs [74, 79, 85, 82, 78, 65, 76, 46, 49]) (ByteArray.mk #[]) _ rfl).mono fun r_4 w_7 h_4 => ?_))
  have hp_4 := h_4
  have hs_8 : Sat w [cObj b_1 27 [(.slice none 0 0), (.int .i64 (0 : Nat)), (.int .i64 (0 : Nat)), (.slice none 0 0), (.slice none 0 0)], cL r_1 70 (encAt) ([((ByteArray.mk #[119, 111, 114, 100]), false)]), cObj b_2 27 [r_1, (.int .i64 (2 : Nat)), (.int .i64 (1 : Nat)), (.slice none 0 0), (.slice none 0 0)], cL r_4 84 (encOp) ([((1 : Int), (bs [74, 79, 85, 82, 78, 65, 76, 46, 49]), ByteArray.empty, ByteArray.empty)] ++ [((3 : Int), (bs [74, 79, 85, 82, 78, 65, 76, 46, 49]), ByteArray.empty, ByteArray.empty)])] _ := hs_7.adds hp_4
  have hS_3 : Sat w [_, _] _ := hs_8.sub ((.cons _ (.cons_cons _ (.cons_cons _ (.cons _ .slnil)))))
  refine ⟨hS_3, ?_⟩
  have hA_1 : Sat w ([cL r_4 84 (encOp) ([((1 : Int), (bs [74, 79, 85, 82, 78, 65, 76, 46, 49]), ByteArray.empty, ByteArray.empty)] ++ [((3 : Int), (bs [74, 79, 85, 82, 78, 65, 76, 46, 49]), ByteArray.empty, ByteArray.empty)]), cL r_1 70 (encAt) ([((ByteArray.mk #[119, 111, 114, 100]), false)])] ++ ([cObj b_1 27 [(.slice none 0 0), (.int .i64 (0 : Nat)), (.int .i64 (0 : Nat)), (.slice none 0 0), (.slice none 0 0)], cObj b_2 27 [r_1, (.int .i64 (2 : Nat)), (.int .i64 (1 : Nat)), (.slice none 0 0), (.slice none 0 0)]] ++ [])) _ := (Sat.order [3, 1, 0, 2] (by decide) hs_8.tail).cut 2
  refine .f rfl (.call ent64 rfl ((finish_n _ _ _ _ _ hgv hA_1).mono fun r_5 w_8 h_5 => ?_))
  obtain ⟨ov_1, rfl, hp_5⟩ := h_5
  have hs_9 : Sat w [cObj b_1 27 [(.slice none 0 0), (.int .i64 (0 : Nat)), (.int .i64 (0 : Nat)), (.slice none 0 0), (.slice none 0 0)], cL r_1 70 (encAt) ([((ByteArray.mk #[119, 111, 114, 100]), false)]), cObj b_2 27 [r_1, (.int .i64 (2 : Nat)), (.int .i64 (1 : Nat)), (.slice none 0 0), (.slice none 0 0)], cL ov_1 84 (encOp) ([((1 : Int), (bs [74, 79, 85, 82, 78, 65, 76, 46, 49]), ByteArray.empty, ByteArray.empty)] ++ [((3 : Int), (bs [74, 79, 85, 82, 78, 65, 76, 46, 49]), ByteArray.empty, ByteArray.empty)] ++ [((6 : Int), ByteArray.empty, ByteArray.empty, ByteArray.empty)] ++ ([((1 : Int), (ByteArray.mk #[77, 65, 78, 73, 70, 69, 83, 84, 46, 110, 101, 119]), ByteArray.empty, ByteArray.empty)] ++ [((2 : Int), (ByteArray.mk #[77, 65, 78, 73, 70, 69, 83, 84, 46, 110, 101, 119]), ByteArray.empty, dat1)] ++ [((3 : Int), (ByteArray.mk #[77, 65, 78, 73, 70, 69, 83, 84, 46, 110, 101, 119]), ByteArray.empty, ByteArray.empty)] ++ [((6 : Int), ByteArray.empty, ByteArray.empty, ByteArray.empty), ((4 : Int), (ByteArray.mk #[77, 65, 78, 73, 70, 69, 83, 84, 46, 110, 101, 119]), (ByteArray.mk #[77, 65, 78, 73, 70, 69, 83, 84]), ByteArray.empty), ((6 : Int), ByteArray.empty, ByteArray.empty, ByteArray.empty)]))] _ := (Sat.order [2, 1, 3, 0] (by decide) hp_5.join).untail
  have hS_4 : Sat w [_, _] _ := hs_9.sub ((.cons _ (.cons_cons _ (.cons_cons _ (.cons _ .slnil)))))
  refine ⟨hS_4, ?_⟩
  refine .e rfl (fun w' hS' => .extract rfl rfl) hS_4 <| .e rfl (fun w' hS' => .extract rfl rfl) hS_4 <| .e rfl (fun w' hS' => .extract rfl rfl) hS_4 <| .f rfl (.storeObjA (vs := [r_1, (.int .i64 (2 : Nat)), (.int .i64 (1 : Nat)), (.slice none 0 0), (.slice none 0 0)]) agg27 hs_9 (i := 0) rfl rfl rfl rfl (fun v h => by simp only [List.mem_cons, List.not_mem_nil, or_false] at h; rcases h with rfl | rfl | rfl | rfl | rfl; exact (hs_9.rdL 1 rfl).oneCell; exact rfl; exact rfl; exact rfl; exact rfl) fun w_9 hs_10 hch_4 => ?_)
  have hs_10d : Sat w [cObj b_1 27 [r_1, (.int .i64 (2 : Nat)), (.int .i64 (1 : Nat)), (.slice none 0 0), (.slice none 0 0)], cL r_1 70 (encAt) ([((ByteArray.mk #[119, 111, 114, 100]), false)]), cObj b_2 27 [r_1, (.int .i64 (2 : Nat)), (.int .i64 (1 : Nat)), (.slice none 0 0), (.slice none 0 0)], cL ov_1 84 (encOp) ([((1 : Int), (bs [74, 79, 85, 82, 78, 65, 76, 46, 49]), ByteArray.empty, ByteArray.empty)] ++ [((3 : Int), (bs [74, 79, 85, 82, 78, 65, 76, 46, 49]), ByteArray.empty, ByteArray.empty)] ++ [((6 : Int), ByteArray.empty, ByteArray.empty, ByteArray.empty)] ++ ([((1 : Int), (ByteArray.mk #[77, 65, 78, 73, 70, 69, 83, 84, 46, 110, 101, 119]), ByteArray.empty, ByteArray.empty)] ++ [((2 : Int), (ByteArray.mk #[77, 65, 78, 73, 70, 69, 83, 84, 46, 110, 101, 119]), ByteArray.empty, dat1)] ++ [((3 : Int), (ByteArray.mk #[77, 65, 78, 73, 70, 69, 83, 84, 46, 110, 101, 119]), ByteArray.empty, ByteArray.empty)] ++ [((6 : Int), ByteArray.empty, ByteArray.empty, ByteArray.empty), ((4 : Int), (ByteArray.mk #[77, 65, 78, 73, 70, 69, 83, 84, 46, 110, 101, 119]), (ByteArray.mk #[77, 65, 78, 73, 70, 69, 83, 84]), ByteArray.empty), ((6 : Int), ByteArray.empty, ByteArray.empty, ByteArray.empty)]))] _ := hs_10
  have hS_5 : Sat w [_, _] _ := hs_10d.sub ((.cons _ (.cons_cons _ (.cons_cons _ (.cons _ .slnil)))))
  refine ⟨hS_5, ?_⟩
  refine .e rfl (fun w' hS' => .assign rfl) hS_5 <| .e rfl (fun w' hS' => .assign rfl) hS_5 <| .fin <| .ret ?_
  show PostK _ _ _ _ _ _
  refine post3c (vs := [r_1, (.int .i64 (2 : Nat)), (.int .i64 (1 : Nat)), (.slice none 0 0), (.slice none 0 0)]) rfl rfl rfl rfl agg27 (fun j u hu => hs_10d.cell (i := 0) rfl hu) ?_
  have hs_11 : Sat w [cL ov_1 84 (encOp) ([((1 : Int), (bs [74, 79, 85, 82, 78, 65, 76, 46, 49]), ByteArray.empty, ByteArray.empty)] ++ [((3 : Int), (bs [74, 79, 85, 82, 78, 65, 76, 46, 49]), ByteArray.empty, ByteArray.empty)] ++ [((6 : Int), ByteArray.empty, ByteArray.empty, ByteArray.empty)] ++ ([((1 : Int), (ByteArray.mk #[77, 65, 78, 73, 70, 69, 83, 84, 46, 110, 101, 119]), ByteArray.empty, ByteArray.empty)] ++ [((2 : Int), (ByteArray.mk #[77, 65, 78, 73, 70, 69, 83, 84, 46, 110, 101, 119]), ByteArray.empty, dat1)] ++ [((3 : Int), (ByteArray.mk #[77, 65, 78, 73, 70, 69, 83, 84, 46, 110, 101, 119]), ByteArray.empty, ByteArray.empty)] ++ [((6 : Int), ByteArray.empty, ByteArray.empty, ByteArray.empty), ((4 : Int), (ByteArray.mk #[77, 65, 78, 73, 70, 69, 83, 84, 46, 110, 101, 119]), (ByteArray.mk #[77, 65, 78, 73, 70, 69, 83, 84]), ByteArray.empty), ((6 : Int), ByteArray.empty, ByteArray.empty, ByteArray.empty)])), cL r_1 70 (encAt) ([((ByteArray.mk #[119, 111, 114, 100]), false)])] w_9 := ((Sat.order [3, 1, 0, 2] (by decide) hs_10d.tail).untail).sub ((.cons_cons _ (.cons_cons _ (.cons _ (.cons _ .slnil)))))
  exact ⟨_, _, rfl, hs_11⟩
theorem kinds_eq {k : Nat} {x : Int × ByteArray × ByteArray × ByteArray} {y : Nat} (hx : ([((1 : Int), (bs [74, 79, 85, 82, 78, 65, 76, 46, 49]), ByteArray.empty, ByteArray.empty)] ++ [((3 : Int), (bs [74, 79, 85, 82, 78, 65, 76, 46, 49]), ByteArray.empty, ByteArray.empty)] ++ [((6 : Int), ByteArray.empty, ByteArray.empty, ByteArray.empty)] ++ ([((1 : Int), (ByteArray.mk #[77, 65, 78, 73, 70, 69, 83, 84, 46, 110, 101, 119]), ByteArray.empty, ByteArray.empty)] ++ [((2 : Int), (ByteArray.mk #[77, 65, 78, 73, 70, 69, 83, 84, 46, 110, 101, 119]), ByteArray.empty, dat1)] ++ [((3 : Int), (ByteArray.mk #[77, 65, 78, 73, 70, 69, 83, 84, 46, 110, 101, 119]), ByteArray.empty, ByteArray.empty)] ++ [((6 : Int), ByteArray.empty, ByteArray.empty, ByteArray.empty), ((4 : Int), (ByteArray.mk #[77, 65, 78, 73, 70, 69, 83, 84, 46, 110, 101, 119]), (ByteArray.mk #[77, 65, 78, 73, 70, 69, 83, 84]), ByteArray.empty), ((6 : Int), ByteArray.empty, ByteArray.empty, ByteArray.empty)]))[k]? = some x) (hy : ([1, 3, 6, 1, 2, 3, 6, 4, 6] : List Nat)[k]? = some y) : x.1 = (y : Int) := by
  have h1 := congrArg (Option.map Prod.fst) hx
  rw [← List.getElem?_map] at h1
  have h2 := congrArg (Option.map fun n : Nat => (n : Int)) hy
  rw [← List.getElem?_map] at h2
  have e : ([((1 : Int), (bs [74, 79, 85, 82, 78, 65, 76, 46, 49]), ByteArray.empty, ByteArray.empty)] ++ [((3 : Int), (bs [74, 79, 85, 82, 78, 65, 76, 46, 49]), ByteArray.empty, ByteArray.empty)] ++ [((6 : Int), ByteArray.empty, ByteArray.empty, ByteArray.empty)] ++ ([((1 : Int), (ByteArray.mk #[77, 65, 78, 73, 70, 69, 83, 84, 46, 110, 101, 119]), ByteArray.empty, ByteArray.empty)] ++ [((2 : Int), (ByteArray.mk #[77, 65, 78, 73, 70, 69, 83, 84, 46, 110, 101, 119]), ByteArray.empty, dat1)] ++ [((3 : Int), (ByteArray.mk #[77, 65, 78, 73, 70, 69, 83, 84, 46, 110, 101, 119]), ByteArray.empty, ByteArray.empty)] ++ [((6 : Int), ByteArray.empty, ByteArray.empty, ByteArray.empty), ((4 : Int), (ByteArray.mk #[77, 65, 78, 73, 70, 69, 83, 84, 46, 110, 101, 119]), (ByteArray.mk #[77, 65, 78, 73, 70, 69, 83, 84]), ByteArray.empty), ((6 : Int), ByteArray.empty, ByteArray.empty, ByteArray.empty)])).map Prod.fst = ([1, 3, 6, 1, 2, 3, 6, 4, 6] : List Nat).map fun n : Nat => (n : Int) := by simp
  rw [e, h2] at h1
  exact (Option.some.inj h1).symm
theorem known_n (w : World) (hgv : GV Tryz.prog 0 w) :
    CallsV Tryz.prog 12 [] w fun r w' => r = .bool true ∧ Sat w [] w' := by
  have hs0 := Sat.start w
  refine callsV_of Tryz.func12 rfl rfl ?_
  refine .seq <| .region <| .s rfl rfl <| .nil <| .seq <| .region <| .f rfl (.call ent15 rfl ((mattrs_n _).mono fun r_1 w_1 h_1 => ?_))
  have hp_1 := h_1
  have hs_1 := hs0.adds hp_1
  refine .e rfl (.sliceL (E := encAt) (a := 0) (c := 1) sl23 rfl (hs_1.rdL 0 rfl) rfl ⟨_, rfl⟩ (Nat.zero_le _) (by simp)) <| .f rfl (.call ent36 rfl ((create_n _ _ (((hs_1.rdL 0 rfl)).sub (a := 0) (b := 1) (Nat.zero_le _) (by simp)) (hgv.sat hs_1)).mono fun r_2 w_2 h_2 => ?_))
  obtain ⟨av_1, ov_1, rfl, hp_2⟩ := h_2
  have hs_2 := hs_1.adds hp_2
  refine .m rfl rfl <| .e rfl (.extract rfl rfl) <| .e rfl (.extract rfl rfl) <| .e rfl (.extract rfl rfl) <| .f rfl (.alloc hs_2 zero27 fun b_1 w_3 hs_3 hch_1 hb_1 => ?_)
  have hs_3d : Sat w [_, _, _, cObj b_1 27 [(.slice none 0 0), (.int .i64 (0 : Nat)), (.int .i64 (0 : Nat)), (.slice none 0 0), (.slice none 0 0)]] _ := hs_3
  refine .f rfl (.storeObjA (vs := [av_1, (.int .i64 (2 : Nat)), (.int .i64 (1 : Nat)), (.slice none 0 0), (.slice none 0 0)]) agg27 hs_3d (i := 3) rfl rfl rfl rfl (fun v h => by simp only [List.mem_cons, List.not_mem_nil, or_false] at h; rcases h with rfl | rfl | rfl | rfl | rfl; exact (hs_3d.rdL 2 rfl).oneCell; exact rfl; exact rfl; exact rfl; exact rfl) fun w_4 hs_4 hch_2 => ?_)
  refine .s rfl rfl <| .s rfl rfl <| .nil <| .seq <| .region <| .f rfl (.litN (encN .i64) [1, 3, 6, 1, 2, 3, 6, 4, 6] sl22 rfl ⟨rfl, rfl, rfl, rfl, rfl, rfl, rfl, rfl, rfl, trivial⟩ rfl rfl rfl rfl (by decide) (by decide) hs_4 fun v_1 w_5 hs_5 hch_3 => ?_)
  refine .s rfl rfl <| .nil <| .seq <| .seq <| .region <| .m rfl rfl <| .e rfl (.neqN (a := 0) (b := 0) rfl rfl) <| .m rfl rfl <| .yes rfl rfl rfl (decide_eq_false (by simp)) <| .e rfl (.fieldAddr fld27_1 rfl rfl) <| .yes rfl rfl rfl (decide_eq_false (by simp)) <| .e rfl (.load scal3 rfl (hs_5.cell (i := 3) (j := 1) rfl rfl)) <| .yes rfl rfl rfl (decide_eq_false (by simp)) <| .e rfl (.neqN (a := 2) (b := 2) rfl rfl) <| .e rfl (.pickN rfl (decide_eq_false (by simp)) rfl) <| .m rfl rfl <| .yes rfl rfl rfl (decide_eq_false (by simp)) <| .e rfl (.fieldAddr fld27_2 rfl rfl) <| .yes rfl rfl rfl (decide_eq_false (by simp)) <| .e rfl (.load scal3 rfl (hs_5.cell (i := 3) (j := 2) rfl rfl)) <| .yes rfl rfl rfl (decide_eq_false (by simp)) <| .e rfl (.neqN (a := 1) (b := 1) rfl rfl) <| .e rfl (.pickN rfl (decide_eq_false (by simp)) rfl) <| .m rfl rfl <| .yes rfl rfl rfl (decide_eq_false (by simp)) <| .m rfl rfl <| .yes rfl rfl rfl (decide_eq_false (by simp)) <| .e rfl (.lenL Tryz.underlying30 rfl (hs_5.rdL 1 rfl)) <| .yes rfl rfl rfl (decide_eq_false (by simp)) <| .m rfl rfl <| .yes rfl rfl rfl (decide_eq_false (by simp)) <| .e rfl (.lenL Tryz.underlying22 rfl (hs_5.rdL 4 rfl)) <| .yes rfl rfl rfl (decide_eq_false (by simp)) <| .e rfl (.neqN rfl rfl) <| .e rfl (.pickN rfl (decide_eq_false (by simp)) rfl) <| .nil <| .condF rfl (decide_eq_false (by simp)) <| .skip <| .seq <| .seq <| .region <| .m rfl rfl <| .e rfl (.lenL Tryz.underlying30 rfl (hs_5.rdL 1 rfl)) <| .m rfl rfl <| .nil <| .block <| .loop (α := Nat) (fun k => [(2, ov_1), (4, v_1), (34, ov_1), (35, (.int .i64 (([((1 : Int), (bs [74, 79, 85, 82, 78, 65, 76, 46, 49]), ByteArray.empty, ByteArray.empty)] ++ [((3 : Int), (bs [74, 79, 85, 82, 78, 65, 76, 46, 49]), ByteArray.empty, ByteArray.empty)] ++ [((6 : Int), ByteArray.empty, ByteArray.empty, ByteArray.empty)] ++ ([((1 : Int), (ByteArray.mk #[77, 65, 78, 73, 70, 69, 83, 84, 46, 110, 101, 119]), ByteArray.empty, ByteArray.empty)] ++ [((2 : Int), (ByteArray.mk #[77, 65, 78, 73, 70, 69, 83, 84, 46, 110, 101, 119]), ByteArray.empty, dat1)] ++ [((3 : Int), (ByteArray.mk #[77, 65, 78, 73, 70, 69, 83, 84, 46, 110, 101, 119]), ByteArray.empty, ByteArray.empty)] ++ [((6 : Int), ByteArray.empty, ByteArray.empty, ByteArray.empty), ((4 : Int), (ByteArray.mk #[77, 65, 78, 73, 70, 69, 83, 84, 46, 110, 101, 119]), (ByteArray.mk #[77, 65, 78, 73, 70, 69, 83, 84]), ByteArray.empty), ((6 : Int), ByteArray.empty, ByteArray.empty, ByteArray.empty)])).length : Nat))), (36, (.int .i64 k))]) (fun k w' => Sat w [cL r_1 70 (encAt) ([((ByteArray.mk #[119, 111, 114, 100]), false), (ByteArray.mk #[116, 97, 103], false), (ByteArray.mk #[102, 101, 97, 116], true)]), cL ov_1 84 (encOp) ([((1 : Int), (bs [74, 79, 85, 82, 78, 65, 76, 46, 49]), ByteArray.empty, ByteArray.empty)] ++ [((3 : Int), (bs [74, 79, 85, 82, 78, 65, 76, 46, 49]), ByteArray.empty, ByteArray.empty)] ++ [((6 : Int), ByteArray.empty, ByteArray.empty, ByteArray.empty)] ++ ([((1 : Int), (ByteArray.mk #[77, 65, 78, 73, 70, 69, 83, 84, 46, 110, 101, 119]), ByteArray.empty, ByteArray.empty)] ++ [((2 : Int), (ByteArray.mk #[77, 65, 78, 73, 70, 69, 83, 84, 46, 110, 101, 119]), ByteArray.empty, dat1)] ++ [((3 : Int), (ByteArray.mk #[77, 65, 78, 73, 70, 69, 83, 84, 46, 110, 101, 119]), ByteArray.empty, ByteArray.empty)] ++ [((6 : Int), ByteArray.empty, ByteArray.empty, ByteArray.empty), ((4 : Int), (ByteArray.mk #[77, 65, 78, 73, 70, 69, 83, 84, 46, 110, 101, 119]), (ByteArray.mk #[77, 65, 78, 73, 70, 69, 83, 84]), ByteArray.empty), ((6 : Int), ByteArray.empty, ByteArray.empty, ByteArray.empty)])), cL av_1 70 (encAt) ([((ByteArray.mk #[119, 111, 114, 100]), false)]), cObj b_1 27 [av_1, (.int .i64 (2 : Nat)), (.int .i64 (1 : Nat)), (.slice none 0 0), (.slice none 0 0)], cL v_1 3 (encN .i64) ([1, 3, 6, 1, 2, 3, 6, 4, 6])] w' ∧ (k ≤ 9)) (fun k => 9 - k) 0 ⟨rfl, rfl, rfl, rfl, rfl, trivial⟩ ⟨hs_5, Nat.zero_le _⟩ ?_
  rintro k w_6 ⟨hs_6, hk⟩
  show CW _ _ _ _ [(2, ov_1), (4, v_1), (34, ov_1), (35, (.int .i64 (([((1 : Int), (bs [74, 79, 85, 82, 78, 65, 76, 46, 49]), ByteArray.empty, ByteArray.empty)] ++ [((3 : Int), (bs [74, 79, 85, 82, 78, 65, 76, 46, 49]), ByteArray.empty, ByteArray.empty)] ++ [((6 : Int), ByteArray.empty, ByteArray.empty, ByteArray.empty)] ++ ([((1 : Int), (ByteArray.mk #[77, 65, 78, 73, 70, 69, 83, 84, 46, 110, 101, 119]), ByteArray.empty, ByteArray.empty)] ++ [((2 : Int), (ByteArray.mk #[77, 65, 78, 73, 70, 69, 83, 84, 46, 110, 101, 119]), ByteArray.empty, dat1)] ++ [((3 : Int), (ByteArray.mk #[77, 65, 78, 73, 70, 69, 83, 84, 46, 110, 101, 119]), ByteArray.empty, ByteArray.empty)] ++ [((6 : Int), ByteArray.empty, ByteArray.empty, ByteArray.empty), ((4 : Int), (ByteArray.mk #[77, 65, 78, 73, 70, 69, 83, 84, 46, 110, 101, 119]), (ByteArray.mk #[77, 65, 78, 73, 70, 69, 83, 84]), ByteArray.empty), ((6 : Int), ByteArray.empty, ByteArray.empty, ByteArray.empty)])).length : Nat))), (36, (.int .i64 k))] _
  refine .seq <| .region <| .e rfl (.lssN rfl rfl) <| .nil <| .seq <| .condD rfl (fun hc_1 => ?_) (fun hc_1 => ?_)
  · refine .skip <| .seq <| .block <| .seq ?_
    obtain ⟨x, hx⟩ : ∃ x, ([((1 : Int), (bs [74, 79, 85, 82, 78, 65, 76, 46, 49]), ByteArray.empty, ByteArray.empty)] ++ [((3 : Int), (bs [74, 79, 85, 82, 78, 65, 76, 46, 49]), ByteArray.empty, ByteArray.empty)] ++ [((6 : Int), ByteArray.empty, ByteArray.empty, ByteArray.empty)] ++ ([((1 : Int), (ByteArray.mk #[77, 65, 78, 73, 70, 69, 83, 84, 46, 110, 101, 119]), ByteArray.empty, ByteArray.empty)] ++ [((2 : Int), (ByteArray.mk #[77, 65, 78, 73, 70, 69, 83, 84, 46, 110, 101, 119]), ByteArray.empty, dat1)] ++ [((3 : Int), (ByteArray.mk #[77, 65, 78, 73, 70, 69, 83, 84, 46, 110, 101, 119]), ByteArray.empty, ByteArray.empty)] ++ [((6 : Int), ByteArray.empty, ByteArray.empty, ByteArray.empty), ((4 : Int), (ByteArray.mk #[77, 65, 78, 73, 70, 69, 83, 84, 46, 110, 101, 119]), (ByteArray.mk #[77, 65, 78, 73, 70, 69, 83, 84]), ByteArray.empty), ((6 : Int), ByteArray.empty, ByteArray.empty, ByteArray.empty)]))[k]? = some x := ⟨_, List.getElem?_eq_getElem hc_1⟩
    obtain ⟨y, hy⟩ : ∃ y, ([1, 3, 6, 1, 2, 3, 6, 4, 6] : List Nat)[k]? = some y := ⟨_, List.getElem?_eq_getElem (by have h9 := hc_1; simp at h9 ⊢; omega)⟩
    have hxy : x.1 = (y : Int) := kinds_eq hx hy
    refine .region <| .m rfl rfl <| .e rfl (.idxL (E := encOp) sl30 rfl rfl (hs_6.rdL 1 rfl) (by omega)) <| .e rfl (.ldAgg (E := encOp) agg84 rfl (hs_6.rdL 1 rfl) hx (by decide)) <| .f rfl (.alloc hs_6 zero84 fun b_2 w_7 hs_7 hch_4 hb_2 => ?_)
    have hs_7d : Sat w [_, _, _, _, _, cObj b_2 84 [(.int .i64 (0 : Nat)), (.string ByteArray.empty), (.string ByteArray.empty), (.string ByteArray.empty)]] _ := hs_7
    refine .s rfl rfl <| .f rfl (.storeObjA (vs := (encOp).enc x) agg84 hs_7d (i := 5) rfl rfl rfl rfl ((encOp).one _) fun w_8 hs_8 hch_5 => ?_)
    refine .nil <| .seq <| .drawS hs_8 (.free 0 (.free 1 (.free 2 (.free 3 (.free 4 (.free 5 (.free 6 .fin))))))) mixed (by kernel_rfl) ?_
    have hs_9 := hs_8.drew
    refine .e rfl (fun w' hS' => .fieldAddr fld84_0 rfl rfl) hs_9 <| .e rfl (fun w' hS' => .load scal3 rfl (hS'.cell (i := 5) (j := 0) rfl rfl)) hs_9 <| .m rfl rfl hs_9 <| .m rfl rfl hs_9 <| .e rfl (fun w' hS' => .idxL (E := encN .i64) sl22 rfl rfl (hS'.rdL 4 rfl) (by have h9 := (List.getElem?_eq_some_iff.1 hy).1; exact h9)) hs_9 ?_
    refine .e rfl (fun w' hS' => .ldL (E := encN .i64) scal3 rfl (hS'.rdL 4 rfl) hy (by decide) rfl) hs_9 <| .e rfl (fun w' hS' => .neq rfl rfl) hs_9 <| .fin <| .condF rfl (decide_eq_false (fun h9 => h9 hxy)) <| .skip <| .region <| .e rfl (.addI (b := 1) rfl rfl (by omega)) <| .m rfl rfl <| .nil ?_
    have hs_10 : Sat w [cL r_1 70 (encAt) ([((ByteArray.mk #[119, 111, 114, 100]), false), (ByteArray.mk #[116, 97, 103], false), (ByteArray.mk #[102, 101, 97, 116], true)]), cL ov_1 84 (encOp) ([((1 : Int), (bs [74, 79, 85, 82, 78, 65, 76, 46, 49]), ByteArray.empty, ByteArray.empty)] ++ [((3 : Int), (bs [74, 79, 85, 82, 78, 65, 76, 46, 49]), ByteArray.empty, ByteArray.empty)] ++ [((6 : Int), ByteArray.empty, ByteArray.empty, ByteArray.empty)] ++ ([((1 : Int), (ByteArray.mk #[77, 65, 78, 73, 70, 69, 83, 84, 46, 110, 101, 119]), ByteArray.empty, ByteArray.empty)] ++ [((2 : Int), (ByteArray.mk #[77, 65, 78, 73, 70, 69, 83, 84, 46, 110, 101, 119]), ByteArray.empty, dat1)] ++ [((3 : Int), (ByteArray.mk #[77, 65, 78, 73, 70, 69, 83, 84, 46, 110, 101, 119]), ByteArray.empty, ByteArray.empty)] ++ [((6 : Int), ByteArray.empty, ByteArray.empty, ByteArray.empty), ((4 : Int), (ByteArray.mk #[77, 65, 78, 73, 70, 69, 83, 84, 46, 110, 101, 119]), (ByteArray.mk #[77, 65, 78, 73, 70, 69, 83, 84]), ByteArray.empty), ((6 : Int), ByteArray.empty, ByteArray.empty, ByteArray.empty)])), cL av_1 70 (encAt) ([((ByteArray.mk #[119, 111, 114, 100]), false)]), cObj b_1 27 [av_1, (.int .i64 (2 : Nat)), (.int .i64 (1 : Nat)), (.slice none 0 0), (.slice none 0 0)], cL v_1 3 (encN .i64) ([1, 3, 6, 1, 2, 3, 6, 4, 6])] w_8.drew := hs_9.sub ((.cons_cons _ (.cons_cons _ (.cons_cons _ (.cons_cons _ (.cons_cons _ (.cons _ .slnil)))))))
    exact ⟨k + 1, ⟨rfl, rfl, rfl, rfl, rfl, trivial⟩, ⟨hs_10, by have h9 := (List.getElem?_eq_some_iff.1 hy).1; simp at h9; omega⟩, (show (9 - (k + 1)) < (9 - k) from by have h9 := (List.getElem?_eq_some_iff.1 hy).1; simp at h9; omega)⟩
  · refine .exit0 <| .seq <| .region <| .s rfl rfl <| .nil <| .ret ?_
    show PostK _ _ _ _ _ _
    refine post1 rfl rfl ?_
    have hs_11 : Sat w [] w_6 := hs_6.sub ((.cons _ (.cons _ (.cons _ (.cons _ (.cons _ .slnil))))))
    exact ⟨rfl, hs_11⟩
end Go.Proofs.YtecfgjdpghddgaaGreatDoor
namespace Go.Proofs.YtecfgjdpghddgaaGreatDoor
open Go.RowKit Go.Kw
set_option maxRecDepth 100000
theorem pp_g {al : List (ByteArray × Bool)} {nx jr : Int} {ps : PV} (s : ByteArray) (w : World) (hn : s.size ≤ 100000) (hgv : GV Tryz.prog 0 w) (hg : goodM s al nx jr ps) : CallsV Tryz.prog 9 [.string s] w fun r w' => ∃ av pv ql, ql.map pcV = ps ∧ ql.length ≤ 200000 ∧ al.length ≤ 200000 ∧ (∀ p ∈ ql, p.ns.length ≤ 200000) ∧ r = .tuple #[.agg #[av, .int .i64 nx, .int .i64 jr, pv, .slice none 0 0], .int .i64 ((0 : Nat) : Int)] ∧ Sat w [cL av 70 encAt al, cL pv 72 encPc ql, cPcs 9 ql] w' :=
  (parse_n s w hn hgv).mono fun r w' hq => by
    rcases hq with ⟨av, pv, a, n, j, q, h1, h2, h3, h4, h5, h6, h7⟩ | ⟨h1, _⟩
    · obtain ⟨rfl, rfl, rfl, rfl⟩ := h2 _ _ _ _ hg
      exact ⟨av, pv, q, rfl, h3, h4, h5, h6, h7⟩
    · exact absurd hg (h1 _ _ _ _)
theorem pp_b (s : ByteArray) (w : World) (hn : s.size ≤ 100000) (hgv : GV Tryz.prog 0 w) (hb : ∀ al nx jr ps, ¬ goodM s al nx jr ps) : CallsV Tryz.prog 9 [.string s] w fun r w' => r = .tuple #[.agg #[.slice none 0 0, .int .i64 ((0 : Nat) : Int), .int .i64 ((0 : Nat) : Int), .slice none 0 0, .slice none 0 0], .int .i64 ((9 : Nat) : Int)] ∧ Sat w [] w' :=
  (parse_n s w hn hgv).mono fun r w' hq => by
    rcases hq with ⟨av, pv, a, n, j, q, h1, _⟩ | ⟨_, h2⟩
    · exact absurd h1 (hb _ _ _ _)
    · exact h2
theorem rp_g {al : List (ByteArray × Bool)} {nx jr : Int} {ps : PV} (s : ByteArray) (w : World) (hn : s.size ≤ 100000) (hg : goodM s al nx jr ps) : CallsV Tryz.prog 13 [.string s] w fun r w' => ∃ av pv ql, ql.map pcV = ps ∧ ql.length ≤ 200000 ∧ al.length ≤ 200000 ∧ (∀ p ∈ ql, p.ns.length ≤ 200000) ∧ r = .tuple #[.agg #[av, .int .i64 nx, .int .i64 jr, pv, .slice none 0 0], .int .i64 ((0 : Nat) : Int)] ∧ Sat w [cL av 70 encAt al, cL pv 72 encPc ql, cPcs 9 ql] w' :=
  (rparse_n s w hn).mono fun r w' hq => by
    rcases hq with ⟨av, pv, a, n, j, q, h1, h2, h3, h4, h5, h6, h7⟩ | ⟨h1, _⟩
    · obtain ⟨rfl, rfl, rfl, rfl⟩ := h2 _ _ _ _ hg
      exact ⟨av, pv, q, rfl, h3, h4, h5, h6, h7⟩
    · exact absurd hg (h1 _ _ _ _)
theorem rp_b (s : ByteArray) (w : World) (hn : s.size ≤ 100000) (hb : ∀ al nx jr ps, ¬ goodM s al nx jr ps) : CallsV Tryz.prog 13 [.string s] w fun r w' => r = .tuple #[.agg #[.slice none 0 0, .int .i64 ((0 : Nat) : Int), .int .i64 ((0 : Nat) : Int), .slice none 0 0, .slice none 0 0], .int .i64 ((9 : Nat) : Int)] ∧ Sat w [] w' :=
  (rparse_n s w hn).mono fun r w' hq => by
    rcases hq with ⟨av, pv, a, n, j, q, h1, _⟩ | ⟨_, h2⟩
    · exact absurd h1 (hb _ _ _ _)
    · exact h2
set_option maxHeartbeats 1000000 in
theorem law_g (av pv rv : Value) (al : List (ByteArray × Bool)) (nx jr : Int) (pl : List Pc) (s : ByteArray) (w : World) (ha : RdL w av encAt al) (hp : RdL w pv encPc pl) (hrow : ∀ p ∈ pl, RdL w p.sv.val encTx p.ns) (hdl : ∀ p ∈ pl, p.ns.length ≤ 9223372036854775807) (hrv : rv.oneCell' = true) (hgv : GV Tryz.prog 0 w) {al2 : List (ByteArray × Bool)} {nx2 jr2 : Int} {ps2 : PV} (hg : goodM s al2 nx2 jr2 ps2) :
    CallsV Tryz.prog 4 [(.agg #[av, (.int .i64 (nx)), (.int .i64 (jr)), pv, rv]), (.string s)] w fun r w' => r = .bool true ∧ Sat w [] w' := by
  have hs0 := Sat.start w
  refine callsV_of Tryz.func4 rfl rfl ?_
  refine .seq <| .region <| .f rfl (.box hs0 rfl fun b_1 w_1 hs_1 hch_1 hb_1 => ?_)
  refine .s rfl rfl <| .nil <| .seq <| .seq <| .mid (fun L' w' => Weak [(0, (.agg #[av, (.int .i64 (nx)), (.int .i64 (jr)), pv, rv])), (1, (.string s)), (2, (.pointer (some ⟨b_1, 0, none⟩))), (4, (.bool false)), (27, (.bool (decide (((9 < al.length) ∨ (18 < pl.length)) ∨ (300 < s.size)))))] L' ∧ Sat w [cObj b_1 27 [av, (.int .i64 (nx)), (.int .i64 (jr)), pv, rv]] w') ?_ ?_
  · refine .region <| .e rfl (.fieldAddr fld27_0 rfl rfl) <| .e rfl (.load scal23 rfl (hs_1.cell (i := 0) (j := 0) rfl rfl)) <| .e rfl (.lenL Tryz.underlying23 rfl (ha.ext hs_1.ext)) <| .e rfl (.gtrN (b := 9) rfl rfl) <| .m rfl rfl ?_
    by_cases hg_1 : 9 < al.length
    · refine .no rfl rfl rfl (decide_eq_true hg_1) rfl <| .no rfl rfl rfl (decide_eq_true hg_1) rfl <| .no rfl rfl rfl (decide_eq_true hg_1) rfl <| .no rfl rfl rfl (decide_eq_true hg_1) rfl <| .e rfl (.pickY rfl (decide_eq_true hg_1) rfl) <| .m rfl rfl <| .no rfl rfl rfl (rfl) rfl <| .no rfl rfl rfl (rfl) rfl <| .no rfl rfl rfl (rfl) rfl <| .e rfl (.pickY rfl (rfl) rfl) <| .nil ?_
      exact ⟨⟨rfl, rfl, rfl, rfl, congrArg some (congrArg Value.bool (by simp [hg_1])), trivial⟩, hs_1⟩
    · refine .yes rfl rfl rfl (decide_eq_false hg_1) <| .e rfl (.fieldAddr fld27_3 rfl rfl) <| .yes rfl rfl rfl (decide_eq_false hg_1) <| .e rfl (.load scal24 rfl (hs_1.cell (i := 0) (j := 3) rfl rfl)) <| .yes rfl rfl rfl (decide_eq_false hg_1) <| .e rfl (.lenL Tryz.underlying24 rfl (hp.ext hs_1.ext)) <| .yes rfl rfl rfl (decide_eq_false hg_1) <| .e rfl (.gtrN (b := 18) rfl rfl) <| .e rfl (.pickN rfl (decide_eq_false hg_1) rfl) <| .m rfl rfl ?_
      by_cases hg_2 : 18 < pl.length
      · refine .no rfl rfl rfl (decide_eq_true hg_2) rfl <| .no rfl rfl rfl (decide_eq_true hg_2) rfl <| .no rfl rfl rfl (decide_eq_true hg_2) rfl <| .e rfl (.pickY rfl (decide_eq_true hg_2) rfl) <| .nil ?_
        exact ⟨⟨rfl, rfl, rfl, rfl, congrArg some (congrArg Value.bool (by simp [hg_1, hg_2])), trivial⟩, hs_1⟩
      · refine .yes rfl rfl rfl (decide_eq_false hg_2) <| .m rfl rfl <| .yes rfl rfl rfl (decide_eq_false hg_2) <| .e rfl (.lenStr Tryz.underlying9 rfl) <| .yes rfl rfl rfl (decide_eq_false hg_2) <| .e rfl (.gtrN (b := 300) rfl rfl) <| .e rfl (.pickN rfl (decide_eq_false hg_2) rfl) <| .nil ?_
        exact ⟨⟨rfl, rfl, rfl, rfl, congrArg some (congrArg Value.bool (by simp [hg_1, hg_2])), trivial⟩, hs_1⟩
  · rintro L' w_2 ⟨hw_1, hs_2⟩
    refine .weaken _ hw_1 <| .condD rfl (fun hc_1 => ?_) (fun hc_1 => ?_)
    · refine .seq <| .region <| .s rfl rfl <| .nil <| .ret ?_
      show PostK _ _ _ _ _ _
      refine post1 rfl rfl ?_
      have hs_3 : Sat w [] w_2 := hs_2.sub ((.cons _ .slnil))
      exact ⟨rfl, hs_3⟩
    · refine .skip <| .seq <| .region <| .e rfl (.ldObj agg27 rfl hs_2 (i := 0) rfl rfl) <| .f rfl (.call ent7 rfl ((manifest_o av pv rv (al) (nx) (jr) (pl) _ (ha.ext hs_2.ext) (by omega) (hp.ext hs_2.ext) (by omega) (fun p hp9 => (hrow p hp9).ext hs_2.ext) hdl hrv (hgv.sat hs_2)).mono fun r_1 w_3 h_1 => ?_))
      obtain ⟨rfl, hp_1⟩ := h_1
      have hs_4 := hs_2.adds hp_1
      refine .m rfl rfl <| .e rfl (.extract rfl rfl) <| .e rfl (.extract rfl rfl) <| .s rfl rfl <| .s rfl rfl <| .nil <| .seq <| .region <| .e rfl (.ldObj agg27 rfl hs_4 (i := 0) rfl rfl) <| .f rfl (.call ent8 rfl ((rmanifest_o av pv rv (al) (nx) (jr) (pl) _ (ha.ext hs_4.ext) (by omega) (hp.ext hs_4.ext) (by omega) (fun p hp9 => (hrow p hp9).ext hs_4.ext) hdl hrv).mono fun r_2 w_4 h_2 => ?_))
      obtain ⟨rfl, hp_2⟩ := h_2
      have hs_5 := hs_4.adds hp_2
      refine .m rfl rfl <| .e rfl (.extract rfl rfl) <| .e rfl (.extract rfl rfl) <| .s rfl rfl <| .s rfl rfl <| .nil <| .seq <| .region <| .m rfl rfl <| .f rfl (.call ent9 rfl ((pp_g s _ (by omega) (hgv.sat hs_5) hg).mono fun r_3 w_5 h_3 => ?_))
      obtain ⟨xav_1, xpv_1, ql_1, hqe_1, hql_1, hal_1, hqd_1, rfl, hp_3⟩ := h_3
      have hs_6 : Sat w [_, cL xav_1 70 (encAt) (al2), cL xpv_1 72 (encPc) (ql_1), cPcs 9 (ql_1)] _ := hs_5.adds hp_3
      refine .m rfl rfl <| .e rfl (.extract rfl rfl) <| .e rfl (.extract rfl rfl) <| .f rfl (.alloc hs_6 zero27 fun b_2 w_6 hs_7 hch_2 hb_2 => ?_)
      refine .f rfl (.storeObjA (vs := [xav_1, (.int .i64 (nx2)), (.int .i64 (jr2)), xpv_1, (.slice none 0 0)]) agg27 hs_7 (i := 4) rfl rfl rfl rfl (fun v h => by simp only [List.mem_cons, List.not_mem_nil, or_false] at h; rcases h with rfl | rfl | rfl | rfl | rfl; exact (hs_7.rdL 1 rfl).oneCell; exact rfl; exact rfl; exact (hs_7.rdL 2 rfl).oneCell; exact rfl) fun w_7 hs_8 hch_3 => ?_)
      refine .s rfl rfl <| .nil <| .seq <| .region <| .m rfl rfl <| .f rfl (.call ent13 rfl ((rp_g s _ (by omega) hg).mono fun r_4 w_8 h_4 => ?_))
      obtain ⟨xav_2, xpv_2, ql_2, hqe_2, hql_2, hal_2, hqd_2, rfl, hp_4⟩ := h_4
      have hs_9 : Sat w [_, _, _, _, _, cL xav_2 70 (encAt) (al2), cL xpv_2 72 (encPc) (ql_2), cPcs 9 (ql_2)] _ := hs_8.adds hp_4
      refine .m rfl rfl <| .e rfl (.extract rfl rfl) <| .e rfl (.extract rfl rfl) <| .f rfl (.alloc hs_9 zero27 fun b_3 w_9 hs_10 hch_4 hb_3 => ?_)
      refine .f rfl (.storeObjA (vs := [xav_2, (.int .i64 (nx2)), (.int .i64 (jr2)), xpv_2, (.slice none 0 0)]) agg27 hs_10 (i := 8) rfl rfl rfl rfl (fun v h => by simp only [List.mem_cons, List.not_mem_nil, or_false] at h; rcases h with rfl | rfl | rfl | rfl | rfl; exact (hs_10.rdL 5 rfl).oneCell; exact rfl; exact rfl; exact (hs_10.rdL 6 rfl).oneCell; exact rfl) fun w_10 hs_11 hch_5 => ?_)
      refine .s rfl rfl <| .nil <| .seq <| .region <| .m rfl rfl <| .m rfl rfl <| .e rfl (.strEql rfl rfl) <| .m rfl rfl <| .yes rfl rfl rfl (decide_eq_true rfl) <| .m rfl rfl <| .yes rfl rfl rfl (decide_eq_true rfl) <| .m rfl rfl <| .yes rfl rfl rfl (decide_eq_true rfl) <| .e rfl (.eqlN rfl rfl) <| .e rfl (.pickY rfl (decide_eq_true rfl) rfl) <| .m rfl rfl <| .yes rfl rfl rfl (decide_eq_true rfl) <| .m rfl rfl <| .yes rfl rfl rfl (decide_eq_true rfl) <| .m rfl rfl <| .yes rfl rfl rfl (decide_eq_true rfl) <| .e rfl (.eqlN (a := 0) (b := 0) rfl rfl) <| .e rfl (.pickY rfl (decide_eq_true rfl) rfl) <| .m rfl rfl <| .yes rfl rfl rfl (rfl) <| .e rfl (.ldObj agg27 rfl hs_11 (i := 4) rfl rfl) <| .yes rfl rfl rfl (rfl) <| .e rfl (.ldObj agg27 rfl hs_11 (i := 8) rfl rfl) <| .yes rfl rfl rfl (rfl) <| .f rfl (.call ent10 rfl ((sameSt_n _ _ _ _ al2 nx2 jr2 ql_1 ql_2 _ (hs_11.rdL 1 rfl) (hs_11.rdL 5 rfl) (by omega) (hs_11.rdL 2 rfl) (hs_11.rdL 6 rfl) (by omega) (hqe_1.trans hqe_2.symm) (hs_11.rdPcs 3 rfl) (hs_11.rdPcs 7 rfl) (fun p hp => by have := hqd_1 p hp; omega)).mono fun r_5 w_11 h_5 => ?_))
      obtain ⟨rfl, hp_5⟩ := h_5
      have hs_12 : Sat w [_, _, _, _, _, _, _, _, _] _ := hs_11.adds hp_5
      refine .e rfl (.pickY rfl (rfl) rfl) <| .m rfl rfl <| .yes rfl rfl rfl (rfl) <| .f rfl (.call ent12 rfl ((known_n _ (hgv.sat hs_12)).mono fun r_6 w_12 h_6 => ?_))
      obtain ⟨rfl, hp_6⟩ := h_6
      have hs_13 := hs_12.adds hp_6
      refine .e rfl (.pickY rfl (rfl) rfl) <| .s rfl rfl <| .nil <| .ret ?_
      show PostK _ _ _ _ _ _
      refine post1 rfl rfl ?_
      have hs_14 : Sat w [] w_12 := hs_13.sub ((.cons _ (.cons _ (.cons _ (.cons _ (.cons _ (.cons _ (.cons _ (.cons _ (.cons _ .slnil))))))))))
      exact ⟨rfl, hs_14⟩
set_option maxHeartbeats 1000000 in
theorem law_b (av pv rv : Value) (al : List (ByteArray × Bool)) (nx jr : Int) (pl : List Pc) (s : ByteArray) (w : World) (ha : RdL w av encAt al) (hp : RdL w pv encPc pl) (hrow : ∀ p ∈ pl, RdL w p.sv.val encTx p.ns) (hdl : ∀ p ∈ pl, p.ns.length ≤ 9223372036854775807) (hrv : rv.oneCell' = true) (hgv : GV Tryz.prog 0 w) (hb : ∀ al nx jr ps, ¬ goodM s al nx jr ps) :
    CallsV Tryz.prog 4 [(.agg #[av, (.int .i64 (nx)), (.int .i64 (jr)), pv, rv]), (.string s)] w fun r w' => r = .bool true ∧ Sat w [] w' := by
  have hs0 := Sat.start w
  refine callsV_of Tryz.func4 rfl rfl ?_
  refine .seq <| .region <| .f rfl (.box hs0 rfl fun b_1 w_1 hs_1 hch_1 hb_1 => ?_)
  refine .s rfl rfl <| .nil <| .seq <| .seq <| .mid (fun L' w' => Weak [(0, (.agg #[av, (.int .i64 (nx)), (.int .i64 (jr)), pv, rv])), (1, (.string s)), (2, (.pointer (some ⟨b_1, 0, none⟩))), (4, (.bool false)), (27, (.bool (decide (((9 < al.length) ∨ (18 < pl.length)) ∨ (300 < s.size)))))] L' ∧ Sat w [cObj b_1 27 [av, (.int .i64 (nx)), (.int .i64 (jr)), pv, rv]] w') ?_ ?_
  · refine .region <| .e rfl (.fieldAddr fld27_0 rfl rfl) <| .e rfl (.load scal23 rfl (hs_1.cell (i := 0) (j := 0) rfl rfl)) <| .e rfl (.lenL Tryz.underlying23 rfl (ha.ext hs_1.ext)) <| .e rfl (.gtrN (b := 9) rfl rfl) <| .m rfl rfl ?_
    by_cases hg_1 : 9 < al.length
    · refine .no rfl rfl rfl (decide_eq_true hg_1) rfl <| .no rfl rfl rfl (decide_eq_true hg_1) rfl <| .no rfl rfl rfl (decide_eq_true hg_1) rfl <| .no rfl rfl rfl (decide_eq_true hg_1) rfl <| .e rfl (.pickY rfl (decide_eq_true hg_1) rfl) <| .m rfl rfl <| .no rfl rfl rfl (rfl) rfl <| .no rfl rfl rfl (rfl) rfl <| .no rfl rfl rfl (rfl) rfl <| .e rfl (.pickY rfl (rfl) rfl) <| .nil ?_
      exact ⟨⟨rfl, rfl, rfl, rfl, congrArg some (congrArg Value.bool (by simp [hg_1])), trivial⟩, hs_1⟩
    · refine .yes rfl rfl rfl (decide_eq_false hg_1) <| .e rfl (.fieldAddr fld27_3 rfl rfl) <| .yes rfl rfl rfl (decide_eq_false hg_1) <| .e rfl (.load scal24 rfl (hs_1.cell (i := 0) (j := 3) rfl rfl)) <| .yes rfl rfl rfl (decide_eq_false hg_1) <| .e rfl (.lenL Tryz.underlying24 rfl (hp.ext hs_1.ext)) <| .yes rfl rfl rfl (decide_eq_false hg_1) <| .e rfl (.gtrN (b := 18) rfl rfl) <| .e rfl (.pickN rfl (decide_eq_false hg_1) rfl) <| .m rfl rfl ?_
      by_cases hg_2 : 18 < pl.length
      · refine .no rfl rfl rfl (decide_eq_true hg_2) rfl <| .no rfl rfl rfl (decide_eq_true hg_2) rfl <| .no rfl rfl rfl (decide_eq_true hg_2) rfl <| .e rfl (.pickY rfl (decide_eq_true hg_2) rfl) <| .nil ?_
        exact ⟨⟨rfl, rfl, rfl, rfl, congrArg some (congrArg Value.bool (by simp [hg_1, hg_2])), trivial⟩, hs_1⟩
      · refine .yes rfl rfl rfl (decide_eq_false hg_2) <| .m rfl rfl <| .yes rfl rfl rfl (decide_eq_false hg_2) <| .e rfl (.lenStr Tryz.underlying9 rfl) <| .yes rfl rfl rfl (decide_eq_false hg_2) <| .e rfl (.gtrN (b := 300) rfl rfl) <| .e rfl (.pickN rfl (decide_eq_false hg_2) rfl) <| .nil ?_
        exact ⟨⟨rfl, rfl, rfl, rfl, congrArg some (congrArg Value.bool (by simp [hg_1, hg_2])), trivial⟩, hs_1⟩
  · rintro L' w_2 ⟨hw_1, hs_2⟩
    refine .weaken _ hw_1 <| .condD rfl (fun hc_1 => ?_) (fun hc_1 => ?_)
    · refine .seq <| .region <| .s rfl rfl <| .nil <| .ret ?_
      show PostK _ _ _ _ _ _
      refine post1 rfl rfl ?_
      have hs_3 : Sat w [] w_2 := hs_2.sub ((.cons _ .slnil))
      exact ⟨rfl, hs_3⟩
    · refine .skip <| .seq <| .region <| .e rfl (.ldObj agg27 rfl hs_2 (i := 0) rfl rfl) <| .f rfl (.call ent7 rfl ((manifest_o av pv rv (al) (nx) (jr) (pl) _ (ha.ext hs_2.ext) (by omega) (hp.ext hs_2.ext) (by omega) (fun p hp9 => (hrow p hp9).ext hs_2.ext) hdl hrv (hgv.sat hs_2)).mono fun r_1 w_3 h_1 => ?_))
      obtain ⟨rfl, hp_1⟩ := h_1
      have hs_4 := hs_2.adds hp_1
      refine .m rfl rfl <| .e rfl (.extract rfl rfl) <| .e rfl (.extract rfl rfl) <| .s rfl rfl <| .s rfl rfl <| .nil <| .seq <| .region <| .e rfl (.ldObj agg27 rfl hs_4 (i := 0) rfl rfl) <| .f rfl (.call ent8 rfl ((rmanifest_o av pv rv (al) (nx) (jr) (pl) _ (ha.ext hs_4.ext) (by omega) (hp.ext hs_4.ext) (by omega) (fun p hp9 => (hrow p hp9).ext hs_4.ext) hdl hrv).mono fun r_2 w_4 h_2 => ?_))
      obtain ⟨rfl, hp_2⟩ := h_2
      have hs_5 := hs_4.adds hp_2
      refine .m rfl rfl <| .e rfl (.extract rfl rfl) <| .e rfl (.extract rfl rfl) <| .s rfl rfl <| .s rfl rfl <| .nil <| .seq <| .region <| .m rfl rfl <| .f rfl (.call ent9 rfl ((pp_b s _ (by omega) (hgv.sat hs_5) hb).mono fun r_3 w_5 h_3 => ?_))
      obtain ⟨rfl, hp_3⟩ := h_3
      have hs_6 : Sat w [_] _ := hs_5.adds hp_3
      refine .m rfl rfl <| .e rfl (.extract rfl rfl) <| .e rfl (.extract rfl rfl) <| .f rfl (.alloc hs_6 zero27 fun b_2 w_6 hs_7 hch_2 hb_2 => ?_)
      refine .f rfl (.storeObjA (vs := [(.slice none 0 0), (.int .i64 (0 : Nat)), (.int .i64 (0 : Nat)), (.slice none 0 0), (.slice none 0 0)]) agg27 hs_7 (i := 1) rfl rfl rfl rfl (fun v h => by simp only [List.mem_cons, List.not_mem_nil, or_false] at h; rcases h with rfl | rfl | rfl | rfl | rfl; exact rfl; exact rfl; exact rfl; exact rfl; exact rfl) fun w_7 hs_8 hch_3 => ?_)
      refine .s rfl rfl <| .nil <| .seq <| .region <| .m rfl rfl <| .f rfl (.call ent13 rfl ((rp_b s _ (by omega) hb).mono fun r_4 w_8 h_4 => ?_))
      obtain ⟨rfl, hp_4⟩ := h_4
      have hs_9 : Sat w [_, _] _ := hs_8.adds hp_4
      refine .m rfl rfl <| .e rfl (.extract rfl rfl) <| .e rfl (.extract rfl rfl) <| .f rfl (.alloc hs_9 zero27 fun b_3 w_9 hs_10 hch_4 hb_3 => ?_)
      refine .f rfl (.storeObjA (vs := [(.slice none 0 0), (.int .i64 (0 : Nat)), (.int .i64 (0 : Nat)), (.slice none 0 0), (.slice none 0 0)]) agg27 hs_10 (i := 2) rfl rfl rfl rfl (fun v h => by simp only [List.mem_cons, List.not_mem_nil, or_false] at h; rcases h with rfl | rfl | rfl | rfl | rfl; exact rfl; exact rfl; exact rfl; exact rfl; exact rfl) fun w_10 hs_11 hch_5 => ?_)
      refine .s rfl rfl <| .nil <| .seq <| .region <| .m rfl rfl <| .m rfl rfl <| .e rfl (.strEql rfl rfl) <| .m rfl rfl <| .yes rfl rfl rfl (decide_eq_true rfl) <| .m rfl rfl <| .yes rfl rfl rfl (decide_eq_true rfl) <| .m rfl rfl <| .yes rfl rfl rfl (decide_eq_true rfl) <| .e rfl (.eqlN rfl rfl) <| .e rfl (.pickY rfl (decide_eq_true rfl) rfl) <| .m rfl rfl <| .yes rfl rfl rfl (decide_eq_true rfl) <| .m rfl rfl <| .yes rfl rfl rfl (decide_eq_true rfl) <| .m rfl rfl <| .yes rfl rfl rfl (decide_eq_true rfl) <| .e rfl (.eqlN (a := 9) (b := 9) rfl rfl) <| .e rfl (.pickY rfl (decide_eq_true rfl) rfl) <| .m rfl rfl <| .yes rfl rfl rfl (rfl) <| .e rfl (.ldObj agg27 rfl hs_11 (i := 1) rfl rfl) <| .yes rfl rfl rfl (rfl) <| .e rfl (.ldObj agg27 rfl hs_11 (i := 2) rfl rfl) <| .yes rfl rfl rfl (rfl) <| .f rfl (.call ent10 rfl ((sameSt_n _ _ _ _ [] _ _ [] [] _ (RdL.nil _ _) (RdL.nil _ _) (by simp) (RdL.nil _ _) (RdL.nil _ _) (by simp) rfl (fun p hp => absurd hp (by simp)) (fun p hp => absurd hp (by simp)) (fun p hp => absurd hp (by simp))).mono fun r_5 w_11 h_5 => ?_))
      obtain ⟨rfl, hp_5⟩ := h_5
      have hs_12 : Sat w [_, _, _] _ := hs_11.adds hp_5
      refine .e rfl (.pickY rfl (rfl) rfl) <| .m rfl rfl <| .yes rfl rfl rfl (rfl) <| .f rfl (.call ent12 rfl ((known_n _ (hgv.sat hs_12)).mono fun r_6 w_12 h_6 => ?_))
      obtain ⟨rfl, hp_6⟩ := h_6
      have hs_13 := hs_12.adds hp_6
      refine .e rfl (.pickY rfl (rfl) rfl) <| .s rfl rfl <| .nil <| .ret ?_
      show PostK _ _ _ _ _ _
      refine post1 rfl rfl ?_
      have hs_14 : Sat w [] w_12 := hs_13.sub ((.cons _ (.cons _ (.cons _ .slnil))))
      exact ⟨rfl, hs_14⟩
theorem storeManifestsRaw_ok (av pv rv : Value) (al : List (ByteArray × Bool)) (nx jr : Int) (pl : List Pc) (s : ByteArray) (w : World) (ha : RdL w av encAt al) (hp : RdL w pv encPc pl) (hrow : ∀ p ∈ pl, RdL w p.sv.val encTx p.ns) (hdl : ∀ p ∈ pl, p.ns.length ≤ 9223372036854775807) (hrv : rv.oneCell' = true) (hgv : GV Tryz.prog 0 w) : CallsV Tryz.prog 4 [(.agg #[av, (.int .i64 (nx)), (.int .i64 (jr)), pv, rv]), .string s] w fun r w' => r = .bool true ∧ Sat w [] w' := by
  by_cases h : ∃ al nx jr ps, goodM s al nx jr ps
  · obtain ⟨al2, nx2, jr2, ps2, hg⟩ := h
    exact law_g av pv rv al nx jr pl s w ha hp hrow hdl hrv hgv hg
  · exact law_b av pv rv al nx jr pl s w ha hp hrow hdl hrv hgv fun al nx jr ps hg => h ⟨al, nx, jr, ps, hg⟩
end Go.Proofs.YtecfgjdpghddgaaGreatDoor
