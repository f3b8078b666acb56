/- The walks of the functions of F13g, printed by our own program (kwgen.py) out of our descriptions (base.py). -/
import Derived.Test.YtfhbflhnelbkfaaF13c
import Derived.Test.YtfhbflhnelbkfaaKa
import Derived.Test.YtfhbflhnelbkfaaTab
namespace Go.Proofs.Ytfhbflhnelbkfaa
open Go.RowKit Go.Kw
set_option maxRecDepth 100000
set_option linter.unusedVariables false
set_option linter.unusedSimpArgs false
def allN : List ByteArray → List Nat → List ByteArray
  | x :: W, c :: C => List.replicate c x ++ allN W C
  | _, _ => []
theorem allN_snoc {x : ByteArray} {c : Nat} : ∀ {W : List ByteArray} {C : List Nat} {k : Nat}, W[k]? = some x → C[k]? = some c → allN (W.take (k + 1)) (C.take (k + 1)) = allN (W.take k) (C.take k) ++ List.replicate c x
  | [], _, _, h, _ => by simp at h
  | _ :: _, [], _, _, h => by simp at h
  | y :: W, d :: C, 0, hx, hc => by
    simp at hx hc
    subst hx; subst hc
    simp [allN]
  | y :: W, d :: C, k + 1, hx, hc => by
    have := allN_snoc (W := W) (C := C) (k := k) (by simpa using hx) (by simpa using hc)
    simp only [List.take_succ_cons, allN, this, List.append_assoc]
theorem allN_length : ∀ {W : List ByteArray} {C : List Nat}, C.length = W.length → (allN W C).length = C.sum
  | [], [], _ => rfl
  | [], _ :: _, h => by simp at h
  | _ :: _, [], h => by simp at h
  | y :: W, d :: C, h => by
    simp only [allN, List.length_append, List.length_replicate, List.sum_cons, allN_length (W := W) (C := C) (by simpa using h)]
theorem allN_mem {x : ByteArray} : ∀ {W : List ByteArray} {C : List Nat}, C.length = W.length → (∀ c ∈ C, 1 ≤ c) → x ∈ W → x ∈ allN W C
  | [], _, _, _, h => by cases h
  | _ :: _, [], h, _, _ => by simp at h
  | y :: W, d :: C, hl, h1, hx => by
    simp only [allN, List.mem_append]
    rcases List.mem_cons.1 hx with rfl | hx
    · have := h1 d (List.mem_cons_self ..)
      exact .inl (List.mem_replicate.2 ⟨by omega, rfl⟩)
    · exact .inr (allN_mem (by simpa using hl) (fun c hc => h1 c (List.mem_cons_of_mem _ hc)) hx)
theorem allN_take_length {W : List ByteArray} {C : List Nat} {k : Nat} (h : C.length = W.length) : (allN (W.take k) (C.take k)).length = (C.take k).sum := allN_length (by simp [h])

theorem all_ok (g : Nat) (vw vc vo : Value) (W : List ByteArray) (C O : List Nat) (w : World) (h : LexAt w g vw vc vo W C O) (hCl : C.length = W.length) (hsum : C.sum ≤ 1000000) (hn : W.length ≤ 1000000) :
    CallsV Try.prog 81 [(Value.pointer (some ⟨g, 0, none⟩))] w fun r w' => Sat w [cL r 9 encTx (allN W C)] w' := by
  have hs0 := Sat.start w
  refine callsV_of Try.func81 rfl rfl ?_
  refine CW.seq ?_
  refine CW.region ?_
  refine RT.ev rfl rfl (Ev.assign rfl) ?_
  refine RT.nil ?_
  refine CW.seq ?_
  refine CW.region ?_
  refine RT.ev rfl rfl (Ev.assign rfl) ?_
  refine RT.nil ?_
  refine CW.seq ?_
  refine CW.seq ?_
  have hs_1 : Sat w [cL (Value.slice none 0 0) 9 (encTx) ([])] _ := hs0.newNilL 9 (encTx)
  refine CW.region ?_
  refine RT.ev rfl rfl (Ev.move rfl) ?_
  refine RT.ev rfl rfl (Ev.nilCheck rfl) ?_
  refine RT.ev rfl rfl (Ev.fieldAddr fld92_0 rfl rfl) ?_
  refine RT.ev rfl rfl (Ev.load scal45 rfl (hs_1.ext _ _ h.c0)) ?_
  refine RT.ev rfl rfl (Ev.lenL Try.underlying45 rfl (h.hW.ext hs_1.ext)) ?_
  refine RT.ev rfl rfl (Ev.move rfl) ?_
  refine RT.nil ?_
  refine CW.block ?_
  have hs_2 : Sat w [cL (Value.slice none 0 0) 9 (encTx) (allN (W.take 0) (C.take 0))] w := hs_1.reL 0 rfl (show [] = allN (W.take 0) (C.take 0) from rfl)
  refine CW.loop (α := Nat × Value) (fun (k, v) => [(0, (Value.pointer (some ⟨g, 0, none⟩))), (3, v), (9, vw), (10, (Value.int .i64 ((W.length : Nat) : Int))), (11, (Value.int .i64 ((k : Nat) : Int)))]) (fun (k, v) w' => Sat w [cL v 9 (encTx) (allN (W.take k) (C.take k))] w' ∧ (k ≤ W.length)) (fun (k, v) => W.length - k) (0, (Value.slice none 0 0)) ⟨rfl, rfl, rfl, rfl, rfl, trivial⟩ ⟨hs_2, Nat.zero_le _⟩ ?_
  rintro ⟨k, v⟩ w_1 ⟨hs_3, hk⟩
  show CW _ _ _ _ [(0, (Value.pointer (some ⟨g, 0, none⟩))), (3, v), (9, vw), (10, (Value.int .i64 ((W.length : Nat) : Int))), (11, (Value.int .i64 ((k : Nat) : Int)))] _
  refine CW.seq ?_
  refine CW.region ?_
  refine RT.ev rfl rfl (Ev.lssN rfl rfl) ?_
  refine RT.nil ?_
  refine CW.seq ?_
  refine CW.condD rfl (fun hc_1 => ?_) (fun hc_1 => ?_)
  · refine CW.skip ?_
    refine CW.seq ?_
    refine CW.block ?_
    refine CW.seq ?_
    obtain ⟨x, hx⟩ : ∃ x, (W)[k]? = some x := ⟨_, List.getElem?_eq_getElem hc_1⟩
    obtain ⟨c, hcc⟩ : ∃ c, (C)[k]? = some c := ⟨_, List.getElem?_eq_getElem (by omega)⟩
    have hal := allN_take_length (k := k) hCl
    have hsl := sum_take_le (C) (k + 1)
    rw [sum_take_snoc hcc] at hsl
    have hsn := allN_snoc hx hcc
    refine CW.region ?_
    refine RT.ev rfl rfl (Ev.move rfl) ?_
    refine RT.ev rfl rfl (Ev.idxL (E := encTx) sl45 rfl rfl (h.hW.ext hs_3.ext) (by omega)) ?_
    refine RT.ev rfl rfl (Ev.ldL (E := encTx) scal9 rfl (h.hW.ext hs_3.ext) hx (by decide) rfl) ?_
    refine RT.ev rfl rfl (Ev.assign rfl) ?_
    refine RT.ev rfl rfl (Ev.assign rfl) ?_
    refine RT.nil ?_
    refine CW.seq ?_
    refine CW.region ?_
    refine RT.ev rfl rfl (Ev.move rfl) ?_
    refine RT.ev rfl rfl (Ev.nilCheck rfl) ?_
    refine RT.ev rfl rfl (Ev.fieldAddr fld92_1 rfl rfl) ?_
    refine RT.ev rfl rfl (Ev.load scal22 rfl (hs_3.ext _ _ h.c1)) ?_
    refine RT.ev rfl rfl (Ev.move rfl) ?_
    refine RT.ev rfl rfl (Ev.idxL (E := encN .i64) sl22 rfl rfl (h.hC.ext hs_3.ext) (by omega)) ?_
    refine RT.ev rfl rfl (Ev.ldL (E := encN .i64) scal3 rfl (h.hC.ext hs_3.ext) hcc (by decide) rfl) ?_
    refine RT.ev rfl rfl (Ev.move rfl) ?_
    refine RT.nil ?_
    refine CW.block ?_
    have hs_4 : Sat w [cL v 9 (encTx) (allN (W.take k) (C.take k) ++ List.replicate 0 x)] w_1 := hs_3.reL 0 rfl (show allN (W.take k) (C.take k) = allN (W.take k) (C.take k) ++ List.replicate 0 x from by simp)
    refine CW.loop (α := Nat × Value) (fun (j, v2) => [(0, (Value.pointer (some ⟨g, 0, none⟩))), (3, v2), (5, (Value.string x)), (9, vw), (10, (Value.int .i64 ((W.length : Nat) : Int))), (11, (Value.int .i64 ((k : Nat) : Int))), (22, (Value.int .i64 ((c : Nat) : Int))), (23, (Value.int .i64 ((j : Nat) : Int)))]) (fun (j, v2) w' => Sat w [cL v2 9 (encTx) (allN (W.take k) (C.take k) ++ List.replicate j x)] w' ∧ (j ≤ c)) (fun (j, v2) => c - j) (0, v) ⟨rfl, rfl, rfl, rfl, rfl, rfl, rfl, rfl, trivial⟩ ⟨hs_4, Nat.zero_le _⟩ ?_
    rintro ⟨j, v2⟩ w_2 ⟨hs_5, hj⟩
    show CW _ _ _ _ [(0, (Value.pointer (some ⟨g, 0, none⟩))), (3, v2), (5, (Value.string x)), (9, vw), (10, (Value.int .i64 ((W.length : Nat) : Int))), (11, (Value.int .i64 ((k : Nat) : Int))), (22, (Value.int .i64 ((c : Nat) : Int))), (23, (Value.int .i64 ((j : Nat) : Int)))] _
    refine CW.seq ?_
    refine CW.region ?_
    refine RT.ev rfl rfl (Ev.lssN rfl rfl) ?_
    refine RT.nil ?_
    refine CW.seq ?_
    refine CW.condD rfl (fun hc_2 => ?_) (fun hc_2 => ?_)
    · refine CW.skip ?_
      refine CW.seq ?_
      refine CW.block ?_
      refine CW.region ?_
      refine RT.ev rfl rfl (Ev.move rfl) ?_
      refine RT.ev rfl rfl (Ev.move rfl) ?_
      refine RT.eff rfl rfl (OpE.lit1 (encTx) x sl45 rfl hs_5 rfl fun v_1 w_3 hs_6 hch_1 => ?_)
      have hs_6d : Sat w [cL v2 9 (encTx) (allN (W.take k) (C.take k) ++ List.replicate j x), cL v_1 9 (encTx) ([x])] _ := hs_6
      refine RT.eff rfl rfl (OpE.appendL 0 sl45 hs_6d rfl rfl rfl Try.underlying45 (hs_6d.rdL 1 rfl) (by simp only [List.length_append, List.length_replicate, List.length_cons, List.length_nil]; omega) (by simp only [List.length_append, List.length_replicate, List.length_cons, List.length_nil]; omega) fun v_2 w_4 hs_7 hch_2 => ?_)
      have hs_7d : Sat w [cL v_2 9 (encTx) (allN (W.take k) (C.take k) ++ List.replicate j x ++ [x])] _ := hs_7.drop 1
      refine RT.ev rfl rfl (Ev.assign rfl) ?_
      refine RT.nil ?_
      refine CW.region ?_
      refine RT.ev rfl rfl (Ev.addI (b := 1) rfl rfl (by omega)) ?_
      refine RT.ev rfl rfl (Ev.move rfl) ?_
      refine RT.nil ?_
      have hs_8 : Sat w [cL v_2 9 (encTx) (allN (W.take k) (C.take k) ++ List.replicate (j + 1) x)] w_4 := hs_7d.reL 0 rfl (show allN (W.take k) (C.take k) ++ List.replicate j x ++ [x] = allN (W.take k) (C.take k) ++ List.replicate (j + 1) x from by rw [List.replicate_succ', List.append_assoc])
      exact ⟨(j + 1, v_2), ⟨rfl, rfl, rfl, rfl, rfl, rfl, rfl, rfl, trivial⟩, ⟨hs_8, by omega⟩, (show (c - (j + 1)) < (c - j) from by omega)⟩
    · refine CW.exit0 ?_
      refine CW.region ?_
      refine RT.ev rfl rfl (Ev.addI (b := 1) rfl rfl (by omega)) ?_
      refine RT.ev rfl rfl (Ev.move rfl) ?_
      refine RT.nil ?_
      have hs_9 : Sat w [cL v2 9 (encTx) (allN (W.take (k + 1)) (C.take (k + 1)))] w_2 := hs_5.reL 0 rfl (show allN (W.take k) (C.take k) ++ List.replicate j x = allN (W.take (k + 1)) (C.take (k + 1)) from by rw [hsn, show j = c by omega])
      exact ⟨(k + 1, v2), ⟨rfl, rfl, rfl, rfl, rfl, trivial⟩, ⟨hs_9, by omega⟩, (show (W.length - (k + 1)) < (W.length - k) from by omega)⟩
  · refine CW.exit0 ?_
    refine CW.seq ?_
    refine CW.region ?_
    refine RT.ev rfl rfl (Ev.move rfl) ?_
    refine RT.ev rfl rfl (Ev.assign rfl) ?_
    refine RT.nil ?_
    refine CW.ret ?_
    show PostK _ _ _ _ _ _
    refine post1 rfl rfl ?_
    have hs_10 : Sat w [cL v 9 (encTx) (allN W C)] w_1 := hs_3.reL 0 rfl (show allN (W.take k) (C.take k) = allN W C from by rw [show k = W.length by omega, List.take_length, ← hCl, List.take_length])
    exact hs_10

theorem numbersOf_ok (g : Nat) (vw vc vo : Value) (W : List ByteArray) (C O : List Nat) (g2 : Nat) (vw2 vc2 vo2 : Value) (W2 : List ByteArray) (C2 O2 : List Nat) (w : World) (h : LexAt w g vw vc vo W C O) (h2 : LexAt w g2 vw2 vc2 vo2 W2 C2 O2) (hasc : Asc W) (hn : W.length ≤ 1000000) (hn2 : W2.length ≤ 1000000) :
    CallsV Try.prog 82 [(Value.pointer (some ⟨g, 0, none⟩)), (Value.pointer (some ⟨g2, 0, none⟩))] w fun r w' => Sat w [cL r 3 (encN .i64) (W2.map fun y => (numN W y).1)] w' := by
  have hs0 := Sat.start w
  refine callsV_of Try.func82 rfl rfl ?_
  refine CW.seq ?_
  refine CW.region ?_
  refine RT.ev rfl rfl (Ev.assign rfl) ?_
  refine RT.nil ?_
  refine CW.seq ?_
  refine CW.region ?_
  refine RT.ev rfl rfl (Ev.assign rfl) ?_
  refine RT.nil ?_
  refine CW.seq ?_
  refine CW.seq ?_
  have hs_1 : Sat w [cL (Value.slice none 0 0) 3 (encN .i64) ([])] _ := hs0.newNilL 3 (encN .i64)
  refine CW.region ?_
  refine RT.ev rfl rfl (Ev.move rfl) ?_
  refine RT.ev rfl rfl (Ev.nilCheck rfl) ?_
  refine RT.ev rfl rfl (Ev.fieldAddr fld92_0 rfl rfl) ?_
  refine RT.ev rfl rfl (Ev.load scal45 rfl (hs_1.ext _ _ h2.c0)) ?_
  refine RT.ev rfl rfl (Ev.lenL Try.underlying45 rfl (h2.hW.ext hs_1.ext)) ?_
  refine RT.ev rfl rfl (Ev.move rfl) ?_
  refine RT.nil ?_
  refine CW.block ?_
  have hs_2 : Sat w [cL (Value.slice none 0 0) 3 (encN .i64) (((W2.take 0).map fun y => (numN W y).1))] w := hs_1.reL 0 rfl (show [] = ((W2.take 0).map fun y => (numN W y).1) from rfl)
  refine CW.loop (α := Nat × Value) (fun (k, v) => [(0, (Value.pointer (some ⟨g, 0, none⟩))), (5, v), (13, vw2), (14, (Value.int .i64 ((W2.length : Nat) : Int))), (15, (Value.int .i64 ((k : Nat) : Int)))]) (fun (k, v) w' => Sat w [cL v 3 (encN .i64) (((W2.take k).map fun y => (numN W y).1))] w' ∧ (k ≤ W2.length)) (fun (k, v) => W2.length - k) (0, (Value.slice none 0 0)) ⟨rfl, rfl, rfl, rfl, rfl, trivial⟩ ⟨hs_2, Nat.zero_le _⟩ ?_
  rintro ⟨k, v⟩ w_1 ⟨hs_3, hk⟩
  show CW _ _ _ _ [(0, (Value.pointer (some ⟨g, 0, none⟩))), (5, v), (13, vw2), (14, (Value.int .i64 ((W2.length : Nat) : Int))), (15, (Value.int .i64 ((k : Nat) : Int)))] _
  refine CW.seq ?_
  refine CW.region ?_
  refine RT.ev rfl rfl (Ev.lssN rfl rfl) ?_
  refine RT.nil ?_
  refine CW.seq ?_
  refine CW.condD rfl (fun hc_1 => ?_) (fun hc_1 => ?_)
  · refine CW.skip ?_
    refine CW.seq ?_
    refine CW.block ?_
    refine CW.seq ?_
    obtain ⟨x, hx⟩ : ∃ x, (W2)[k]? = some x := ⟨_, List.getElem?_eq_getElem hc_1⟩
    refine CW.region ?_
    refine RT.ev rfl rfl (Ev.idxL (E := encTx) sl45 rfl rfl (h2.hW.ext hs_3.ext) (by omega)) ?_
    refine RT.ev rfl rfl (Ev.ldL (E := encTx) scal9 rfl (h2.hW.ext hs_3.ext) hx (by decide) rfl) ?_
    refine RT.ev rfl rfl (Ev.assign rfl) ?_
    refine RT.nil ?_
    refine CW.seq ?_
    refine CW.region ?_
    refine RT.ev rfl rfl (Ev.move rfl) ?_
    refine RT.ev rfl rfl (Ev.move rfl) ?_
    refine RT.eff rfl rfl (OpE.call ent37 rfl ((number_ok _ _ _ _ _ _ _ x _ (h.ext hs_3.ext) (hasc) (by omega)).mono fun r_1 w_2 h_1 => ?_))
    obtain ⟨rfl, hp_1⟩ := h_1
    have hs_4 : Sat w [cL v 3 (encN .i64) (((W2.take k).map fun y => (numN W y).1))] _ := hs_3.adds hp_1
    refine RT.ev rfl rfl (Ev.move rfl) ?_
    refine RT.ev rfl rfl (Ev.extract rfl rfl) ?_
    refine RT.ev rfl rfl (Ev.extract rfl rfl) ?_
    refine RT.ev rfl rfl (Ev.assign rfl) ?_
    refine RT.ev rfl rfl (Ev.assign rfl) ?_
    refine RT.nil ?_
    refine CW.region ?_
    refine RT.ev rfl rfl (Ev.move rfl) ?_
    refine RT.ev rfl rfl (Ev.move rfl) ?_
    refine RT.eff rfl rfl (OpE.lit1 (encN .i64) ((numN W x).1) sl22 rfl hs_4 rfl fun v_1 w_3 hs_5 hch_1 => ?_)
    have hs_5d : Sat w [cL v 3 (encN .i64) (((W2.take k).map fun y => (numN W y).1)), cL v_1 3 (encN .i64) ([(numN W x).1])] _ := hs_5
    refine RT.eff rfl rfl (OpE.appendL 0 sl22 hs_5d rfl rfl rfl Try.underlying22 (hs_5d.rdL 1 rfl) (by simp only [List.length_append, List.length_map, List.length_take, List.length_cons, List.length_nil]; omega) (by simp only [List.length_append, List.length_map, List.length_take, List.length_cons, List.length_nil]; omega) fun v_2 w_4 hs_6 hch_2 => ?_)
    have hs_6d : Sat w [cL v_2 3 (encN .i64) (((W2.take k).map fun y => (numN W y).1) ++ [(numN W x).1])] _ := hs_6.drop 1
    refine RT.ev rfl rfl (Ev.assign rfl) ?_
    refine RT.nil ?_
    refine CW.region ?_
    refine RT.ev rfl rfl (Ev.addI (b := 1) rfl rfl (by omega)) ?_
    refine RT.ev rfl rfl (Ev.move rfl) ?_
    refine RT.nil ?_
    have hs_7 : Sat w [cL v_2 3 (encN .i64) (((W2.take (k + 1)).map fun y => (numN W y).1))] w_4 := hs_6d.reL 0 rfl (show ((W2.take k).map fun y => (numN W y).1) ++ [(numN W x).1] = ((W2.take (k + 1)).map fun y => (numN W y).1) from by rw [take_snoc hx, List.map_append]; rfl)
    exact ⟨(k + 1, v_2), ⟨rfl, rfl, rfl, rfl, rfl, trivial⟩, ⟨hs_7, by omega⟩, (show (W2.length - (k + 1)) < (W2.length - k) from by omega)⟩
  · refine CW.exit0 ?_
    refine CW.seq ?_
    refine CW.region ?_
    refine RT.ev rfl rfl (Ev.move rfl) ?_
    refine RT.ev rfl rfl (Ev.assign rfl) ?_
    refine RT.nil ?_
    refine CW.ret ?_
    show PostK _ _ _ _ _ _
    refine post1 rfl rfl ?_
    have hs_8 : Sat w [cL v 3 (encN .i64) ((W2.map fun y => (numN W y).1))] w_1 := hs_3.reL 0 rfl (show ((W2.take k).map fun y => (numN W y).1) = (W2.map fun y => (numN W y).1) from by rw [show k = W2.length by omega, List.take_length])
    exact hs_8

theorem merge_err (g : Nat) (vw vc vo : Value) (W : List ByteArray) (C O : List Nat) (g2 : Nat) (vw2 vc2 vo2 : Value) (W2 : List ByteArray) (C2 O2 : List Nat) (w : World) (h : LexAt w g vw vc vo W C O) (h2 : LexAt w g2 vw2 vc2 vo2 W2 C2 O2) (hCl : C.length = W.length) (hCl2 : C2.length = W2.length) (hs1 : C.sum ≤ 1000000) (hs2 : C2.sum ≤ 1000000) (hn : W.length ≤ 1000000) (hn2 : W2.length ≤ 1000000) (he : bldE (allN W C ++ allN W2 C2) ≠ 0) :
    CallsV Try.prog 47 [(Value.pointer (some ⟨g, 0, none⟩)), (Value.pointer (some ⟨g2, 0, none⟩))] w fun r w' => r = .tuple #[.pointer none, .slice none 0 0, .slice none 0 0, .int .i64 ((bldE (allN W C ++ allN W2 C2) : Nat) : Int)] ∧ Sat w [] w' := by
  have hs0 := Sat.start w
  have hl1 := allN_length hCl
  have hl2 := allN_length hCl2
  have hcl9 : (C ++ C2).length = W.length + W2.length := by rw [List.length_append, hCl, hCl2]
  refine callsV_of Try.func47 rfl rfl ?_
  refine CW.seq ?_
  refine CW.region ?_
  refine RT.ev rfl rfl (Ev.assign rfl) ?_
  refine RT.ev rfl rfl (Ev.assign rfl) ?_
  refine RT.ev rfl rfl (Ev.assign rfl) ?_
  refine RT.ev rfl rfl (Ev.assign rfl) ?_
  refine RT.nil ?_
  refine CW.seq ?_
  refine CW.region ?_
  refine RT.ev rfl rfl (Ev.move rfl) ?_
  refine RT.eff rfl rfl (OpE.call ent81 rfl ((all_ok _ _ _ _ _ _ _ _ (h.ext hs0.ext) (hCl) (hs1) (hn)).mono fun r_1 w_1 h_1 => ?_))
  have hp_1 := h_1
  have hs_1 : Sat w [cL r_1 9 (encTx) (allN W C)] _ := hs0.adds hp_1
  refine RT.ev rfl rfl (Ev.move rfl) ?_
  refine RT.eff rfl rfl (OpE.call ent81 rfl ((all_ok _ _ _ _ _ _ _ _ (h2.ext hs_1.ext) (hCl2) (hs2) (hn2)).mono fun r_2 w_2 h_2 => ?_))
  have hp_2 := h_2
  have hs_2 : Sat w [cL r_1 9 (encTx) (allN W C), cL r_2 9 (encTx) (allN W2 C2)] _ := hs_1.adds hp_2
  refine RT.eff rfl rfl (OpE.appendL 0 sl45 hs_2 rfl rfl rfl Try.underlying45 (hs_2.rdL 1 rfl) (by omega) (by omega) fun v_1 w_3 hs_3 hch_1 => ?_)
  have hs_3d : Sat w [cL v_1 9 (encTx) (allN W C ++ allN W2 C2), cL r_2 9 (encTx) (allN W2 C2)] _ := hs_3
  refine RT.eff rfl rfl (OpE.call ent32 rfl ((lbuild_err (hs_3d.rdL 0 rfl) he).mono fun r_3 w_4 h_3 => ?_))
  obtain ⟨rfl, hp_3⟩ := h_3
  have hs_4 : Sat w [cL v_1 9 (encTx) (allN W C ++ allN W2 C2), cL r_2 9 (encTx) (allN W2 C2)] _ := hs_3d.adds hp_3
  refine RT.ev rfl rfl (Ev.move rfl) ?_
  refine RT.ev rfl rfl (Ev.extract rfl rfl) ?_
  refine RT.ev rfl rfl (Ev.extract rfl rfl) ?_
  refine RT.ev rfl rfl (Ev.extract rfl rfl) ?_
  refine RT.ev rfl rfl (Ev.assign rfl) ?_
  refine RT.ev rfl rfl (Ev.assign rfl) ?_
  refine RT.ev rfl rfl (Ev.assign rfl) ?_
  refine RT.nil ?_
  refine CW.seq ?_
  refine CW.seq ?_
  refine CW.region ?_
  refine RT.ev rfl rfl (Ev.move rfl) ?_
  refine RT.ev rfl rfl (Ev.neqN (b := 0) rfl rfl) ?_
  refine RT.nil ?_
  refine CW.condT rfl (decide_eq_true (fun h9 => he (by omega))) ?_
  refine CW.seq ?_
  refine CW.region ?_
  refine RT.ev rfl rfl (Ev.move rfl) ?_
  refine RT.ev rfl rfl (Ev.assign rfl) ?_
  refine RT.ev rfl rfl (Ev.assign rfl) ?_
  refine RT.ev rfl rfl (Ev.assign rfl) ?_
  refine RT.ev rfl rfl (Ev.assign rfl) ?_
  refine RT.nil ?_
  refine CW.ret ?_
  show PostK _ _ _ _ _ _
  refine post4 rfl rfl rfl rfl rfl ?_
  have hs_5 : Sat w [] w_4 := hs_4.sub ((.cons _ (.cons _ .slnil)))
  exact ⟨rfl, hs_5⟩

theorem merge_good (g : Nat) (vw vc vo : Value) (W : List ByteArray) (C O : List Nat) (g2 : Nat) (vw2 vc2 vo2 : Value) (W2 : List ByteArray) (C2 O2 : List Nat) (w : World) (h : LexAt w g vw vc vo W C O) (h2 : LexAt w g2 vw2 vc2 vo2 W2 C2 O2) (hCl : C.length = W.length) (hCl2 : C2.length = W2.length) (hs1 : C.sum ≤ 1000000) (hs2 : C2.sum ≤ 1000000) (hn : W.length ≤ 1000000) (hn2 : W2.length ≤ 1000000) (he : bldE (allN W C ++ allN W2 C2) = 0) :
    CallsV Try.prog 47 [(Value.pointer (some ⟨g, 0, none⟩)), (Value.pointer (some ⟨g2, 0, none⟩))] w fun r w' => ∃ g3 vw3 vc3 vo3 v1 v2, r = .tuple #[.pointer (some ⟨g3, 0, none⟩), v1, v2, .int .i64 0] ∧ Sat w [cObj g3 92 [vw3, vc3, vo3], cL vw3 9 encTx (wordsN (allN W C ++ allN W2 C2)), cL vc3 3 (encN .i64) (countsN (allN W C ++ allN W2 C2)), cL vo3 3 (encN .i64) (ordN (wordsN (allN W C ++ allN W2 C2))), cL v1 3 (encN .i64) (W.map fun y => (numN (wordsN (allN W C ++ allN W2 C2)) y).1), cL v2 3 (encN .i64) (W2.map fun y => (numN (wordsN (allN W C ++ allN W2 C2)) y).1)] w' := by
  have hs0 := Sat.start w
  have hl1 := allN_length hCl
  have hl2 := allN_length hCl2
  have hcl9 : (C ++ C2).length = W.length + W2.length := by rw [List.length_append, hCl, hCl2]
  refine callsV_of Try.func47 rfl rfl ?_
  refine CW.seq ?_
  refine CW.region ?_
  refine RT.ev rfl rfl (Ev.assign rfl) ?_
  refine RT.ev rfl rfl (Ev.assign rfl) ?_
  refine RT.ev rfl rfl (Ev.assign rfl) ?_
  refine RT.ev rfl rfl (Ev.assign rfl) ?_
  refine RT.nil ?_
  refine CW.seq ?_
  refine CW.region ?_
  refine RT.ev rfl rfl (Ev.move rfl) ?_
  refine RT.eff rfl rfl (OpE.call ent81 rfl ((all_ok _ _ _ _ _ _ _ _ (h.ext hs0.ext) (hCl) (hs1) (hn)).mono fun r_1 w_1 h_1 => ?_))
  have hp_1 := h_1
  have hs_1 : Sat w [cL r_1 9 (encTx) (allN W C)] _ := hs0.adds hp_1
  refine RT.ev rfl rfl (Ev.move rfl) ?_
  refine RT.eff rfl rfl (OpE.call ent81 rfl ((all_ok _ _ _ _ _ _ _ _ (h2.ext hs_1.ext) (hCl2) (hs2) (hn2)).mono fun r_2 w_2 h_2 => ?_))
  have hp_2 := h_2
  have hs_2 : Sat w [cL r_1 9 (encTx) (allN W C), cL r_2 9 (encTx) (allN W2 C2)] _ := hs_1.adds hp_2
  refine RT.eff rfl rfl (OpE.appendL 0 sl45 hs_2 rfl rfl rfl Try.underlying45 (hs_2.rdL 1 rfl) (by omega) (by omega) fun v_1 w_3 hs_3 hch_1 => ?_)
  have hs_3d : Sat w [cL v_1 9 (encTx) (allN W C ++ allN W2 C2), cL r_2 9 (encTx) (allN W2 C2)] _ := hs_3
  refine RT.eff rfl rfl (OpE.call ent32 rfl ((lbuild_good (hs_3d.rdL 0 rfl) he).mono fun r_3 w_4 h_3 => ?_))
  obtain ⟨lg_1, lvw_1, lvc_1, lvo_1, lvn_1, rfl, hp_3⟩ := h_3
  have hs_4 : Sat w [cL v_1 9 (encTx) (allN W C ++ allN W2 C2), cL r_2 9 (encTx) (allN W2 C2), cObj lg_1 92 [lvw_1, lvc_1, lvo_1], cL lvw_1 9 (encTx) (wordsN (allN W C ++ allN W2 C2)), cL lvc_1 3 (encN .i64) (countsN (allN W C ++ allN W2 C2)), cL lvo_1 3 (encN .i64) (ordN (wordsN (allN W C ++ allN W2 C2))), cL lvn_1 3 (encN .i64) ((allN W C ++ allN W2 C2).map (lbW (wordsN (allN W C ++ allN W2 C2))))] _ := hs_3d.adds hp_3
  refine RT.ev rfl rfl (Ev.move rfl) ?_
  refine RT.ev rfl rfl (Ev.extract rfl rfl) ?_
  refine RT.ev rfl rfl (Ev.extract rfl rfl) ?_
  refine RT.ev rfl rfl (Ev.extract rfl rfl) ?_
  refine RT.ev rfl rfl (Ev.assign rfl) ?_
  refine RT.ev rfl rfl (Ev.assign rfl) ?_
  refine RT.ev rfl rfl (Ev.assign rfl) ?_
  refine RT.nil ?_
  refine CW.seq ?_
  refine CW.seq ?_
  refine CW.region ?_
  refine RT.ev rfl rfl (Ev.move rfl) ?_
  refine RT.ev rfl rfl (Ev.neqN (a := 0) (b := 0) rfl rfl) ?_
  refine RT.nil ?_
  refine CW.condF rfl (rfl) ?_
  refine CW.skip ?_
  refine CW.seq ?_
  refine CW.region ?_
  refine RT.ev rfl rfl (Ev.move rfl) ?_
  refine RT.ev rfl rfl (Ev.move rfl) ?_
  refine RT.ev rfl rfl (Ev.move rfl) ?_
  refine RT.eff rfl rfl (OpE.call ent82 rfl ((numbersOf_ok _ _ _ _ _ _ _ _ _ _ _ _ _ _ _ (hs_4.lexAt 2 3 4 5 rfl rfl rfl rfl) (h.ext hs_4.ext) (wordsN_asc _) (bld_len he) (hn)).mono fun r_4 w_5 h_4 => ?_))
  have hp_4 := h_4
  have hs_5 : Sat w [cL v_1 9 (encTx) (allN W C ++ allN W2 C2), cL r_2 9 (encTx) (allN W2 C2), cObj lg_1 92 [lvw_1, lvc_1, lvo_1], cL lvw_1 9 (encTx) (wordsN (allN W C ++ allN W2 C2)), cL lvc_1 3 (encN .i64) (countsN (allN W C ++ allN W2 C2)), cL lvo_1 3 (encN .i64) (ordN (wordsN (allN W C ++ allN W2 C2))), cL lvn_1 3 (encN .i64) ((allN W C ++ allN W2 C2).map (lbW (wordsN (allN W C ++ allN W2 C2)))), cL r_4 3 (encN .i64) ((W.map fun y => (numN (wordsN (allN W C ++ allN W2 C2)) y).1))] _ := hs_4.adds hp_4
  refine RT.ev rfl rfl (Ev.move rfl) ?_
  refine RT.ev rfl rfl (Ev.move rfl) ?_
  refine RT.eff rfl rfl (OpE.call ent82 rfl ((numbersOf_ok _ _ _ _ _ _ _ _ _ _ _ _ _ _ _ (hs_5.lexAt 2 3 4 5 rfl rfl rfl rfl) (h2.ext hs_5.ext) (wordsN_asc _) (bld_len he) (hn2)).mono fun r_5 w_6 h_5 => ?_))
  have hp_5 := h_5
  have hs_6 : Sat w [cL v_1 9 (encTx) (allN W C ++ allN W2 C2), cL r_2 9 (encTx) (allN W2 C2), cObj lg_1 92 [lvw_1, lvc_1, lvo_1], cL lvw_1 9 (encTx) (wordsN (allN W C ++ allN W2 C2)), cL lvc_1 3 (encN .i64) (countsN (allN W C ++ allN W2 C2)), cL lvo_1 3 (encN .i64) (ordN (wordsN (allN W C ++ allN W2 C2))), cL lvn_1 3 (encN .i64) ((allN W C ++ allN W2 C2).map (lbW (wordsN (allN W C ++ allN W2 C2)))), cL r_4 3 (encN .i64) ((W.map fun y => (numN (wordsN (allN W C ++ allN W2 C2)) y).1)), cL r_5 3 (encN .i64) ((W2.map fun y => (numN (wordsN (allN W C ++ allN W2 C2)) y).1))] _ := hs_5.adds hp_5
  refine RT.ev rfl rfl (Ev.assign rfl) ?_
  refine RT.ev rfl rfl (Ev.assign rfl) ?_
  refine RT.ev rfl rfl (Ev.assign rfl) ?_
  refine RT.ev rfl rfl (Ev.assign rfl) ?_
  refine RT.nil ?_
  refine CW.ret ?_
  show PostK _ _ _ _ _ _
  refine post4 rfl rfl rfl rfl rfl ?_
  have hs_7 : Sat w [cObj lg_1 92 [lvw_1, lvc_1, lvo_1], cL lvw_1 9 (encTx) (wordsN (allN W C ++ allN W2 C2)), cL lvc_1 3 (encN .i64) (countsN (allN W C ++ allN W2 C2)), cL lvo_1 3 (encN .i64) (ordN (wordsN (allN W C ++ allN W2 C2))), cL r_4 3 (encN .i64) ((W.map fun y => (numN (wordsN (allN W C ++ allN W2 C2)) y).1)), cL r_5 3 (encN .i64) ((W2.map fun y => (numN (wordsN (allN W C ++ allN W2 C2)) y).1))] w_6 := hs_6.sub ((.cons _ (.cons _ (.cons_cons _ (.cons_cons _ (.cons_cons _ (.cons_cons _ (.cons _ (.cons_cons _ (.cons_cons _ .slnil))))))))))
  exact ⟨_, _, _, _, _, _, rfl, hs_7⟩

def mgA (W : List ByteArray) (C : List Nat) (W2 : List ByteArray) (C2 : List Nat) (k : Nat) : List ByteArray := if k = 0 then [] else if k = 1 then allN W C else allN W C ++ allN W2 C2

theorem rmerge_err (vw vc vw2 vc2 : Value) (W W2 : List ByteArray) (C C2 : List Nat) (w : World) (hv : RdL w vw encTx W) (hvc : RdL w vc (encN .i64) C) (hv2 : RdL w vw2 encTx W2) (hvc2 : RdL w vc2 (encN .i64) C2) (hCl : C.length = W.length) (hCl2 : C2.length = W2.length) (hs1 : C.sum ≤ 1000000) (hs2 : C2.sum ≤ 1000000) (hn : W.length ≤ 1000000) (hn2 : W2.length ≤ 1000000) (he : bldE (allN W C ++ allN W2 C2) ≠ 0) :
    CallsV Try.prog 48 [(Value.agg #[vw, vc]), (Value.agg #[vw2, vc2])] w fun r w' => r = .tuple #[.agg #[.slice none 0 0, .slice none 0 0], .slice none 0 0, .slice none 0 0, .int .i64 ((bldE (allN W C ++ allN W2 C2) : Nat) : Int)] ∧ Sat w [] w' := by
  have hs0 := Sat.start w
  have hl1 := allN_length hCl
  have hl2 := allN_length hCl2
  have hcl9 : (C ++ C2).length = W.length + W2.length := by rw [List.length_append, hCl, hCl2]
  refine callsV_of Try.func48 rfl rfl ?_
  refine CW.seq ?_
  refine CW.region ?_
  refine RT.eff rfl rfl (OpE.box hs0 rfl fun b_1 w_1 hs_1 hch_1 hb_1 => ?_)
  have hs_1d : Sat w [cObj b_1 51 [vw, vc]] _ := hs_1
  refine RT.eff rfl rfl (OpE.box hs_1d rfl fun b_2 w_2 hs_2 hch_2 hb_2 => ?_)
  have hs_2d : Sat w [cObj b_1 51 [vw, vc], cObj b_2 51 [vw2, vc2]] _ := hs_2
  refine RT.eff rfl rfl (OpE.alloc hs_2d zero51 fun b_3 w_3 hs_3 hch_3 hb_3 => ?_)
  have hs_3d : Sat w [cObj b_1 51 [vw, vc], cObj b_2 51 [vw2, vc2], cObj b_3 51 [(Value.slice none 0 0), (Value.slice none 0 0)]] _ := hs_3
  refine RT.ev rfl rfl (Ev.assign rfl) ?_
  refine RT.ev rfl rfl (Ev.assign rfl) ?_
  refine RT.ev rfl rfl (Ev.assign rfl) ?_
  refine RT.nil ?_
  refine CW.seq ?_
  refine CW.region ?_
  refine RT.ev rfl rfl (Ev.assign rfl) ?_
  refine RT.nil ?_
  refine CW.seq ?_
  refine CW.seq ?_
  refine CW.draw (fun w' => Sat w [cObj b_1 51 [vw, vc], cObj b_2 51 [vw2, vc2], cObj b_3 51 [(Value.slice none 0 0), (Value.slice none 0 0)]] w') (.free 0 (.free 1 (.free 3 (.free 4 (.free 7 (.one 2 (.one 5 (.one 6 .fin)))))))) mixed (by kernel_rfl) ?_
  have hs_4 := hs_3d.drew
  refine RP.ev rfl rfl rfl (fun w' hS' => Ev.fieldAddr fld51_1 rfl rfl) hs_4 ?_
  refine RP.ev rfl rfl rfl (fun w' hS' => Ev.load scal22 rfl (hS'.cell (i := 0) (j := 1) rfl rfl)) hs_4 ?_
  refine RP.ev rfl rfl rfl (fun w' hS' => Ev.fieldAddr fld51_1 rfl rfl) hs_4 ?_
  refine RP.ev rfl rfl rfl (fun w' hS' => Ev.load scal22 rfl (hS'.cell (i := 1) (j := 1) rfl rfl)) hs_4 ?_
  refine RP.ev rfl rfl rfl (fun w' hS' => Ev.move rfl) hs_4 ?_
  have hs_5 : Sat w [cObj b_1 51 [vw, vc], cObj b_2 51 [vw2, vc2], cObj b_3 51 [(Value.slice none 0 0), (Value.slice none 0 0)], cL (Value.slice none 0 0) 3 (encN .i64) ([])] _ := hs_4.newNilL 3 (encN .i64)
  refine RP.eff rfl rfl rfl (OpE.appendL 3 sl22 hs_5 rfl rfl rfl Try.underlying22 (hvc.ext hs_5.ext) (by simp only [List.length_nil]; omega) (by simp only [List.length_nil]; omega) fun v_1 w_4 hs_6 hch_4 => ?_)
  have hs_6d : Sat w [cObj b_1 51 [vw, vc], cObj b_2 51 [vw2, vc2], cObj b_3 51 [(Value.slice none 0 0), (Value.slice none 0 0)], cL v_1 3 (encN .i64) (C)] _ := hs_6
  have hS_1 : Sat w [cObj b_1 51 [vw, vc], cObj b_2 51 [vw2, vc2], cObj b_3 51 [(Value.slice none 0 0), (Value.slice none 0 0)]] _ := hs_6d.sub ((.cons_cons _ (.cons_cons _ (.cons_cons _ (.cons _ .slnil)))))
  refine ⟨hS_1, ?_⟩
  refine RP.eff rfl rfl rfl (OpE.appendL 3 sl22 hs_6d rfl rfl rfl Try.underlying22 (hvc2.ext hs_6d.ext) (by omega) (by omega) fun v_2 w_5 hs_7 hch_5 => ?_)
  have hs_7d : Sat w [cObj b_1 51 [vw, vc], cObj b_2 51 [vw2, vc2], cObj b_3 51 [(Value.slice none 0 0), (Value.slice none 0 0)], cL v_2 3 (encN .i64) (C ++ C2)] _ := hs_7
  have hS_2 : Sat w [cObj b_1 51 [vw, vc], cObj b_2 51 [vw2, vc2], cObj b_3 51 [(Value.slice none 0 0), (Value.slice none 0 0)]] _ := hs_7d.sub ((.cons_cons _ (.cons_cons _ (.cons_cons _ (.cons _ .slnil)))))
  refine ⟨hS_2, ?_⟩
  refine RP.eff rfl rfl rfl (OpE.ev (Ev.lenL Try.underlying22 rfl (hs_7d.rdL 3 rfl)) ⟨hS_2, ?_⟩)
  refine RP.fin ?_
  refine CW.block ?_
  refine CW.loop (α := Nat × Nat) (fun (k, z) => [(2, (Value.pointer (some ⟨b_1, 0, none⟩))), (3, (Value.pointer (some ⟨b_2, 0, none⟩))), (4, (Value.pointer (some ⟨b_3, 0, none⟩))), (8, (Value.int .i64 ((z : Nat) : Int))), (35, v_2), (36, (Value.int .i64 (((C ++ C2).length : Nat) : Int))), (37, (Value.int .i64 ((k : Nat) : Int)))]) (fun (k, z) w' => Sat w [cObj b_1 51 [vw, vc], cObj b_2 51 [vw2, vc2], cObj b_3 51 [(Value.slice none 0 0), (Value.slice none 0 0)], cL v_2 3 (encN .i64) (C ++ C2)] w' ∧ (k ≤ (C ++ C2).length) ∧ (z = ((C ++ C2).take k).sum)) (fun (k, z) => (C ++ C2).length - k) (0, 0) ⟨rfl, rfl, rfl, rfl, rfl, rfl, rfl, trivial⟩ ⟨hs_7d, Nat.zero_le _, rfl⟩ ?_
  rintro ⟨k, z⟩ w_6 ⟨hs_8, hk, hz⟩
  show CW _ _ _ _ [(2, (Value.pointer (some ⟨b_1, 0, none⟩))), (3, (Value.pointer (some ⟨b_2, 0, none⟩))), (4, (Value.pointer (some ⟨b_3, 0, none⟩))), (8, (Value.int .i64 ((z : Nat) : Int))), (35, v_2), (36, (Value.int .i64 (((C ++ C2).length : Nat) : Int))), (37, (Value.int .i64 ((k : Nat) : Int)))] _
  refine CW.seq ?_
  refine CW.region ?_
  refine RT.ev rfl rfl (Ev.lssN rfl rfl) ?_
  refine RT.nil ?_
  refine CW.seq ?_
  refine CW.condD rfl (fun hc_1 => ?_) (fun hc_1 => ?_)
  · refine CW.skip ?_
    refine CW.seq ?_
    refine CW.block ?_
    refine CW.seq ?_
    obtain ⟨x, hx⟩ : ∃ x, (C ++ C2)[k]? = some x := ⟨_, List.getElem?_eq_getElem hc_1⟩
    have hsl := sum_take_le (C ++ C2) (k + 1)
    rw [sum_take_snoc hx, List.sum_append] at hsl
    refine CW.region ?_
    refine RT.ev rfl rfl (Ev.idxL (E := encN .i64) sl22 rfl rfl (hs_8.rdL 3 rfl) (by omega)) ?_
    refine RT.ev rfl rfl (Ev.ldL (E := encN .i64) scal3 rfl (hs_8.rdL 3 rfl) hx (by decide) rfl) ?_
    refine RT.ev rfl rfl (Ev.assign rfl) ?_
    refine RT.nil ?_
    refine CW.region ?_
    refine RT.ev rfl rfl (Ev.move rfl) ?_
    refine RT.ev rfl rfl (Ev.move rfl) ?_
    refine RT.ev rfl rfl (Ev.addI rfl rfl (by omega)) ?_
    refine RT.ev rfl rfl (Ev.assign rfl) ?_
    refine RT.nil ?_
    refine CW.region ?_
    refine RT.ev rfl rfl (Ev.addI (b := 1) rfl rfl (by omega)) ?_
    refine RT.ev rfl rfl (Ev.move rfl) ?_
    refine RT.nil ?_
    exact ⟨(k + 1, (z + x)), ⟨rfl, rfl, rfl, rfl, rfl, rfl, rfl, trivial⟩, ⟨hs_8, by omega, by rw [sum_take_snoc hx, hz]⟩, (show ((C ++ C2).length - (k + 1)) < ((C ++ C2).length - k) from by omega)⟩
  · refine CW.exit0 ?_
    refine CW.seq ?_
    refine CW.seq ?_
    have hzt : z = C.sum + C2.sum := by rw [hz, List.take_of_length_le (by omega), List.sum_append]
    refine CW.region ?_
    refine RT.ev rfl rfl (Ev.move rfl) ?_
    refine RT.ev rfl rfl (Ev.gtrN (b := 4096) rfl rfl) ?_
    refine RT.nil ?_
    refine CW.condD rfl (fun hc_2 => ?_) (fun hc_2 => ?_)
    · refine CW.seq ?_
      refine CW.region ?_
      refine RT.ev rfl rfl (Ev.build bt51 rfl trivial rfl) ?_
      refine RT.eff rfl rfl (OpE.storeObjA (vs := [(Value.slice none 0 0), (Value.slice none 0 0)]) agg51 hs_8 (i := 2) rfl rfl rfl rfl (fun v h => by simp only [List.mem_cons, List.not_mem_nil, or_false] at h; rcases h with rfl | rfl; exact rfl; exact rfl) fun w_7 hs_9 hch_6 => ?_)
      have hs_9d : Sat w [cObj b_1 51 [vw, vc], cObj b_2 51 [vw2, vc2], cObj b_3 51 [(Value.slice none 0 0), (Value.slice none 0 0)], cL v_2 3 (encN .i64) (C ++ C2)] _ := hs_9
      refine RT.ev rfl rfl (Ev.assign rfl) ?_
      refine RT.ev rfl rfl (Ev.assign rfl) ?_
      refine RT.ev rfl rfl (Ev.assign rfl) ?_
      refine RT.nil ?_
      refine CW.ret ?_
      show PostK _ _ _ _ _ _
      refine post4c (vs := [(Value.slice none 0 0), (Value.slice none 0 0)]) rfl rfl rfl rfl rfl agg51 (fun j u hu => hs_9d.cell (i := 2) rfl hu) ?_
      have hs_10 : Sat w [] w_7 := hs_9d.sub ((.cons _ (.cons _ (.cons _ (.cons _ .slnil)))))
      have hq : bldE (allN W C ++ allN W2 C2) = 2 := by
        unfold bldE
        rw [if_pos (by rw [List.length_append, hl1, hl2]; omega)]
      rw [hq]
      exact ⟨rfl, hs_10⟩
    · refine CW.skip ?_
      refine CW.seq ?_
      refine CW.region ?_
      refine RT.ev rfl rfl (Ev.assign rfl) ?_
      refine RT.nil ?_
      refine CW.seq ?_
      refine CW.seq ?_
      have hs_11 : Sat w [cObj b_1 51 [vw, vc], cObj b_2 51 [vw2, vc2], cObj b_3 51 [(Value.slice none 0 0), (Value.slice none 0 0)], cL v_2 3 (encN .i64) (C ++ C2), cL (Value.slice none 0 0) 9 (encTx) ([])] _ := hs_8.newNilL 9 (encTx)
      refine CW.region ?_
      refine RT.ev rfl rfl (Ev.ldObj agg51 rfl hs_11 (i := 0) rfl rfl) ?_
      refine RT.ev rfl rfl (Ev.ldObj agg51 rfl hs_11 (i := 1) rfl rfl) ?_
      refine RT.eff rfl rfl (OpE.lit2VV (⟨vw, vc, hv.oneCell, hvc.oneCell⟩ : VV) (⟨vw2, vc2, hv2.oneCell, hvc2.oneCell⟩ : VV) sl106 hs_11 rfl rfl fun v_3 w_8 hs_12 hch_7 => ?_)
      have hs_12d : Sat w [cObj b_1 51 [vw, vc], cObj b_2 51 [vw2, vc2], cObj b_3 51 [(Value.slice none 0 0), (Value.slice none 0 0)], cL v_2 3 (encN .i64) (C ++ C2), cL (Value.slice none 0 0) 9 (encTx) ([]), cL v_3 51 (encVV) ([(⟨vw, vc, hv.oneCell, hvc.oneCell⟩ : VV), (⟨vw2, vc2, hv2.oneCell, hvc2.oneCell⟩ : VV)])] _ := hs_12
      refine RT.ev rfl rfl (Ev.lenL Try.underlying106 rfl (hs_12d.rdL 5 rfl)) ?_
      refine RT.ev rfl rfl (Ev.move rfl) ?_
      refine RT.nil ?_
      refine CW.block ?_
      have hs_13 : Sat w [cObj b_1 51 [vw, vc], cObj b_2 51 [vw2, vc2], cObj b_3 51 [(Value.slice none 0 0), (Value.slice none 0 0)], cL v_2 3 (encN .i64) (C ++ C2), cL (Value.slice none 0 0) 9 (encTx) (mgA W C W2 C2 0), cL v_3 51 (encVV) ([(⟨vw, vc, hv.oneCell, hvc.oneCell⟩ : VV), (⟨vw2, vc2, hv2.oneCell, hvc2.oneCell⟩ : VV)])] w_8 := hs_12d.reL 4 rfl (show [] = mgA W C W2 C2 0 from rfl)
      refine CW.loop (α := Nat × Value) (fun (k, v) => [(2, (Value.pointer (some ⟨b_1, 0, none⟩))), (3, (Value.pointer (some ⟨b_2, 0, none⟩))), (4, (Value.pointer (some ⟨b_3, 0, none⟩))), (11, v), (50, v_3), (51, (Value.int .i64 ((([(⟨vw, vc, hv.oneCell, hvc.oneCell⟩ : VV), (⟨vw2, vc2, hv2.oneCell, hvc2.oneCell⟩ : VV)]).length : Nat) : Int))), (52, (Value.int .i64 ((k : Nat) : Int)))]) (fun (k, v) w' => Sat w [cObj b_1 51 [vw, vc], cObj b_2 51 [vw2, vc2], cObj b_3 51 [(Value.slice none 0 0), (Value.slice none 0 0)], cL v_2 3 (encN .i64) (C ++ C2), cL v 9 (encTx) (mgA W C W2 C2 k), cL v_3 51 (encVV) ([(⟨vw, vc, hv.oneCell, hvc.oneCell⟩ : VV), (⟨vw2, vc2, hv2.oneCell, hvc2.oneCell⟩ : VV)])] w' ∧ (k ≤ 2)) (fun (k, v) => 2 - k) (0, (Value.slice none 0 0)) ⟨rfl, rfl, rfl, rfl, rfl, rfl, rfl, trivial⟩ ⟨hs_13, Nat.zero_le _⟩ ?_
      rintro ⟨k, v⟩ w_9 ⟨hs_14, hk⟩
      show CW _ _ _ _ [(2, (Value.pointer (some ⟨b_1, 0, none⟩))), (3, (Value.pointer (some ⟨b_2, 0, none⟩))), (4, (Value.pointer (some ⟨b_3, 0, none⟩))), (11, v), (50, v_3), (51, (Value.int .i64 ((([(⟨vw, vc, hv.oneCell, hvc.oneCell⟩ : VV), (⟨vw2, vc2, hv2.oneCell, hvc2.oneCell⟩ : VV)]).length : Nat) : Int))), (52, (Value.int .i64 ((k : Nat) : Int)))] _
      refine CW.seq ?_
      refine CW.region ?_
      refine RT.ev rfl rfl (Ev.lssN rfl rfl) ?_
      refine RT.nil ?_
      refine CW.seq ?_
      refine CW.condD rfl (fun hc_3 => ?_) (fun hc_3 => ?_)
      · refine CW.skip ?_
        refine CW.seq ?_
        refine CW.block ?_
        refine CW.seq ?_
        rcases (show k = 0 ∨ k = 1 by have h9 : k < 2 := hc_3; omega) with rfl | rfl
        · refine CW.region ?_
          refine RT.ev rfl rfl (Ev.idxL (E := encVV) sl106 rfl rfl (hs_14.rdL 5 rfl) (by omega)) ?_
          refine RT.ev rfl rfl (Ev.ldAgg (E := encVV) agg51 rfl (hs_14.rdL 5 rfl) rfl (by decide)) ?_
          refine RT.eff rfl rfl (OpE.alloc hs_14 zero51 fun b_4 w_10 hs_15 hch_8 hb_4 => ?_)
          have hs_15d : Sat w [cObj b_1 51 [vw, vc], cObj b_2 51 [vw2, vc2], cObj b_3 51 [(Value.slice none 0 0), (Value.slice none 0 0)], cL v_2 3 (encN .i64) (C ++ C2), cL v 9 (encTx) (mgA W C W2 C2 0), cL v_3 51 (encVV) ([(⟨vw, vc, hv.oneCell, hvc.oneCell⟩ : VV), (⟨vw2, vc2, hv2.oneCell, hvc2.oneCell⟩ : VV)]), cObj b_4 51 [(Value.slice none 0 0), (Value.slice none 0 0)]] _ := hs_15
          refine RT.eff rfl rfl (OpE.storeObjA (vs := (encVV).enc (⟨vw, vc, hv.oneCell, hvc.oneCell⟩ : VV)) agg51 hs_15d (i := 6) rfl rfl rfl rfl ((encVV).one _) fun w_11 hs_16 hch_9 => ?_)
          have hs_16d : Sat w [cObj b_1 51 [vw, vc], cObj b_2 51 [vw2, vc2], cObj b_3 51 [(Value.slice none 0 0), (Value.slice none 0 0)], cL v_2 3 (encN .i64) (C ++ C2), cL v 9 (encTx) (mgA W C W2 C2 0), cL v_3 51 (encVV) ([(⟨vw, vc, hv.oneCell, hvc.oneCell⟩ : VV), (⟨vw2, vc2, hv2.oneCell, hvc2.oneCell⟩ : VV)]), cObj b_4 51 [(⟨vw, vc, hv.oneCell, hvc.oneCell⟩ : VV).a, (⟨vw, vc, hv.oneCell, hvc.oneCell⟩ : VV).b]] _ := hs_16
          refine RT.nil ?_
          refine CW.seq ?_
          have hs_17 : Sat w [cObj b_1 51 [vw, vc], cObj b_2 51 [vw2, vc2], cObj b_3 51 [(Value.slice none 0 0), (Value.slice none 0 0)], cL v_2 3 (encN .i64) (C ++ C2), cL v 9 (encTx) (mgA W C W2 C2 0), cL v_3 51 (encVV) ([(⟨vw, vc, hv.oneCell, hvc.oneCell⟩ : VV), (⟨vw2, vc2, hv2.oneCell, hvc2.oneCell⟩ : VV)]), cObj b_4 51 [vw, vc]] w_11 := hs_16d
          refine CW.region ?_
          refine RT.ev rfl rfl (Ev.fieldAddr fld51_0 rfl rfl) ?_
          refine RT.ev rfl rfl (Ev.load scal45 rfl (hs_17.cell (i := 6) (j := 0) rfl rfl)) ?_
          refine RT.ev rfl rfl (Ev.lenL Try.underlying45 rfl (hv.ext hs_17.ext)) ?_
          refine RT.ev rfl rfl (Ev.move rfl) ?_
          refine RT.nil ?_
          refine CW.block ?_
          have hs_18 : Sat w [cObj b_1 51 [vw, vc], cObj b_2 51 [vw2, vc2], cObj b_3 51 [(Value.slice none 0 0), (Value.slice none 0 0)], cL v_2 3 (encN .i64) (C ++ C2), cL v 9 (encTx) (([] : List ByteArray) ++ allN (W.take 0) (C.take 0)), cL v_3 51 (encVV) ([(⟨vw, vc, hv.oneCell, hvc.oneCell⟩ : VV), (⟨vw2, vc2, hv2.oneCell, hvc2.oneCell⟩ : VV)]), cObj b_4 51 [vw, vc]] w_11 := hs_17.reL 4 rfl (show mgA W C W2 C2 0 = ([] : List ByteArray) ++ allN (W.take 0) (C.take 0) from by simp [mgA, allN])
          refine CW.loop (α := Nat × Value) (fun (j, v2) => [(2, (Value.pointer (some ⟨b_1, 0, none⟩))), (3, (Value.pointer (some ⟨b_2, 0, none⟩))), (4, (Value.pointer (some ⟨b_3, 0, none⟩))), (11, v2), (13, (Value.pointer (some ⟨b_4, 0, none⟩))), (50, v_3), (51, (Value.int .i64 ((([(⟨vw, vc, hv.oneCell, hvc.oneCell⟩ : VV), (⟨vw2, vc2, hv2.oneCell, hvc2.oneCell⟩ : VV)]).length : Nat) : Int))), (52, (Value.int .i64 ((0 : Nat) : Int))), (57, vw), (58, (Value.int .i64 ((W.length : Nat) : Int))), (59, (Value.int .i64 ((j : Nat) : Int)))]) (fun (j, v2) w' => Sat w [cObj b_1 51 [vw, vc], cObj b_2 51 [vw2, vc2], cObj b_3 51 [(Value.slice none 0 0), (Value.slice none 0 0)], cL v_2 3 (encN .i64) (C ++ C2), cL v2 9 (encTx) (([] : List ByteArray) ++ allN (W.take j) (C.take j)), cL v_3 51 (encVV) ([(⟨vw, vc, hv.oneCell, hvc.oneCell⟩ : VV), (⟨vw2, vc2, hv2.oneCell, hvc2.oneCell⟩ : VV)]), cObj b_4 51 [vw, vc]] w' ∧ (j ≤ W.length)) (fun (j, v2) => W.length - j) (0, v) ⟨rfl, rfl, rfl, rfl, rfl, rfl, rfl, rfl, rfl, rfl, rfl, trivial⟩ ⟨hs_18, Nat.zero_le _⟩ ?_
          rintro ⟨j, v2⟩ w_12 ⟨hs_19, hj⟩
          show CW _ _ _ _ [(2, (Value.pointer (some ⟨b_1, 0, none⟩))), (3, (Value.pointer (some ⟨b_2, 0, none⟩))), (4, (Value.pointer (some ⟨b_3, 0, none⟩))), (11, v2), (13, (Value.pointer (some ⟨b_4, 0, none⟩))), (50, v_3), (51, (Value.int .i64 ((([(⟨vw, vc, hv.oneCell, hvc.oneCell⟩ : VV), (⟨vw2, vc2, hv2.oneCell, hvc2.oneCell⟩ : VV)]).length : Nat) : Int))), (52, (Value.int .i64 ((0 : Nat) : Int))), (57, vw), (58, (Value.int .i64 ((W.length : Nat) : Int))), (59, (Value.int .i64 ((j : Nat) : Int)))] _
          refine CW.seq ?_
          refine CW.region ?_
          refine RT.ev rfl rfl (Ev.lssN rfl rfl) ?_
          refine RT.nil ?_
          refine CW.seq ?_
          refine CW.condD rfl (fun hc_4 => ?_) (fun hc_4 => ?_)
          · refine CW.skip ?_
            refine CW.seq ?_
            refine CW.block ?_
            refine CW.seq ?_
            obtain ⟨x, hx⟩ : ∃ x, (W)[j]? = some x := ⟨_, List.getElem?_eq_getElem hc_4⟩
            obtain ⟨c, hcc⟩ : ∃ c, (C)[j]? = some c := ⟨_, List.getElem?_eq_getElem (by omega)⟩
            have hal := allN_take_length (k := j) hCl
            have hsl := sum_take_le (C) (j + 1)
            rw [sum_take_snoc hcc] at hsl
            have hsn := allN_snoc hx hcc
            refine CW.region ?_
            refine RT.ev rfl rfl (Ev.move rfl) ?_
            refine RT.ev rfl rfl (Ev.idxL (E := encTx) sl45 rfl rfl (hv.ext hs_19.ext) (by omega)) ?_
            refine RT.ev rfl rfl (Ev.ldL (E := encTx) scal9 rfl (hv.ext hs_19.ext) hx (by decide) rfl) ?_
            refine RT.ev rfl rfl (Ev.assign rfl) ?_
            refine RT.ev rfl rfl (Ev.assign rfl) ?_
            refine RT.nil ?_
            refine CW.seq ?_
            refine CW.region ?_
            refine RT.ev rfl rfl (Ev.assign rfl) ?_
            refine RT.nil ?_
            refine CW.block ?_
            have hs_20 : Sat w [cObj b_1 51 [vw, vc], cObj b_2 51 [vw2, vc2], cObj b_3 51 [(Value.slice none 0 0), (Value.slice none 0 0)], cL v_2 3 (encN .i64) (C ++ C2), cL v2 9 (encTx) (([] : List ByteArray) ++ allN (W.take j) (C.take j) ++ List.replicate 0 x), cL v_3 51 (encVV) ([(⟨vw, vc, hv.oneCell, hvc.oneCell⟩ : VV), (⟨vw2, vc2, hv2.oneCell, hvc2.oneCell⟩ : VV)]), cObj b_4 51 [vw, vc]] w_12 := hs_19.reL 4 rfl (show ([] : List ByteArray) ++ allN (W.take j) (C.take j) = ([] : List ByteArray) ++ allN (W.take j) (C.take j) ++ List.replicate 0 x from by simp)
            refine CW.loop (α := Nat × Value) (fun (i, v3) => [(2, (Value.pointer (some ⟨b_1, 0, none⟩))), (3, (Value.pointer (some ⟨b_2, 0, none⟩))), (4, (Value.pointer (some ⟨b_3, 0, none⟩))), (11, v3), (13, (Value.pointer (some ⟨b_4, 0, none⟩))), (14, (Value.int .i64 ((j : Nat) : Int))), (15, (Value.string x)), (16, (Value.int .i64 ((i : Nat) : Int))), (50, v_3), (51, (Value.int .i64 ((([(⟨vw, vc, hv.oneCell, hvc.oneCell⟩ : VV), (⟨vw2, vc2, hv2.oneCell, hvc2.oneCell⟩ : VV)]).length : Nat) : Int))), (52, (Value.int .i64 ((0 : Nat) : Int))), (57, vw), (58, (Value.int .i64 ((W.length : Nat) : Int))), (59, (Value.int .i64 ((j : Nat) : Int)))]) (fun (i, v3) w' => Sat w [cObj b_1 51 [vw, vc], cObj b_2 51 [vw2, vc2], cObj b_3 51 [(Value.slice none 0 0), (Value.slice none 0 0)], cL v_2 3 (encN .i64) (C ++ C2), cL v3 9 (encTx) (([] : List ByteArray) ++ allN (W.take j) (C.take j) ++ List.replicate i x), cL v_3 51 (encVV) ([(⟨vw, vc, hv.oneCell, hvc.oneCell⟩ : VV), (⟨vw2, vc2, hv2.oneCell, hvc2.oneCell⟩ : VV)]), cObj b_4 51 [vw, vc]] w' ∧ (i ≤ c)) (fun (i, v3) => c - i) (0, v2) ⟨rfl, rfl, rfl, rfl, rfl, rfl, rfl, rfl, rfl, rfl, rfl, rfl, rfl, rfl, trivial⟩ ⟨hs_20, Nat.zero_le _⟩ ?_
            rintro ⟨i, v3⟩ w_13 ⟨hs_21, hi⟩
            show CW _ _ _ _ [(2, (Value.pointer (some ⟨b_1, 0, none⟩))), (3, (Value.pointer (some ⟨b_2, 0, none⟩))), (4, (Value.pointer (some ⟨b_3, 0, none⟩))), (11, v3), (13, (Value.pointer (some ⟨b_4, 0, none⟩))), (14, (Value.int .i64 ((j : Nat) : Int))), (15, (Value.string x)), (16, (Value.int .i64 ((i : Nat) : Int))), (50, v_3), (51, (Value.int .i64 ((([(⟨vw, vc, hv.oneCell, hvc.oneCell⟩ : VV), (⟨vw2, vc2, hv2.oneCell, hvc2.oneCell⟩ : VV)]).length : Nat) : Int))), (52, (Value.int .i64 ((0 : Nat) : Int))), (57, vw), (58, (Value.int .i64 ((W.length : Nat) : Int))), (59, (Value.int .i64 ((j : Nat) : Int)))] _
            refine CW.seq ?_
            refine CW.seq ?_
            refine CW.region ?_
            refine RT.ev rfl rfl (Ev.move rfl) ?_
            refine RT.ev rfl rfl (Ev.fieldAddr fld51_1 rfl rfl) ?_
            refine RT.ev rfl rfl (Ev.load scal22 rfl (hs_21.cell (i := 6) (j := 1) rfl rfl)) ?_
            refine RT.ev rfl rfl (Ev.move rfl) ?_
            refine RT.ev rfl rfl (Ev.idxL (E := encN .i64) sl22 rfl rfl (hvc.ext hs_21.ext) (by omega)) ?_
            refine RT.ev rfl rfl (Ev.ldL (E := encN .i64) scal3 rfl (hvc.ext hs_21.ext) hcc (by decide) rfl) ?_
            refine RT.ev rfl rfl (Ev.lssN rfl rfl) ?_
            refine RT.nil ?_
            refine CW.condD rfl (fun hc_5 => ?_) (fun hc_5 => ?_)
            · refine CW.skip ?_
              refine CW.seq ?_
              refine CW.block ?_
              refine CW.region ?_
              refine RT.ev rfl rfl (Ev.move rfl) ?_
              refine RT.ev rfl rfl (Ev.move rfl) ?_
              refine RT.eff rfl rfl (OpE.lit1 (encTx) x sl45 rfl hs_21 rfl fun v_4 w_14 hs_22 hch_10 => ?_)
              have hs_22d : Sat w [cObj b_1 51 [vw, vc], cObj b_2 51 [vw2, vc2], cObj b_3 51 [(Value.slice none 0 0), (Value.slice none 0 0)], cL v_2 3 (encN .i64) (C ++ C2), cL v3 9 (encTx) (([] : List ByteArray) ++ allN (W.take j) (C.take j) ++ List.replicate i x), cL v_3 51 (encVV) ([(⟨vw, vc, hv.oneCell, hvc.oneCell⟩ : VV), (⟨vw2, vc2, hv2.oneCell, hvc2.oneCell⟩ : VV)]), cObj b_4 51 [vw, vc], cL v_4 9 (encTx) ([x])] _ := hs_22
              refine RT.eff rfl rfl (OpE.appendL 4 sl45 hs_22d rfl rfl rfl Try.underlying45 (hs_22d.rdL 7 rfl) (by simp only [List.length_append, List.length_replicate, List.length_cons, List.length_nil]; omega) (by simp only [List.length_append, List.length_replicate, List.length_cons, List.length_nil]; omega) fun v_5 w_15 hs_23 hch_11 => ?_)
              have hs_23d : Sat w [cObj b_1 51 [vw, vc], cObj b_2 51 [vw2, vc2], cObj b_3 51 [(Value.slice none 0 0), (Value.slice none 0 0)], cL v_2 3 (encN .i64) (C ++ C2), cL v_5 9 (encTx) (([] : List ByteArray) ++ allN (W.take j) (C.take j) ++ List.replicate i x ++ [x]), cL v_3 51 (encVV) ([(⟨vw, vc, hv.oneCell, hvc.oneCell⟩ : VV), (⟨vw2, vc2, hv2.oneCell, hvc2.oneCell⟩ : VV)]), cObj b_4 51 [vw, vc]] _ := hs_23.drop 7
              refine RT.ev rfl rfl (Ev.assign rfl) ?_
              refine RT.nil ?_
              refine CW.region ?_
              refine RT.ev rfl rfl (Ev.move rfl) ?_
              refine RT.ev rfl rfl (Ev.addI (b := 1) rfl rfl (by omega)) ?_
              refine RT.ev rfl rfl (Ev.assign rfl) ?_
              refine RT.nil ?_
              have hs_24 : Sat w [cObj b_1 51 [vw, vc], cObj b_2 51 [vw2, vc2], cObj b_3 51 [(Value.slice none 0 0), (Value.slice none 0 0)], cL v_2 3 (encN .i64) (C ++ C2), cL v_5 9 (encTx) (([] : List ByteArray) ++ allN (W.take j) (C.take j) ++ List.replicate (i + 1) x), cL v_3 51 (encVV) ([(⟨vw, vc, hv.oneCell, hvc.oneCell⟩ : VV), (⟨vw2, vc2, hv2.oneCell, hvc2.oneCell⟩ : VV)]), cObj b_4 51 [vw, vc]] w_15 := hs_23d.reL 4 rfl (show ([] : List ByteArray) ++ allN (W.take j) (C.take j) ++ List.replicate i x ++ [x] = ([] : List ByteArray) ++ allN (W.take j) (C.take j) ++ List.replicate (i + 1) x from by rw [List.replicate_succ', List.append_assoc])
              exact ⟨(i + 1, v_5), ⟨rfl, rfl, rfl, rfl, rfl, rfl, rfl, rfl, rfl, rfl, rfl, rfl, rfl, rfl, trivial⟩, ⟨hs_24, by omega⟩, (show (c - (i + 1)) < (c - i) from by omega)⟩
            · refine CW.exit0 ?_
              refine CW.region ?_
              refine RT.ev rfl rfl (Ev.addI (b := 1) rfl rfl (by omega)) ?_
              refine RT.ev rfl rfl (Ev.move rfl) ?_
              refine RT.nil ?_
              have hs_25 : Sat w [cObj b_1 51 [vw, vc], cObj b_2 51 [vw2, vc2], cObj b_3 51 [(Value.slice none 0 0), (Value.slice none 0 0)], cL v_2 3 (encN .i64) (C ++ C2), cL v3 9 (encTx) (([] : List ByteArray) ++ allN (W.take (j + 1)) (C.take (j + 1))), cL v_3 51 (encVV) ([(⟨vw, vc, hv.oneCell, hvc.oneCell⟩ : VV), (⟨vw2, vc2, hv2.oneCell, hvc2.oneCell⟩ : VV)]), cObj b_4 51 [vw, vc]] w_13 := hs_21.reL 4 rfl (show ([] : List ByteArray) ++ allN (W.take j) (C.take j) ++ List.replicate i x = ([] : List ByteArray) ++ allN (W.take (j + 1)) (C.take (j + 1)) from by rw [hsn, ← List.append_assoc, show i = c by omega])
              exact ⟨(j + 1, v3), ⟨rfl, rfl, rfl, rfl, rfl, rfl, rfl, rfl, rfl, rfl, rfl, trivial⟩, ⟨hs_25, by omega⟩, (show (W.length - (j + 1)) < (W.length - j) from by omega)⟩
          · refine CW.exit0 ?_
            refine CW.region ?_
            refine RT.ev rfl rfl (Ev.addI (b := 1) rfl rfl (by omega)) ?_
            refine RT.ev rfl rfl (Ev.move rfl) ?_
            refine RT.nil ?_
            have hs_26 : Sat w [cObj b_1 51 [vw, vc], cObj b_2 51 [vw2, vc2], cObj b_3 51 [(Value.slice none 0 0), (Value.slice none 0 0)], cL v_2 3 (encN .i64) (C ++ C2), cL v2 9 (encTx) (mgA W C W2 C2 (0 + 1)), cL v_3 51 (encVV) ([(⟨vw, vc, hv.oneCell, hvc.oneCell⟩ : VV), (⟨vw2, vc2, hv2.oneCell, hvc2.oneCell⟩ : VV)]), cObj b_4 51 [vw, vc]] w_12 := hs_19.reL 4 rfl (show ([] : List ByteArray) ++ allN (W.take j) (C.take j) = mgA W C W2 C2 (0 + 1) from by rw [show j = W.length by omega, List.take_length, ← hCl, List.take_length]; simp [mgA])
            have hs_27 : Sat w [cObj b_1 51 [vw, vc], cObj b_2 51 [vw2, vc2], cObj b_3 51 [(Value.slice none 0 0), (Value.slice none 0 0)], cL v_2 3 (encN .i64) (C ++ C2), cL v2 9 (encTx) (mgA W C W2 C2 (0 + 1)), cL v_3 51 (encVV) ([(⟨vw, vc, hv.oneCell, hvc.oneCell⟩ : VV), (⟨vw2, vc2, hv2.oneCell, hvc2.oneCell⟩ : VV)])] w_12 := hs_26.sub ((.cons_cons _ (.cons_cons _ (.cons_cons _ (.cons_cons _ (.cons_cons _ (.cons_cons _ (.cons _ .slnil))))))))
            exact ⟨(0 + 1, v2), ⟨rfl, rfl, rfl, rfl, rfl, rfl, rfl, trivial⟩, ⟨hs_27, by omega⟩, (show (2 - (0 + 1)) < (2 - 0) from by omega)⟩
        · refine CW.region ?_
          refine RT.ev rfl rfl (Ev.idxL (E := encVV) sl106 rfl rfl (hs_14.rdL 5 rfl) (by omega)) ?_
          refine RT.ev rfl rfl (Ev.ldAgg (E := encVV) agg51 rfl (hs_14.rdL 5 rfl) rfl (by decide)) ?_
          refine RT.eff rfl rfl (OpE.alloc hs_14 zero51 fun b_5 w_16 hs_28 hch_12 hb_5 => ?_)
          have hs_28d : Sat w [cObj b_1 51 [vw, vc], cObj b_2 51 [vw2, vc2], cObj b_3 51 [(Value.slice none 0 0), (Value.slice none 0 0)], cL v_2 3 (encN .i64) (C ++ C2), cL v 9 (encTx) (mgA W C W2 C2 1), cL v_3 51 (encVV) ([(⟨vw, vc, hv.oneCell, hvc.oneCell⟩ : VV), (⟨vw2, vc2, hv2.oneCell, hvc2.oneCell⟩ : VV)]), cObj b_5 51 [(Value.slice none 0 0), (Value.slice none 0 0)]] _ := hs_28
          refine RT.eff rfl rfl (OpE.storeObjA (vs := (encVV).enc (⟨vw2, vc2, hv2.oneCell, hvc2.oneCell⟩ : VV)) agg51 hs_28d (i := 6) rfl rfl rfl rfl ((encVV).one _) fun w_17 hs_29 hch_13 => ?_)
          have hs_29d : Sat w [cObj b_1 51 [vw, vc], cObj b_2 51 [vw2, vc2], cObj b_3 51 [(Value.slice none 0 0), (Value.slice none 0 0)], cL v_2 3 (encN .i64) (C ++ C2), cL v 9 (encTx) (mgA W C W2 C2 1), cL v_3 51 (encVV) ([(⟨vw, vc, hv.oneCell, hvc.oneCell⟩ : VV), (⟨vw2, vc2, hv2.oneCell, hvc2.oneCell⟩ : VV)]), cObj b_5 51 [(⟨vw2, vc2, hv2.oneCell, hvc2.oneCell⟩ : VV).a, (⟨vw2, vc2, hv2.oneCell, hvc2.oneCell⟩ : VV).b]] _ := hs_29
          refine RT.nil ?_
          refine CW.seq ?_
          have hs_30 : Sat w [cObj b_1 51 [vw, vc], cObj b_2 51 [vw2, vc2], cObj b_3 51 [(Value.slice none 0 0), (Value.slice none 0 0)], cL v_2 3 (encN .i64) (C ++ C2), cL v 9 (encTx) (mgA W C W2 C2 1), cL v_3 51 (encVV) ([(⟨vw, vc, hv.oneCell, hvc.oneCell⟩ : VV), (⟨vw2, vc2, hv2.oneCell, hvc2.oneCell⟩ : VV)]), cObj b_5 51 [vw2, vc2]] w_17 := hs_29d
          refine CW.region ?_
          refine RT.ev rfl rfl (Ev.fieldAddr fld51_0 rfl rfl) ?_
          refine RT.ev rfl rfl (Ev.load scal45 rfl (hs_30.cell (i := 6) (j := 0) rfl rfl)) ?_
          refine RT.ev rfl rfl (Ev.lenL Try.underlying45 rfl (hv2.ext hs_30.ext)) ?_
          refine RT.ev rfl rfl (Ev.move rfl) ?_
          refine RT.nil ?_
          refine CW.block ?_
          have hs_31 : Sat w [cObj b_1 51 [vw, vc], cObj b_2 51 [vw2, vc2], cObj b_3 51 [(Value.slice none 0 0), (Value.slice none 0 0)], cL v_2 3 (encN .i64) (C ++ C2), cL v 9 (encTx) (allN W C ++ allN (W2.take 0) (C2.take 0)), cL v_3 51 (encVV) ([(⟨vw, vc, hv.oneCell, hvc.oneCell⟩ : VV), (⟨vw2, vc2, hv2.oneCell, hvc2.oneCell⟩ : VV)]), cObj b_5 51 [vw2, vc2]] w_17 := hs_30.reL 4 rfl (show mgA W C W2 C2 1 = allN W C ++ allN (W2.take 0) (C2.take 0) from by simp [mgA, allN])
          refine CW.loop (α := Nat × Value) (fun (j, v2) => [(2, (Value.pointer (some ⟨b_1, 0, none⟩))), (3, (Value.pointer (some ⟨b_2, 0, none⟩))), (4, (Value.pointer (some ⟨b_3, 0, none⟩))), (11, v2), (13, (Value.pointer (some ⟨b_5, 0, none⟩))), (50, v_3), (51, (Value.int .i64 ((([(⟨vw, vc, hv.oneCell, hvc.oneCell⟩ : VV), (⟨vw2, vc2, hv2.oneCell, hvc2.oneCell⟩ : VV)]).length : Nat) : Int))), (52, (Value.int .i64 ((1 : Nat) : Int))), (57, vw2), (58, (Value.int .i64 ((W2.length : Nat) : Int))), (59, (Value.int .i64 ((j : Nat) : Int)))]) (fun (j, v2) w' => Sat w [cObj b_1 51 [vw, vc], cObj b_2 51 [vw2, vc2], cObj b_3 51 [(Value.slice none 0 0), (Value.slice none 0 0)], cL v_2 3 (encN .i64) (C ++ C2), cL v2 9 (encTx) (allN W C ++ allN (W2.take j) (C2.take j)), cL v_3 51 (encVV) ([(⟨vw, vc, hv.oneCell, hvc.oneCell⟩ : VV), (⟨vw2, vc2, hv2.oneCell, hvc2.oneCell⟩ : VV)]), cObj b_5 51 [vw2, vc2]] w' ∧ (j ≤ W2.length)) (fun (j, v2) => W2.length - j) (0, v) ⟨rfl, rfl, rfl, rfl, rfl, rfl, rfl, rfl, rfl, rfl, rfl, trivial⟩ ⟨hs_31, Nat.zero_le _⟩ ?_
          rintro ⟨j, v2⟩ w_18 ⟨hs_32, hj⟩
          show CW _ _ _ _ [(2, (Value.pointer (some ⟨b_1, 0, none⟩))), (3, (Value.pointer (some ⟨b_2, 0, none⟩))), (4, (Value.pointer (some ⟨b_3, 0, none⟩))), (11, v2), (13, (Value.pointer (some ⟨b_5, 0, none⟩))), (50, v_3), (51, (Value.int .i64 ((([(⟨vw, vc, hv.oneCell, hvc.oneCell⟩ : VV), (⟨vw2, vc2, hv2.oneCell, hvc2.oneCell⟩ : VV)]).length : Nat) : Int))), (52, (Value.int .i64 ((1 : Nat) : Int))), (57, vw2), (58, (Value.int .i64 ((W2.length : Nat) : Int))), (59, (Value.int .i64 ((j : Nat) : Int)))] _
          refine CW.seq ?_
          refine CW.region ?_
          refine RT.ev rfl rfl (Ev.lssN rfl rfl) ?_
          refine RT.nil ?_
          refine CW.seq ?_
          refine CW.condD rfl (fun hc_6 => ?_) (fun hc_6 => ?_)
          · refine CW.skip ?_
            refine CW.seq ?_
            refine CW.block ?_
            refine CW.seq ?_
            obtain ⟨x, hx⟩ : ∃ x, (W2)[j]? = some x := ⟨_, List.getElem?_eq_getElem hc_6⟩
            obtain ⟨c, hcc⟩ : ∃ c, (C2)[j]? = some c := ⟨_, List.getElem?_eq_getElem (by omega)⟩
            have hal := allN_take_length (k := j) hCl2
            have hsl := sum_take_le (C2) (j + 1)
            rw [sum_take_snoc hcc] at hsl
            have hsn := allN_snoc hx hcc
            refine CW.region ?_
            refine RT.ev rfl rfl (Ev.move rfl) ?_
            refine RT.ev rfl rfl (Ev.idxL (E := encTx) sl45 rfl rfl (hv2.ext hs_32.ext) (by omega)) ?_
            refine RT.ev rfl rfl (Ev.ldL (E := encTx) scal9 rfl (hv2.ext hs_32.ext) hx (by decide) rfl) ?_
            refine RT.ev rfl rfl (Ev.assign rfl) ?_
            refine RT.ev rfl rfl (Ev.assign rfl) ?_
            refine RT.nil ?_
            refine CW.seq ?_
            refine CW.region ?_
            refine RT.ev rfl rfl (Ev.assign rfl) ?_
            refine RT.nil ?_
            refine CW.block ?_
            have hs_33 : Sat w [cObj b_1 51 [vw, vc], cObj b_2 51 [vw2, vc2], cObj b_3 51 [(Value.slice none 0 0), (Value.slice none 0 0)], cL v_2 3 (encN .i64) (C ++ C2), cL v2 9 (encTx) (allN W C ++ allN (W2.take j) (C2.take j) ++ List.replicate 0 x), cL v_3 51 (encVV) ([(⟨vw, vc, hv.oneCell, hvc.oneCell⟩ : VV), (⟨vw2, vc2, hv2.oneCell, hvc2.oneCell⟩ : VV)]), cObj b_5 51 [vw2, vc2]] w_18 := hs_32.reL 4 rfl (show allN W C ++ allN (W2.take j) (C2.take j) = allN W C ++ allN (W2.take j) (C2.take j) ++ List.replicate 0 x from by simp)
            refine CW.loop (α := Nat × Value) (fun (i, v3) => [(2, (Value.pointer (some ⟨b_1, 0, none⟩))), (3, (Value.pointer (some ⟨b_2, 0, none⟩))), (4, (Value.pointer (some ⟨b_3, 0, none⟩))), (11, v3), (13, (Value.pointer (some ⟨b_5, 0, none⟩))), (14, (Value.int .i64 ((j : Nat) : Int))), (15, (Value.string x)), (16, (Value.int .i64 ((i : Nat) : Int))), (50, v_3), (51, (Value.int .i64 ((([(⟨vw, vc, hv.oneCell, hvc.oneCell⟩ : VV), (⟨vw2, vc2, hv2.oneCell, hvc2.oneCell⟩ : VV)]).length : Nat) : Int))), (52, (Value.int .i64 ((1 : Nat) : Int))), (57, vw2), (58, (Value.int .i64 ((W2.length : Nat) : Int))), (59, (Value.int .i64 ((j : Nat) : Int)))]) (fun (i, v3) w' => Sat w [cObj b_1 51 [vw, vc], cObj b_2 51 [vw2, vc2], cObj b_3 51 [(Value.slice none 0 0), (Value.slice none 0 0)], cL v_2 3 (encN .i64) (C ++ C2), cL v3 9 (encTx) (allN W C ++ allN (W2.take j) (C2.take j) ++ List.replicate i x), cL v_3 51 (encVV) ([(⟨vw, vc, hv.oneCell, hvc.oneCell⟩ : VV), (⟨vw2, vc2, hv2.oneCell, hvc2.oneCell⟩ : VV)]), cObj b_5 51 [vw2, vc2]] w' ∧ (i ≤ c)) (fun (i, v3) => c - i) (0, v2) ⟨rfl, rfl, rfl, rfl, rfl, rfl, rfl, rfl, rfl, rfl, rfl, rfl, rfl, rfl, trivial⟩ ⟨hs_33, Nat.zero_le _⟩ ?_
            rintro ⟨i, v3⟩ w_19 ⟨hs_34, hi⟩
            show CW _ _ _ _ [(2, (Value.pointer (some ⟨b_1, 0, none⟩))), (3, (Value.pointer (some ⟨b_2, 0, none⟩))), (4, (Value.pointer (some ⟨b_3, 0, none⟩))), (11, v3), (13, (Value.pointer (some ⟨b_5, 0, none⟩))), (14, (Value.int .i64 ((j : Nat) : Int))), (15, (Value.string x)), (16, (Value.int .i64 ((i : Nat) : Int))), (50, v_3), (51, (Value.int .i64 ((([(⟨vw, vc, hv.oneCell, hvc.oneCell⟩ : VV), (⟨vw2, vc2, hv2.oneCell, hvc2.oneCell⟩ : VV)]).length : Nat) : Int))), (52, (Value.int .i64 ((1 : Nat) : Int))), (57, vw2), (58, (Value.int .i64 ((W2.length : Nat) : Int))), (59, (Value.int .i64 ((j : Nat) : Int)))] _
            refine CW.seq ?_
            refine CW.seq ?_
            refine CW.region ?_
            refine RT.ev rfl rfl (Ev.move rfl) ?_
            refine RT.ev rfl rfl (Ev.fieldAddr fld51_1 rfl rfl) ?_
            refine RT.ev rfl rfl (Ev.load scal22 rfl (hs_34.cell (i := 6) (j := 1) rfl rfl)) ?_
            refine RT.ev rfl rfl (Ev.move rfl) ?_
            refine RT.ev rfl rfl (Ev.idxL (E := encN .i64) sl22 rfl rfl (hvc2.ext hs_34.ext) (by omega)) ?_
            refine RT.ev rfl rfl (Ev.ldL (E := encN .i64) scal3 rfl (hvc2.ext hs_34.ext) hcc (by decide) rfl) ?_
            refine RT.ev rfl rfl (Ev.lssN rfl rfl) ?_
            refine RT.nil ?_
            refine CW.condD rfl (fun hc_7 => ?_) (fun hc_7 => ?_)
            · refine CW.skip ?_
              refine CW.seq ?_
              refine CW.block ?_
              refine CW.region ?_
              refine RT.ev rfl rfl (Ev.move rfl) ?_
              refine RT.ev rfl rfl (Ev.move rfl) ?_
              refine RT.eff rfl rfl (OpE.lit1 (encTx) x sl45 rfl hs_34 rfl fun v_6 w_20 hs_35 hch_14 => ?_)
              have hs_35d : Sat w [cObj b_1 51 [vw, vc], cObj b_2 51 [vw2, vc2], cObj b_3 51 [(Value.slice none 0 0), (Value.slice none 0 0)], cL v_2 3 (encN .i64) (C ++ C2), cL v3 9 (encTx) (allN W C ++ allN (W2.take j) (C2.take j) ++ List.replicate i x), cL v_3 51 (encVV) ([(⟨vw, vc, hv.oneCell, hvc.oneCell⟩ : VV), (⟨vw2, vc2, hv2.oneCell, hvc2.oneCell⟩ : VV)]), cObj b_5 51 [vw2, vc2], cL v_6 9 (encTx) ([x])] _ := hs_35
              refine RT.eff rfl rfl (OpE.appendL 4 sl45 hs_35d rfl rfl rfl Try.underlying45 (hs_35d.rdL 7 rfl) (by simp only [List.length_append, List.length_replicate, List.length_cons, List.length_nil]; omega) (by simp only [List.length_append, List.length_replicate, List.length_cons, List.length_nil]; omega) fun v_7 w_21 hs_36 hch_15 => ?_)
              have hs_36d : Sat w [cObj b_1 51 [vw, vc], cObj b_2 51 [vw2, vc2], cObj b_3 51 [(Value.slice none 0 0), (Value.slice none 0 0)], cL v_2 3 (encN .i64) (C ++ C2), cL v_7 9 (encTx) (allN W C ++ allN (W2.take j) (C2.take j) ++ List.replicate i x ++ [x]), cL v_3 51 (encVV) ([(⟨vw, vc, hv.oneCell, hvc.oneCell⟩ : VV), (⟨vw2, vc2, hv2.oneCell, hvc2.oneCell⟩ : VV)]), cObj b_5 51 [vw2, vc2]] _ := hs_36.drop 7
              refine RT.ev rfl rfl (Ev.assign rfl) ?_
              refine RT.nil ?_
              refine CW.region ?_
              refine RT.ev rfl rfl (Ev.move rfl) ?_
              refine RT.ev rfl rfl (Ev.addI (b := 1) rfl rfl (by omega)) ?_
              refine RT.ev rfl rfl (Ev.assign rfl) ?_
              refine RT.nil ?_
              have hs_37 : Sat w [cObj b_1 51 [vw, vc], cObj b_2 51 [vw2, vc2], cObj b_3 51 [(Value.slice none 0 0), (Value.slice none 0 0)], cL v_2 3 (encN .i64) (C ++ C2), cL v_7 9 (encTx) (allN W C ++ allN (W2.take j) (C2.take j) ++ List.replicate (i + 1) x), cL v_3 51 (encVV) ([(⟨vw, vc, hv.oneCell, hvc.oneCell⟩ : VV), (⟨vw2, vc2, hv2.oneCell, hvc2.oneCell⟩ : VV)]), cObj b_5 51 [vw2, vc2]] w_21 := hs_36d.reL 4 rfl (show allN W C ++ allN (W2.take j) (C2.take j) ++ List.replicate i x ++ [x] = allN W C ++ allN (W2.take j) (C2.take j) ++ List.replicate (i + 1) x from by rw [List.replicate_succ', List.append_assoc])
              exact ⟨(i + 1, v_7), ⟨rfl, rfl, rfl, rfl, rfl, rfl, rfl, rfl, rfl, rfl, rfl, rfl, rfl, rfl, trivial⟩, ⟨hs_37, by omega⟩, (show (c - (i + 1)) < (c - i) from by omega)⟩
            · refine CW.exit0 ?_
              refine CW.region ?_
              refine RT.ev rfl rfl (Ev.addI (b := 1) rfl rfl (by omega)) ?_
              refine RT.ev rfl rfl (Ev.move rfl) ?_
              refine RT.nil ?_
              have hs_38 : Sat w [cObj b_1 51 [vw, vc], cObj b_2 51 [vw2, vc2], cObj b_3 51 [(Value.slice none 0 0), (Value.slice none 0 0)], cL v_2 3 (encN .i64) (C ++ C2), cL v3 9 (encTx) (allN W C ++ allN (W2.take (j + 1)) (C2.take (j + 1))), cL v_3 51 (encVV) ([(⟨vw, vc, hv.oneCell, hvc.oneCell⟩ : VV), (⟨vw2, vc2, hv2.oneCell, hvc2.oneCell⟩ : VV)]), cObj b_5 51 [vw2, vc2]] w_19 := hs_34.reL 4 rfl (show allN W C ++ allN (W2.take j) (C2.take j) ++ List.replicate i x = allN W C ++ allN (W2.take (j + 1)) (C2.take (j + 1)) from by rw [hsn, ← List.append_assoc, show i = c by omega])
              exact ⟨(j + 1, v3), ⟨rfl, rfl, rfl, rfl, rfl, rfl, rfl, rfl, rfl, rfl, rfl, trivial⟩, ⟨hs_38, by omega⟩, (show (W2.length - (j + 1)) < (W2.length - j) from by omega)⟩
          · refine CW.exit0 ?_
            refine CW.region ?_
            refine RT.ev rfl rfl (Ev.addI (b := 1) rfl rfl (by omega)) ?_
            refine RT.ev rfl rfl (Ev.move rfl) ?_
            refine RT.nil ?_
            have hs_39 : Sat w [cObj b_1 51 [vw, vc], cObj b_2 51 [vw2, vc2], cObj b_3 51 [(Value.slice none 0 0), (Value.slice none 0 0)], cL v_2 3 (encN .i64) (C ++ C2), cL v2 9 (encTx) (mgA W C W2 C2 (1 + 1)), cL v_3 51 (encVV) ([(⟨vw, vc, hv.oneCell, hvc.oneCell⟩ : VV), (⟨vw2, vc2, hv2.oneCell, hvc2.oneCell⟩ : VV)]), cObj b_5 51 [vw2, vc2]] w_18 := hs_32.reL 4 rfl (show allN W C ++ allN (W2.take j) (C2.take j) = mgA W C W2 C2 (1 + 1) from by rw [show j = W2.length by omega, List.take_length, ← hCl2, List.take_length]; simp [mgA])
            have hs_40 : Sat w [cObj b_1 51 [vw, vc], cObj b_2 51 [vw2, vc2], cObj b_3 51 [(Value.slice none 0 0), (Value.slice none 0 0)], cL v_2 3 (encN .i64) (C ++ C2), cL v2 9 (encTx) (mgA W C W2 C2 (1 + 1)), cL v_3 51 (encVV) ([(⟨vw, vc, hv.oneCell, hvc.oneCell⟩ : VV), (⟨vw2, vc2, hv2.oneCell, hvc2.oneCell⟩ : VV)])] w_18 := hs_39.sub ((.cons_cons _ (.cons_cons _ (.cons_cons _ (.cons_cons _ (.cons_cons _ (.cons_cons _ (.cons _ .slnil))))))))
            exact ⟨(1 + 1, v2), ⟨rfl, rfl, rfl, rfl, rfl, rfl, rfl, trivial⟩, ⟨hs_40, by omega⟩, (show (2 - (1 + 1)) < (2 - 1) from by omega)⟩
      · refine CW.exit0 ?_
        refine CW.seq ?_
        have hs_41 : Sat w [cObj b_1 51 [vw, vc], cObj b_2 51 [vw2, vc2], cObj b_3 51 [(Value.slice none 0 0), (Value.slice none 0 0)], cL v_2 3 (encN .i64) (C ++ C2), cL v 9 (encTx) (allN W C ++ allN W2 C2), cL v_3 51 (encVV) ([(⟨vw, vc, hv.oneCell, hvc.oneCell⟩ : VV), (⟨vw2, vc2, hv2.oneCell, hvc2.oneCell⟩ : VV)])] w_9 := hs_14.reL 4 rfl (show mgA W C W2 C2 k = allN W C ++ allN W2 C2 from by rw [show k = 2 by have h9 : ¬ k < 2 := hc_3; omega]; rfl)
        refine CW.region ?_
        refine RT.ev rfl rfl (Ev.move rfl) ?_
        refine RT.eff rfl rfl (OpE.call ent72 rfl ((rbuild_err (hs_41.rdL 4 rfl) he).mono fun r_1 w_22 h_1 => ?_))
        obtain ⟨rfl, hp_1⟩ := h_1
        have hs_42 : Sat w [cObj b_1 51 [vw, vc], cObj b_2 51 [vw2, vc2], cObj b_3 51 [(Value.slice none 0 0), (Value.slice none 0 0)], cL v_2 3 (encN .i64) (C ++ C2), cL v 9 (encTx) (allN W C ++ allN W2 C2), cL v_3 51 (encVV) ([(⟨vw, vc, hv.oneCell, hvc.oneCell⟩ : VV), (⟨vw2, vc2, hv2.oneCell, hvc2.oneCell⟩ : VV)])] _ := hs_41.adds hp_1
        refine RT.ev rfl rfl (Ev.move rfl) ?_
        refine RT.ev rfl rfl (Ev.extract rfl rfl) ?_
        refine RT.ev rfl rfl (Ev.extract rfl rfl) ?_
        refine RT.ev rfl rfl (Ev.extract rfl rfl) ?_
        refine RT.eff rfl rfl (OpE.alloc hs_42 zero51 fun b_6 w_23 hs_43 hch_16 hb_6 => ?_)
        have hs_43d : Sat w [cObj b_1 51 [vw, vc], cObj b_2 51 [vw2, vc2], cObj b_3 51 [(Value.slice none 0 0), (Value.slice none 0 0)], cL v_2 3 (encN .i64) (C ++ C2), cL v 9 (encTx) (allN W C ++ allN W2 C2), cL v_3 51 (encVV) ([(⟨vw, vc, hv.oneCell, hvc.oneCell⟩ : VV), (⟨vw2, vc2, hv2.oneCell, hvc2.oneCell⟩ : VV)]), cObj b_6 51 [(Value.slice none 0 0), (Value.slice none 0 0)]] _ := hs_43
        refine RT.eff rfl rfl (OpE.storeObjA (vs := [(Value.slice none 0 0), (Value.slice none 0 0)]) agg51 hs_43d (i := 6) rfl rfl rfl rfl (fun v h => by simp only [List.mem_cons, List.not_mem_nil, or_false] at h; rcases h with rfl | rfl; exact rfl; exact rfl) fun w_24 hs_44 hch_17 => ?_)
        have hs_44d : Sat w [cObj b_1 51 [vw, vc], cObj b_2 51 [vw2, vc2], cObj b_3 51 [(Value.slice none 0 0), (Value.slice none 0 0)], cL v_2 3 (encN .i64) (C ++ C2), cL v 9 (encTx) (allN W C ++ allN W2 C2), cL v_3 51 (encVV) ([(⟨vw, vc, hv.oneCell, hvc.oneCell⟩ : VV), (⟨vw2, vc2, hv2.oneCell, hvc2.oneCell⟩ : VV)]), cObj b_6 51 [(Value.slice none 0 0), (Value.slice none 0 0)]] _ := hs_44
        refine RT.ev rfl rfl (Ev.assign rfl) ?_
        refine RT.ev rfl rfl (Ev.assign rfl) ?_
        refine RT.nil ?_
        refine CW.seq ?_
        refine CW.seq ?_
        refine CW.region ?_
        refine RT.ev rfl rfl (Ev.move rfl) ?_
        refine RT.ev rfl rfl (Ev.neqN (b := 0) rfl rfl) ?_
        refine RT.nil ?_
        refine CW.condT rfl (decide_eq_true (fun h9 => he (by omega))) ?_
        refine CW.seq ?_
        refine CW.region ?_
        refine RT.ev rfl rfl (Ev.build bt51 rfl trivial rfl) ?_
        refine RT.ev rfl rfl (Ev.move rfl) ?_
        refine RT.eff rfl rfl (OpE.storeObjA (vs := [(Value.slice none 0 0), (Value.slice none 0 0)]) agg51 hs_44d (i := 2) rfl rfl rfl rfl (fun v h => by simp only [List.mem_cons, List.not_mem_nil, or_false] at h; rcases h with rfl | rfl; exact rfl; exact rfl) fun w_25 hs_45 hch_18 => ?_)
        have hs_45d : Sat w [cObj b_1 51 [vw, vc], cObj b_2 51 [vw2, vc2], cObj b_3 51 [(Value.slice none 0 0), (Value.slice none 0 0)], cL v_2 3 (encN .i64) (C ++ C2), cL v 9 (encTx) (allN W C ++ allN W2 C2), cL v_3 51 (encVV) ([(⟨vw, vc, hv.oneCell, hvc.oneCell⟩ : VV), (⟨vw2, vc2, hv2.oneCell, hvc2.oneCell⟩ : VV)]), cObj b_6 51 [(Value.slice none 0 0), (Value.slice none 0 0)]] _ := hs_45
        refine RT.ev rfl rfl (Ev.assign rfl) ?_
        refine RT.ev rfl rfl (Ev.assign rfl) ?_
        refine RT.ev rfl rfl (Ev.assign rfl) ?_
        refine RT.nil ?_
        refine CW.ret ?_
        show PostK _ _ _ _ _ _
        refine post4c (vs := [(Value.slice none 0 0), (Value.slice none 0 0)]) rfl rfl rfl rfl rfl agg51 (fun j u hu => hs_45d.cell (i := 2) rfl hu) ?_
        have hs_46 : Sat w [] w_25 := hs_45d.sub ((.cons _ (.cons _ (.cons _ (.cons _ (.cons _ (.cons _ (.cons _ .slnil))))))))
        exact ⟨rfl, hs_46⟩

theorem rmerge_good (vw vc vw2 vc2 : Value) (W W2 : List ByteArray) (C C2 : List Nat) (w : World) (hv : RdL w vw encTx W) (hvc : RdL w vc (encN .i64) C) (hv2 : RdL w vw2 encTx W2) (hvc2 : RdL w vc2 (encN .i64) C2) (hCl : C.length = W.length) (hCl2 : C2.length = W2.length) (hs1 : C.sum ≤ 1000000) (hs2 : C2.sum ≤ 1000000) (hn : W.length ≤ 1000000) (hn2 : W2.length ≤ 1000000) (he : bldE (allN W C ++ allN W2 C2) = 0) :
    CallsV Try.prog 48 [(Value.agg #[vw, vc]), (Value.agg #[vw2, vc2])] w fun r w' => ∃ vw3 vc3 v1 v2, r = .tuple #[.agg #[vw3, vc3], v1, v2, .int .i64 0] ∧ Sat w [cL vw3 9 encTx (wordsN (allN W C ++ allN W2 C2)), cL vc3 3 (encN .i64) (countsN (allN W C ++ allN W2 C2)), cL v1 3 (encN .i64) (W.map (lbW (wordsN (allN W C ++ allN W2 C2)))), cL v2 3 (encN .i64) (W2.map (lbW (wordsN (allN W C ++ allN W2 C2))))] w' := by
  have hs0 := Sat.start w
  have hl1 := allN_length hCl
  have hl2 := allN_length hCl2
  have hcl9 : (C ++ C2).length = W.length + W2.length := by rw [List.length_append, hCl, hCl2]
  refine callsV_of Try.func48 rfl rfl ?_
  refine CW.seq ?_
  refine CW.region ?_
  refine RT.eff rfl rfl (OpE.box hs0 rfl fun b_1 w_1 hs_1 hch_1 hb_1 => ?_)
  have hs_1d : Sat w [cObj b_1 51 [vw, vc]] _ := hs_1
  refine RT.eff rfl rfl (OpE.box hs_1d rfl fun b_2 w_2 hs_2 hch_2 hb_2 => ?_)
  have hs_2d : Sat w [cObj b_1 51 [vw, vc], cObj b_2 51 [vw2, vc2]] _ := hs_2
  refine RT.eff rfl rfl (OpE.alloc hs_2d zero51 fun b_3 w_3 hs_3 hch_3 hb_3 => ?_)
  have hs_3d : Sat w [cObj b_1 51 [vw, vc], cObj b_2 51 [vw2, vc2], cObj b_3 51 [(Value.slice none 0 0), (Value.slice none 0 0)]] _ := hs_3
  refine RT.ev rfl rfl (Ev.assign rfl) ?_
  refine RT.ev rfl rfl (Ev.assign rfl) ?_
  refine RT.ev rfl rfl (Ev.assign rfl) ?_
  refine RT.nil ?_
  refine CW.seq ?_
  refine CW.region ?_
  refine RT.ev rfl rfl (Ev.assign rfl) ?_
  refine RT.nil ?_
  refine CW.seq ?_
  refine CW.seq ?_
  refine CW.draw (fun w' => Sat w [cObj b_1 51 [vw, vc], cObj b_2 51 [vw2, vc2], cObj b_3 51 [(Value.slice none 0 0), (Value.slice none 0 0)]] w') (.free 0 (.free 1 (.free 3 (.free 4 (.free 7 (.one 2 (.one 5 (.one 6 .fin)))))))) mixed (by kernel_rfl) ?_
  have hs_4 := hs_3d.drew
  refine RP.ev rfl rfl rfl (fun w' hS' => Ev.fieldAddr fld51_1 rfl rfl) hs_4 ?_
  refine RP.ev rfl rfl rfl (fun w' hS' => Ev.load scal22 rfl (hS'.cell (i := 0) (j := 1) rfl rfl)) hs_4 ?_
  refine RP.ev rfl rfl rfl (fun w' hS' => Ev.fieldAddr fld51_1 rfl rfl) hs_4 ?_
  refine RP.ev rfl rfl rfl (fun w' hS' => Ev.load scal22 rfl (hS'.cell (i := 1) (j := 1) rfl rfl)) hs_4 ?_
  refine RP.ev rfl rfl rfl (fun w' hS' => Ev.move rfl) hs_4 ?_
  have hs_5 : Sat w [cObj b_1 51 [vw, vc], cObj b_2 51 [vw2, vc2], cObj b_3 51 [(Value.slice none 0 0), (Value.slice none 0 0)], cL (Value.slice none 0 0) 3 (encN .i64) ([])] _ := hs_4.newNilL 3 (encN .i64)
  refine RP.eff rfl rfl rfl (OpE.appendL 3 sl22 hs_5 rfl rfl rfl Try.underlying22 (hvc.ext hs_5.ext) (by simp only [List.length_nil]; omega) (by simp only [List.length_nil]; omega) fun v_1 w_4 hs_6 hch_4 => ?_)
  have hs_6d : Sat w [cObj b_1 51 [vw, vc], cObj b_2 51 [vw2, vc2], cObj b_3 51 [(Value.slice none 0 0), (Value.slice none 0 0)], cL v_1 3 (encN .i64) (C)] _ := hs_6
  have hS_1 : Sat w [cObj b_1 51 [vw, vc], cObj b_2 51 [vw2, vc2], cObj b_3 51 [(Value.slice none 0 0), (Value.slice none 0 0)]] _ := hs_6d.sub ((.cons_cons _ (.cons_cons _ (.cons_cons _ (.cons _ .slnil)))))
  refine ⟨hS_1, ?_⟩
  refine RP.eff rfl rfl rfl (OpE.appendL 3 sl22 hs_6d rfl rfl rfl Try.underlying22 (hvc2.ext hs_6d.ext) (by omega) (by omega) fun v_2 w_5 hs_7 hch_5 => ?_)
  have hs_7d : Sat w [cObj b_1 51 [vw, vc], cObj b_2 51 [vw2, vc2], cObj b_3 51 [(Value.slice none 0 0), (Value.slice none 0 0)], cL v_2 3 (encN .i64) (C ++ C2)] _ := hs_7
  have hS_2 : Sat w [cObj b_1 51 [vw, vc], cObj b_2 51 [vw2, vc2], cObj b_3 51 [(Value.slice none 0 0), (Value.slice none 0 0)]] _ := hs_7d.sub ((.cons_cons _ (.cons_cons _ (.cons_cons _ (.cons _ .slnil)))))
  refine ⟨hS_2, ?_⟩
  refine RP.eff rfl rfl rfl (OpE.ev (Ev.lenL Try.underlying22 rfl (hs_7d.rdL 3 rfl)) ⟨hS_2, ?_⟩)
  refine RP.fin ?_
  refine CW.block ?_
  refine CW.loop (α := Nat × Nat) (fun (k, z) => [(2, (Value.pointer (some ⟨b_1, 0, none⟩))), (3, (Value.pointer (some ⟨b_2, 0, none⟩))), (4, (Value.pointer (some ⟨b_3, 0, none⟩))), (8, (Value.int .i64 ((z : Nat) : Int))), (35, v_2), (36, (Value.int .i64 (((C ++ C2).length : Nat) : Int))), (37, (Value.int .i64 ((k : Nat) : Int)))]) (fun (k, z) w' => Sat w [cObj b_1 51 [vw, vc], cObj b_2 51 [vw2, vc2], cObj b_3 51 [(Value.slice none 0 0), (Value.slice none 0 0)], cL v_2 3 (encN .i64) (C ++ C2)] w' ∧ (k ≤ (C ++ C2).length) ∧ (z = ((C ++ C2).take k).sum)) (fun (k, z) => (C ++ C2).length - k) (0, 0) ⟨rfl, rfl, rfl, rfl, rfl, rfl, rfl, trivial⟩ ⟨hs_7d, Nat.zero_le _, rfl⟩ ?_
  rintro ⟨k, z⟩ w_6 ⟨hs_8, hk, hz⟩
  show CW _ _ _ _ [(2, (Value.pointer (some ⟨b_1, 0, none⟩))), (3, (Value.pointer (some ⟨b_2, 0, none⟩))), (4, (Value.pointer (some ⟨b_3, 0, none⟩))), (8, (Value.int .i64 ((z : Nat) : Int))), (35, v_2), (36, (Value.int .i64 (((C ++ C2).length : Nat) : Int))), (37, (Value.int .i64 ((k : Nat) : Int)))] _
  refine CW.seq ?_
  refine CW.region ?_
  refine RT.ev rfl rfl (Ev.lssN rfl rfl) ?_
  refine RT.nil ?_
  refine CW.seq ?_
  refine CW.condD rfl (fun hc_1 => ?_) (fun hc_1 => ?_)
  · refine CW.skip ?_
    refine CW.seq ?_
    refine CW.block ?_
    refine CW.seq ?_
    obtain ⟨x, hx⟩ : ∃ x, (C ++ C2)[k]? = some x := ⟨_, List.getElem?_eq_getElem hc_1⟩
    have hsl := sum_take_le (C ++ C2) (k + 1)
    rw [sum_take_snoc hx, List.sum_append] at hsl
    refine CW.region ?_
    refine RT.ev rfl rfl (Ev.idxL (E := encN .i64) sl22 rfl rfl (hs_8.rdL 3 rfl) (by omega)) ?_
    refine RT.ev rfl rfl (Ev.ldL (E := encN .i64) scal3 rfl (hs_8.rdL 3 rfl) hx (by decide) rfl) ?_
    refine RT.ev rfl rfl (Ev.assign rfl) ?_
    refine RT.nil ?_
    refine CW.region ?_
    refine RT.ev rfl rfl (Ev.move rfl) ?_
    refine RT.ev rfl rfl (Ev.move rfl) ?_
    refine RT.ev rfl rfl (Ev.addI rfl rfl (by omega)) ?_
    refine RT.ev rfl rfl (Ev.assign rfl) ?_
    refine RT.nil ?_
    refine CW.region ?_
    refine RT.ev rfl rfl (Ev.addI (b := 1) rfl rfl (by omega)) ?_
    refine RT.ev rfl rfl (Ev.move rfl) ?_
    refine RT.nil ?_
    exact ⟨(k + 1, (z + x)), ⟨rfl, rfl, rfl, rfl, rfl, rfl, rfl, trivial⟩, ⟨hs_8, by omega, by rw [sum_take_snoc hx, hz]⟩, (show ((C ++ C2).length - (k + 1)) < ((C ++ C2).length - k) from by omega)⟩
  · refine CW.exit0 ?_
    refine CW.seq ?_
    refine CW.seq ?_
    have hzt : z = C.sum + C2.sum := by rw [hz, List.take_of_length_le (by omega), List.sum_append]
    have hvl := bld_vlen he
    rw [List.length_append, hl1, hl2] at hvl
    refine CW.region ?_
    refine RT.ev rfl rfl (Ev.move rfl) ?_
    refine RT.ev rfl rfl (Ev.gtrN (b := 4096) rfl rfl) ?_
    refine RT.nil ?_
    refine CW.condF rfl (decide_eq_false (by omega)) ?_
    refine CW.skip ?_
    refine CW.seq ?_
    refine CW.region ?_
    refine RT.ev rfl rfl (Ev.assign rfl) ?_
    refine RT.nil ?_
    refine CW.seq ?_
    refine CW.seq ?_
    have hs_9 : Sat w [cObj b_1 51 [vw, vc], cObj b_2 51 [vw2, vc2], cObj b_3 51 [(Value.slice none 0 0), (Value.slice none 0 0)], cL v_2 3 (encN .i64) (C ++ C2), cL (Value.slice none 0 0) 9 (encTx) ([])] _ := hs_8.newNilL 9 (encTx)
    refine CW.region ?_
    refine RT.ev rfl rfl (Ev.ldObj agg51 rfl hs_9 (i := 0) rfl rfl) ?_
    refine RT.ev rfl rfl (Ev.ldObj agg51 rfl hs_9 (i := 1) rfl rfl) ?_
    refine RT.eff rfl rfl (OpE.lit2VV (⟨vw, vc, hv.oneCell, hvc.oneCell⟩ : VV) (⟨vw2, vc2, hv2.oneCell, hvc2.oneCell⟩ : VV) sl106 hs_9 rfl rfl fun v_3 w_7 hs_10 hch_6 => ?_)
    have hs_10d : Sat w [cObj b_1 51 [vw, vc], cObj b_2 51 [vw2, vc2], cObj b_3 51 [(Value.slice none 0 0), (Value.slice none 0 0)], cL v_2 3 (encN .i64) (C ++ C2), cL (Value.slice none 0 0) 9 (encTx) ([]), cL v_3 51 (encVV) ([(⟨vw, vc, hv.oneCell, hvc.oneCell⟩ : VV), (⟨vw2, vc2, hv2.oneCell, hvc2.oneCell⟩ : VV)])] _ := hs_10
    refine RT.ev rfl rfl (Ev.lenL Try.underlying106 rfl (hs_10d.rdL 5 rfl)) ?_
    refine RT.ev rfl rfl (Ev.move rfl) ?_
    refine RT.nil ?_
    refine CW.block ?_
    have hs_11 : Sat w [cObj b_1 51 [vw, vc], cObj b_2 51 [vw2, vc2], cObj b_3 51 [(Value.slice none 0 0), (Value.slice none 0 0)], cL v_2 3 (encN .i64) (C ++ C2), cL (Value.slice none 0 0) 9 (encTx) (mgA W C W2 C2 0), cL v_3 51 (encVV) ([(⟨vw, vc, hv.oneCell, hvc.oneCell⟩ : VV), (⟨vw2, vc2, hv2.oneCell, hvc2.oneCell⟩ : VV)])] w_7 := hs_10d.reL 4 rfl (show [] = mgA W C W2 C2 0 from rfl)
    refine CW.loop (α := Nat × Value) (fun (k, v) => [(2, (Value.pointer (some ⟨b_1, 0, none⟩))), (3, (Value.pointer (some ⟨b_2, 0, none⟩))), (4, (Value.pointer (some ⟨b_3, 0, none⟩))), (11, v), (50, v_3), (51, (Value.int .i64 ((([(⟨vw, vc, hv.oneCell, hvc.oneCell⟩ : VV), (⟨vw2, vc2, hv2.oneCell, hvc2.oneCell⟩ : VV)]).length : Nat) : Int))), (52, (Value.int .i64 ((k : Nat) : Int)))]) (fun (k, v) w' => Sat w [cObj b_1 51 [vw, vc], cObj b_2 51 [vw2, vc2], cObj b_3 51 [(Value.slice none 0 0), (Value.slice none 0 0)], cL v_2 3 (encN .i64) (C ++ C2), cL v 9 (encTx) (mgA W C W2 C2 k), cL v_3 51 (encVV) ([(⟨vw, vc, hv.oneCell, hvc.oneCell⟩ : VV), (⟨vw2, vc2, hv2.oneCell, hvc2.oneCell⟩ : VV)])] w' ∧ (k ≤ 2)) (fun (k, v) => 2 - k) (0, (Value.slice none 0 0)) ⟨rfl, rfl, rfl, rfl, rfl, rfl, rfl, trivial⟩ ⟨hs_11, Nat.zero_le _⟩ ?_
    rintro ⟨k, v⟩ w_8 ⟨hs_12, hk⟩
    show CW _ _ _ _ [(2, (Value.pointer (some ⟨b_1, 0, none⟩))), (3, (Value.pointer (some ⟨b_2, 0, none⟩))), (4, (Value.pointer (some ⟨b_3, 0, none⟩))), (11, v), (50, v_3), (51, (Value.int .i64 ((([(⟨vw, vc, hv.oneCell, hvc.oneCell⟩ : VV), (⟨vw2, vc2, hv2.oneCell, hvc2.oneCell⟩ : VV)]).length : Nat) : Int))), (52, (Value.int .i64 ((k : Nat) : Int)))] _
    refine CW.seq ?_
    refine CW.region ?_
    refine RT.ev rfl rfl (Ev.lssN rfl rfl) ?_
    refine RT.nil ?_
    refine CW.seq ?_
    refine CW.condD rfl (fun hc_2 => ?_) (fun hc_2 => ?_)
    · refine CW.skip ?_
      refine CW.seq ?_
      refine CW.block ?_
      refine CW.seq ?_
      rcases (show k = 0 ∨ k = 1 by have h9 : k < 2 := hc_2; omega) with rfl | rfl
      · refine CW.region ?_
        refine RT.ev rfl rfl (Ev.idxL (E := encVV) sl106 rfl rfl (hs_12.rdL 5 rfl) (by omega)) ?_
        refine RT.ev rfl rfl (Ev.ldAgg (E := encVV) agg51 rfl (hs_12.rdL 5 rfl) rfl (by decide)) ?_
        refine RT.eff rfl rfl (OpE.alloc hs_12 zero51 fun b_4 w_9 hs_13 hch_7 hb_4 => ?_)
        have hs_13d : Sat w [cObj b_1 51 [vw, vc], cObj b_2 51 [vw2, vc2], cObj b_3 51 [(Value.slice none 0 0), (Value.slice none 0 0)], cL v_2 3 (encN .i64) (C ++ C2), cL v 9 (encTx) (mgA W C W2 C2 0), cL v_3 51 (encVV) ([(⟨vw, vc, hv.oneCell, hvc.oneCell⟩ : VV), (⟨vw2, vc2, hv2.oneCell, hvc2.oneCell⟩ : VV)]), cObj b_4 51 [(Value.slice none 0 0), (Value.slice none 0 0)]] _ := hs_13
        refine RT.eff rfl rfl (OpE.storeObjA (vs := (encVV).enc (⟨vw, vc, hv.oneCell, hvc.oneCell⟩ : VV)) agg51 hs_13d (i := 6) rfl rfl rfl rfl ((encVV).one _) fun w_10 hs_14 hch_8 => ?_)
        have hs_14d : Sat w [cObj b_1 51 [vw, vc], cObj b_2 51 [vw2, vc2], cObj b_3 51 [(Value.slice none 0 0), (Value.slice none 0 0)], cL v_2 3 (encN .i64) (C ++ C2), cL v 9 (encTx) (mgA W C W2 C2 0), cL v_3 51 (encVV) ([(⟨vw, vc, hv.oneCell, hvc.oneCell⟩ : VV), (⟨vw2, vc2, hv2.oneCell, hvc2.oneCell⟩ : VV)]), cObj b_4 51 [(⟨vw, vc, hv.oneCell, hvc.oneCell⟩ : VV).a, (⟨vw, vc, hv.oneCell, hvc.oneCell⟩ : VV).b]] _ := hs_14
        refine RT.nil ?_
        refine CW.seq ?_
        have hs_15 : Sat w [cObj b_1 51 [vw, vc], cObj b_2 51 [vw2, vc2], cObj b_3 51 [(Value.slice none 0 0), (Value.slice none 0 0)], cL v_2 3 (encN .i64) (C ++ C2), cL v 9 (encTx) (mgA W C W2 C2 0), cL v_3 51 (encVV) ([(⟨vw, vc, hv.oneCell, hvc.oneCell⟩ : VV), (⟨vw2, vc2, hv2.oneCell, hvc2.oneCell⟩ : VV)]), cObj b_4 51 [vw, vc]] w_10 := hs_14d
        refine CW.region ?_
        refine RT.ev rfl rfl (Ev.fieldAddr fld51_0 rfl rfl) ?_
        refine RT.ev rfl rfl (Ev.load scal45 rfl (hs_15.cell (i := 6) (j := 0) rfl rfl)) ?_
        refine RT.ev rfl rfl (Ev.lenL Try.underlying45 rfl (hv.ext hs_15.ext)) ?_
        refine RT.ev rfl rfl (Ev.move rfl) ?_
        refine RT.nil ?_
        refine CW.block ?_
        have hs_16 : Sat w [cObj b_1 51 [vw, vc], cObj b_2 51 [vw2, vc2], cObj b_3 51 [(Value.slice none 0 0), (Value.slice none 0 0)], cL v_2 3 (encN .i64) (C ++ C2), cL v 9 (encTx) (([] : List ByteArray) ++ allN (W.take 0) (C.take 0)), cL v_3 51 (encVV) ([(⟨vw, vc, hv.oneCell, hvc.oneCell⟩ : VV), (⟨vw2, vc2, hv2.oneCell, hvc2.oneCell⟩ : VV)]), cObj b_4 51 [vw, vc]] w_10 := hs_15.reL 4 rfl (show mgA W C W2 C2 0 = ([] : List ByteArray) ++ allN (W.take 0) (C.take 0) from by simp [mgA, allN])
        refine CW.loop (α := Nat × Value) (fun (j, v2) => [(2, (Value.pointer (some ⟨b_1, 0, none⟩))), (3, (Value.pointer (some ⟨b_2, 0, none⟩))), (4, (Value.pointer (some ⟨b_3, 0, none⟩))), (11, v2), (13, (Value.pointer (some ⟨b_4, 0, none⟩))), (50, v_3), (51, (Value.int .i64 ((([(⟨vw, vc, hv.oneCell, hvc.oneCell⟩ : VV), (⟨vw2, vc2, hv2.oneCell, hvc2.oneCell⟩ : VV)]).length : Nat) : Int))), (52, (Value.int .i64 ((0 : Nat) : Int))), (57, vw), (58, (Value.int .i64 ((W.length : Nat) : Int))), (59, (Value.int .i64 ((j : Nat) : Int)))]) (fun (j, v2) w' => Sat w [cObj b_1 51 [vw, vc], cObj b_2 51 [vw2, vc2], cObj b_3 51 [(Value.slice none 0 0), (Value.slice none 0 0)], cL v_2 3 (encN .i64) (C ++ C2), cL v2 9 (encTx) (([] : List ByteArray) ++ allN (W.take j) (C.take j)), cL v_3 51 (encVV) ([(⟨vw, vc, hv.oneCell, hvc.oneCell⟩ : VV), (⟨vw2, vc2, hv2.oneCell, hvc2.oneCell⟩ : VV)]), cObj b_4 51 [vw, vc]] w' ∧ (j ≤ W.length)) (fun (j, v2) => W.length - j) (0, v) ⟨rfl, rfl, rfl, rfl, rfl, rfl, rfl, rfl, rfl, rfl, rfl, trivial⟩ ⟨hs_16, Nat.zero_le _⟩ ?_
        rintro ⟨j, v2⟩ w_11 ⟨hs_17, hj⟩
        show CW _ _ _ _ [(2, (Value.pointer (some ⟨b_1, 0, none⟩))), (3, (Value.pointer (some ⟨b_2, 0, none⟩))), (4, (Value.pointer (some ⟨b_3, 0, none⟩))), (11, v2), (13, (Value.pointer (some ⟨b_4, 0, none⟩))), (50, v_3), (51, (Value.int .i64 ((([(⟨vw, vc, hv.oneCell, hvc.oneCell⟩ : VV), (⟨vw2, vc2, hv2.oneCell, hvc2.oneCell⟩ : VV)]).length : Nat) : Int))), (52, (Value.int .i64 ((0 : Nat) : Int))), (57, vw), (58, (Value.int .i64 ((W.length : Nat) : Int))), (59, (Value.int .i64 ((j : Nat) : Int)))] _
        refine CW.seq ?_
        refine CW.region ?_
        refine RT.ev rfl rfl (Ev.lssN rfl rfl) ?_
        refine RT.nil ?_
        refine CW.seq ?_
        refine CW.condD rfl (fun hc_3 => ?_) (fun hc_3 => ?_)
        · refine CW.skip ?_
          refine CW.seq ?_
          refine CW.block ?_
          refine CW.seq ?_
          obtain ⟨x, hx⟩ : ∃ x, (W)[j]? = some x := ⟨_, List.getElem?_eq_getElem hc_3⟩
          obtain ⟨c, hcc⟩ : ∃ c, (C)[j]? = some c := ⟨_, List.getElem?_eq_getElem (by omega)⟩
          have hal := allN_take_length (k := j) hCl
          have hsl := sum_take_le (C) (j + 1)
          rw [sum_take_snoc hcc] at hsl
          have hsn := allN_snoc hx hcc
          refine CW.region ?_
          refine RT.ev rfl rfl (Ev.move rfl) ?_
          refine RT.ev rfl rfl (Ev.idxL (E := encTx) sl45 rfl rfl (hv.ext hs_17.ext) (by omega)) ?_
          refine RT.ev rfl rfl (Ev.ldL (E := encTx) scal9 rfl (hv.ext hs_17.ext) hx (by decide) rfl) ?_
          refine RT.ev rfl rfl (Ev.assign rfl) ?_
          refine RT.ev rfl rfl (Ev.assign rfl) ?_
          refine RT.nil ?_
          refine CW.seq ?_
          refine CW.region ?_
          refine RT.ev rfl rfl (Ev.assign rfl) ?_
          refine RT.nil ?_
          refine CW.block ?_
          have hs_18 : Sat w [cObj b_1 51 [vw, vc], cObj b_2 51 [vw2, vc2], cObj b_3 51 [(Value.slice none 0 0), (Value.slice none 0 0)], cL v_2 3 (encN .i64) (C ++ C2), cL v2 9 (encTx) (([] : List ByteArray) ++ allN (W.take j) (C.take j) ++ List.replicate 0 x), cL v_3 51 (encVV) ([(⟨vw, vc, hv.oneCell, hvc.oneCell⟩ : VV), (⟨vw2, vc2, hv2.oneCell, hvc2.oneCell⟩ : VV)]), cObj b_4 51 [vw, vc]] w_11 := hs_17.reL 4 rfl (show ([] : List ByteArray) ++ allN (W.take j) (C.take j) = ([] : List ByteArray) ++ allN (W.take j) (C.take j) ++ List.replicate 0 x from by simp)
          refine CW.loop (α := Nat × Value) (fun (i, v3) => [(2, (Value.pointer (some ⟨b_1, 0, none⟩))), (3, (Value.pointer (some ⟨b_2, 0, none⟩))), (4, (Value.pointer (some ⟨b_3, 0, none⟩))), (11, v3), (13, (Value.pointer (some ⟨b_4, 0, none⟩))), (14, (Value.int .i64 ((j : Nat) : Int))), (15, (Value.string x)), (16, (Value.int .i64 ((i : Nat) : Int))), (50, v_3), (51, (Value.int .i64 ((([(⟨vw, vc, hv.oneCell, hvc.oneCell⟩ : VV), (⟨vw2, vc2, hv2.oneCell, hvc2.oneCell⟩ : VV)]).length : Nat) : Int))), (52, (Value.int .i64 ((0 : Nat) : Int))), (57, vw), (58, (Value.int .i64 ((W.length : Nat) : Int))), (59, (Value.int .i64 ((j : Nat) : Int)))]) (fun (i, v3) w' => Sat w [cObj b_1 51 [vw, vc], cObj b_2 51 [vw2, vc2], cObj b_3 51 [(Value.slice none 0 0), (Value.slice none 0 0)], cL v_2 3 (encN .i64) (C ++ C2), cL v3 9 (encTx) (([] : List ByteArray) ++ allN (W.take j) (C.take j) ++ List.replicate i x), cL v_3 51 (encVV) ([(⟨vw, vc, hv.oneCell, hvc.oneCell⟩ : VV), (⟨vw2, vc2, hv2.oneCell, hvc2.oneCell⟩ : VV)]), cObj b_4 51 [vw, vc]] w' ∧ (i ≤ c)) (fun (i, v3) => c - i) (0, v2) ⟨rfl, rfl, rfl, rfl, rfl, rfl, rfl, rfl, rfl, rfl, rfl, rfl, rfl, rfl, trivial⟩ ⟨hs_18, Nat.zero_le _⟩ ?_
          rintro ⟨i, v3⟩ w_12 ⟨hs_19, hi⟩
          show CW _ _ _ _ [(2, (Value.pointer (some ⟨b_1, 0, none⟩))), (3, (Value.pointer (some ⟨b_2, 0, none⟩))), (4, (Value.pointer (some ⟨b_3, 0, none⟩))), (11, v3), (13, (Value.pointer (some ⟨b_4, 0, none⟩))), (14, (Value.int .i64 ((j : Nat) : Int))), (15, (Value.string x)), (16, (Value.int .i64 ((i : Nat) : Int))), (50, v_3), (51, (Value.int .i64 ((([(⟨vw, vc, hv.oneCell, hvc.oneCell⟩ : VV), (⟨vw2, vc2, hv2.oneCell, hvc2.oneCell⟩ : VV)]).length : Nat) : Int))), (52, (Value.int .i64 ((0 : Nat) : Int))), (57, vw), (58, (Value.int .i64 ((W.length : Nat) : Int))), (59, (Value.int .i64 ((j : Nat) : Int)))] _
          refine CW.seq ?_
          refine CW.seq ?_
          refine CW.region ?_
          refine RT.ev rfl rfl (Ev.move rfl) ?_
          refine RT.ev rfl rfl (Ev.fieldAddr fld51_1 rfl rfl) ?_
          refine RT.ev rfl rfl (Ev.load scal22 rfl (hs_19.cell (i := 6) (j := 1) rfl rfl)) ?_
          refine RT.ev rfl rfl (Ev.move rfl) ?_
          refine RT.ev rfl rfl (Ev.idxL (E := encN .i64) sl22 rfl rfl (hvc.ext hs_19.ext) (by omega)) ?_
          refine RT.ev rfl rfl (Ev.ldL (E := encN .i64) scal3 rfl (hvc.ext hs_19.ext) hcc (by decide) rfl) ?_
          refine RT.ev rfl rfl (Ev.lssN rfl rfl) ?_
          refine RT.nil ?_
          refine CW.condD rfl (fun hc_4 => ?_) (fun hc_4 => ?_)
          · refine CW.skip ?_
            refine CW.seq ?_
            refine CW.block ?_
            refine CW.region ?_
            refine RT.ev rfl rfl (Ev.move rfl) ?_
            refine RT.ev rfl rfl (Ev.move rfl) ?_
            refine RT.eff rfl rfl (OpE.lit1 (encTx) x sl45 rfl hs_19 rfl fun v_4 w_13 hs_20 hch_9 => ?_)
            have hs_20d : Sat w [cObj b_1 51 [vw, vc], cObj b_2 51 [vw2, vc2], cObj b_3 51 [(Value.slice none 0 0), (Value.slice none 0 0)], cL v_2 3 (encN .i64) (C ++ C2), cL v3 9 (encTx) (([] : List ByteArray) ++ allN (W.take j) (C.take j) ++ List.replicate i x), cL v_3 51 (encVV) ([(⟨vw, vc, hv.oneCell, hvc.oneCell⟩ : VV), (⟨vw2, vc2, hv2.oneCell, hvc2.oneCell⟩ : VV)]), cObj b_4 51 [vw, vc], cL v_4 9 (encTx) ([x])] _ := hs_20
            refine RT.eff rfl rfl (OpE.appendL 4 sl45 hs_20d rfl rfl rfl Try.underlying45 (hs_20d.rdL 7 rfl) (by simp only [List.length_append, List.length_replicate, List.length_cons, List.length_nil]; omega) (by simp only [List.length_append, List.length_replicate, List.length_cons, List.length_nil]; omega) fun v_5 w_14 hs_21 hch_10 => ?_)
            have hs_21d : Sat w [cObj b_1 51 [vw, vc], cObj b_2 51 [vw2, vc2], cObj b_3 51 [(Value.slice none 0 0), (Value.slice none 0 0)], cL v_2 3 (encN .i64) (C ++ C2), cL v_5 9 (encTx) (([] : List ByteArray) ++ allN (W.take j) (C.take j) ++ List.replicate i x ++ [x]), cL v_3 51 (encVV) ([(⟨vw, vc, hv.oneCell, hvc.oneCell⟩ : VV), (⟨vw2, vc2, hv2.oneCell, hvc2.oneCell⟩ : VV)]), cObj b_4 51 [vw, vc]] _ := hs_21.drop 7
            refine RT.ev rfl rfl (Ev.assign rfl) ?_
            refine RT.nil ?_
            refine CW.region ?_
            refine RT.ev rfl rfl (Ev.move rfl) ?_
            refine RT.ev rfl rfl (Ev.addI (b := 1) rfl rfl (by omega)) ?_
            refine RT.ev rfl rfl (Ev.assign rfl) ?_
            refine RT.nil ?_
            have hs_22 : Sat w [cObj b_1 51 [vw, vc], cObj b_2 51 [vw2, vc2], cObj b_3 51 [(Value.slice none 0 0), (Value.slice none 0 0)], cL v_2 3 (encN .i64) (C ++ C2), cL v_5 9 (encTx) (([] : List ByteArray) ++ allN (W.take j) (C.take j) ++ List.replicate (i + 1) x), cL v_3 51 (encVV) ([(⟨vw, vc, hv.oneCell, hvc.oneCell⟩ : VV), (⟨vw2, vc2, hv2.oneCell, hvc2.oneCell⟩ : VV)]), cObj b_4 51 [vw, vc]] w_14 := hs_21d.reL 4 rfl (show ([] : List ByteArray) ++ allN (W.take j) (C.take j) ++ List.replicate i x ++ [x] = ([] : List ByteArray) ++ allN (W.take j) (C.take j) ++ List.replicate (i + 1) x from by rw [List.replicate_succ', List.append_assoc])
            exact ⟨(i + 1, v_5), ⟨rfl, rfl, rfl, rfl, rfl, rfl, rfl, rfl, rfl, rfl, rfl, rfl, rfl, rfl, trivial⟩, ⟨hs_22, by omega⟩, (show (c - (i + 1)) < (c - i) from by omega)⟩
          · refine CW.exit0 ?_
            refine CW.region ?_
            refine RT.ev rfl rfl (Ev.addI (b := 1) rfl rfl (by omega)) ?_
            refine RT.ev rfl rfl (Ev.move rfl) ?_
            refine RT.nil ?_
            have hs_23 : Sat w [cObj b_1 51 [vw, vc], cObj b_2 51 [vw2, vc2], cObj b_3 51 [(Value.slice none 0 0), (Value.slice none 0 0)], cL v_2 3 (encN .i64) (C ++ C2), cL v3 9 (encTx) (([] : List ByteArray) ++ allN (W.take (j + 1)) (C.take (j + 1))), cL v_3 51 (encVV) ([(⟨vw, vc, hv.oneCell, hvc.oneCell⟩ : VV), (⟨vw2, vc2, hv2.oneCell, hvc2.oneCell⟩ : VV)]), cObj b_4 51 [vw, vc]] w_12 := hs_19.reL 4 rfl (show ([] : List ByteArray) ++ allN (W.take j) (C.take j) ++ List.replicate i x = ([] : List ByteArray) ++ allN (W.take (j + 1)) (C.take (j + 1)) from by rw [hsn, ← List.append_assoc, show i = c by omega])
            exact ⟨(j + 1, v3), ⟨rfl, rfl, rfl, rfl, rfl, rfl, rfl, rfl, rfl, rfl, rfl, trivial⟩, ⟨hs_23, by omega⟩, (show (W.length - (j + 1)) < (W.length - j) from by omega)⟩
        · refine CW.exit0 ?_
          refine CW.region ?_
          refine RT.ev rfl rfl (Ev.addI (b := 1) rfl rfl (by omega)) ?_
          refine RT.ev rfl rfl (Ev.move rfl) ?_
          refine RT.nil ?_
          have hs_24 : Sat w [cObj b_1 51 [vw, vc], cObj b_2 51 [vw2, vc2], cObj b_3 51 [(Value.slice none 0 0), (Value.slice none 0 0)], cL v_2 3 (encN .i64) (C ++ C2), cL v2 9 (encTx) (mgA W C W2 C2 (0 + 1)), cL v_3 51 (encVV) ([(⟨vw, vc, hv.oneCell, hvc.oneCell⟩ : VV), (⟨vw2, vc2, hv2.oneCell, hvc2.oneCell⟩ : VV)]), cObj b_4 51 [vw, vc]] w_11 := hs_17.reL 4 rfl (show ([] : List ByteArray) ++ allN (W.take j) (C.take j) = mgA W C W2 C2 (0 + 1) from by rw [show j = W.length by omega, List.take_length, ← hCl, List.take_length]; simp [mgA])
          have hs_25 : Sat w [cObj b_1 51 [vw, vc], cObj b_2 51 [vw2, vc2], cObj b_3 51 [(Value.slice none 0 0), (Value.slice none 0 0)], cL v_2 3 (encN .i64) (C ++ C2), cL v2 9 (encTx) (mgA W C W2 C2 (0 + 1)), cL v_3 51 (encVV) ([(⟨vw, vc, hv.oneCell, hvc.oneCell⟩ : VV), (⟨vw2, vc2, hv2.oneCell, hvc2.oneCell⟩ : VV)])] w_11 := hs_24.sub ((.cons_cons _ (.cons_cons _ (.cons_cons _ (.cons_cons _ (.cons_cons _ (.cons_cons _ (.cons _ .slnil))))))))
          exact ⟨(0 + 1, v2), ⟨rfl, rfl, rfl, rfl, rfl, rfl, rfl, trivial⟩, ⟨hs_25, by omega⟩, (show (2 - (0 + 1)) < (2 - 0) from by omega)⟩
      · refine CW.region ?_
        refine RT.ev rfl rfl (Ev.idxL (E := encVV) sl106 rfl rfl (hs_12.rdL 5 rfl) (by omega)) ?_
        refine RT.ev rfl rfl (Ev.ldAgg (E := encVV) agg51 rfl (hs_12.rdL 5 rfl) rfl (by decide)) ?_
        refine RT.eff rfl rfl (OpE.alloc hs_12 zero51 fun b_5 w_15 hs_26 hch_11 hb_5 => ?_)
        have hs_26d : Sat w [cObj b_1 51 [vw, vc], cObj b_2 51 [vw2, vc2], cObj b_3 51 [(Value.slice none 0 0), (Value.slice none 0 0)], cL v_2 3 (encN .i64) (C ++ C2), cL v 9 (encTx) (mgA W C W2 C2 1), cL v_3 51 (encVV) ([(⟨vw, vc, hv.oneCell, hvc.oneCell⟩ : VV), (⟨vw2, vc2, hv2.oneCell, hvc2.oneCell⟩ : VV)]), cObj b_5 51 [(Value.slice none 0 0), (Value.slice none 0 0)]] _ := hs_26
        refine RT.eff rfl rfl (OpE.storeObjA (vs := (encVV).enc (⟨vw2, vc2, hv2.oneCell, hvc2.oneCell⟩ : VV)) agg51 hs_26d (i := 6) rfl rfl rfl rfl ((encVV).one _) fun w_16 hs_27 hch_12 => ?_)
        have hs_27d : Sat w [cObj b_1 51 [vw, vc], cObj b_2 51 [vw2, vc2], cObj b_3 51 [(Value.slice none 0 0), (Value.slice none 0 0)], cL v_2 3 (encN .i64) (C ++ C2), cL v 9 (encTx) (mgA W C W2 C2 1), cL v_3 51 (encVV) ([(⟨vw, vc, hv.oneCell, hvc.oneCell⟩ : VV), (⟨vw2, vc2, hv2.oneCell, hvc2.oneCell⟩ : VV)]), cObj b_5 51 [(⟨vw2, vc2, hv2.oneCell, hvc2.oneCell⟩ : VV).a, (⟨vw2, vc2, hv2.oneCell, hvc2.oneCell⟩ : VV).b]] _ := hs_27
        refine RT.nil ?_
        refine CW.seq ?_
        have hs_28 : Sat w [cObj b_1 51 [vw, vc], cObj b_2 51 [vw2, vc2], cObj b_3 51 [(Value.slice none 0 0), (Value.slice none 0 0)], cL v_2 3 (encN .i64) (C ++ C2), cL v 9 (encTx) (mgA W C W2 C2 1), cL v_3 51 (encVV) ([(⟨vw, vc, hv.oneCell, hvc.oneCell⟩ : VV), (⟨vw2, vc2, hv2.oneCell, hvc2.oneCell⟩ : VV)]), cObj b_5 51 [vw2, vc2]] w_16 := hs_27d
        refine CW.region ?_
        refine RT.ev rfl rfl (Ev.fieldAddr fld51_0 rfl rfl) ?_
        refine RT.ev rfl rfl (Ev.load scal45 rfl (hs_28.cell (i := 6) (j := 0) rfl rfl)) ?_
        refine RT.ev rfl rfl (Ev.lenL Try.underlying45 rfl (hv2.ext hs_28.ext)) ?_
        refine RT.ev rfl rfl (Ev.move rfl) ?_
        refine RT.nil ?_
        refine CW.block ?_
        have hs_29 : Sat w [cObj b_1 51 [vw, vc], cObj b_2 51 [vw2, vc2], cObj b_3 51 [(Value.slice none 0 0), (Value.slice none 0 0)], cL v_2 3 (encN .i64) (C ++ C2), cL v 9 (encTx) (allN W C ++ allN (W2.take 0) (C2.take 0)), cL v_3 51 (encVV) ([(⟨vw, vc, hv.oneCell, hvc.oneCell⟩ : VV), (⟨vw2, vc2, hv2.oneCell, hvc2.oneCell⟩ : VV)]), cObj b_5 51 [vw2, vc2]] w_16 := hs_28.reL 4 rfl (show mgA W C W2 C2 1 = allN W C ++ allN (W2.take 0) (C2.take 0) from by simp [mgA, allN])
        refine CW.loop (α := Nat × Value) (fun (j, v2) => [(2, (Value.pointer (some ⟨b_1, 0, none⟩))), (3, (Value.pointer (some ⟨b_2, 0, none⟩))), (4, (Value.pointer (some ⟨b_3, 0, none⟩))), (11, v2), (13, (Value.pointer (some ⟨b_5, 0, none⟩))), (50, v_3), (51, (Value.int .i64 ((([(⟨vw, vc, hv.oneCell, hvc.oneCell⟩ : VV), (⟨vw2, vc2, hv2.oneCell, hvc2.oneCell⟩ : VV)]).length : Nat) : Int))), (52, (Value.int .i64 ((1 : Nat) : Int))), (57, vw2), (58, (Value.int .i64 ((W2.length : Nat) : Int))), (59, (Value.int .i64 ((j : Nat) : Int)))]) (fun (j, v2) w' => Sat w [cObj b_1 51 [vw, vc], cObj b_2 51 [vw2, vc2], cObj b_3 51 [(Value.slice none 0 0), (Value.slice none 0 0)], cL v_2 3 (encN .i64) (C ++ C2), cL v2 9 (encTx) (allN W C ++ allN (W2.take j) (C2.take j)), cL v_3 51 (encVV) ([(⟨vw, vc, hv.oneCell, hvc.oneCell⟩ : VV), (⟨vw2, vc2, hv2.oneCell, hvc2.oneCell⟩ : VV)]), cObj b_5 51 [vw2, vc2]] w' ∧ (j ≤ W2.length)) (fun (j, v2) => W2.length - j) (0, v) ⟨rfl, rfl, rfl, rfl, rfl, rfl, rfl, rfl, rfl, rfl, rfl, trivial⟩ ⟨hs_29, Nat.zero_le _⟩ ?_
        rintro ⟨j, v2⟩ w_17 ⟨hs_30, hj⟩
        show CW _ _ _ _ [(2, (Value.pointer (some ⟨b_1, 0, none⟩))), (3, (Value.pointer (some ⟨b_2, 0, none⟩))), (4, (Value.pointer (some ⟨b_3, 0, none⟩))), (11, v2), (13, (Value.pointer (some ⟨b_5, 0, none⟩))), (50, v_3), (51, (Value.int .i64 ((([(⟨vw, vc, hv.oneCell, hvc.oneCell⟩ : VV), (⟨vw2, vc2, hv2.oneCell, hvc2.oneCell⟩ : VV)]).length : Nat) : Int))), (52, (Value.int .i64 ((1 : Nat) : Int))), (57, vw2), (58, (Value.int .i64 ((W2.length : Nat) : Int))), (59, (Value.int .i64 ((j : Nat) : Int)))] _
        refine CW.seq ?_
        refine CW.region ?_
        refine RT.ev rfl rfl (Ev.lssN rfl rfl) ?_
        refine RT.nil ?_
        refine CW.seq ?_
        refine CW.condD rfl (fun hc_5 => ?_) (fun hc_5 => ?_)
        · refine CW.skip ?_
          refine CW.seq ?_
          refine CW.block ?_
          refine CW.seq ?_
          obtain ⟨x, hx⟩ : ∃ x, (W2)[j]? = some x := ⟨_, List.getElem?_eq_getElem hc_5⟩
          obtain ⟨c, hcc⟩ : ∃ c, (C2)[j]? = some c := ⟨_, List.getElem?_eq_getElem (by omega)⟩
          have hal := allN_take_length (k := j) hCl2
          have hsl := sum_take_le (C2) (j + 1)
          rw [sum_take_snoc hcc] at hsl
          have hsn := allN_snoc hx hcc
          refine CW.region ?_
          refine RT.ev rfl rfl (Ev.move rfl) ?_
          refine RT.ev rfl rfl (Ev.idxL (E := encTx) sl45 rfl rfl (hv2.ext hs_30.ext) (by omega)) ?_
          refine RT.ev rfl rfl (Ev.ldL (E := encTx) scal9 rfl (hv2.ext hs_30.ext) hx (by decide) rfl) ?_
          refine RT.ev rfl rfl (Ev.assign rfl) ?_
          refine RT.ev rfl rfl (Ev.assign rfl) ?_
          refine RT.nil ?_
          refine CW.seq ?_
          refine CW.region ?_
          refine RT.ev rfl rfl (Ev.assign rfl) ?_
          refine RT.nil ?_
          refine CW.block ?_
          have hs_31 : Sat w [cObj b_1 51 [vw, vc], cObj b_2 51 [vw2, vc2], cObj b_3 51 [(Value.slice none 0 0), (Value.slice none 0 0)], cL v_2 3 (encN .i64) (C ++ C2), cL v2 9 (encTx) (allN W C ++ allN (W2.take j) (C2.take j) ++ List.replicate 0 x), cL v_3 51 (encVV) ([(⟨vw, vc, hv.oneCell, hvc.oneCell⟩ : VV), (⟨vw2, vc2, hv2.oneCell, hvc2.oneCell⟩ : VV)]), cObj b_5 51 [vw2, vc2]] w_17 := hs_30.reL 4 rfl (show allN W C ++ allN (W2.take j) (C2.take j) = allN W C ++ allN (W2.take j) (C2.take j) ++ List.replicate 0 x from by simp)
          refine CW.loop (α := Nat × Value) (fun (i, v3) => [(2, (Value.pointer (some ⟨b_1, 0, none⟩))), (3, (Value.pointer (some ⟨b_2, 0, none⟩))), (4, (Value.pointer (some ⟨b_3, 0, none⟩))), (11, v3), (13, (Value.pointer (some ⟨b_5, 0, none⟩))), (14, (Value.int .i64 ((j : Nat) : Int))), (15, (Value.string x)), (16, (Value.int .i64 ((i : Nat) : Int))), (50, v_3), (51, (Value.int .i64 ((([(⟨vw, vc, hv.oneCell, hvc.oneCell⟩ : VV), (⟨vw2, vc2, hv2.oneCell, hvc2.oneCell⟩ : VV)]).length : Nat) : Int))), (52, (Value.int .i64 ((1 : Nat) : Int))), (57, vw2), (58, (Value.int .i64 ((W2.length : Nat) : Int))), (59, (Value.int .i64 ((j : Nat) : Int)))]) (fun (i, v3) w' => Sat w [cObj b_1 51 [vw, vc], cObj b_2 51 [vw2, vc2], cObj b_3 51 [(Value.slice none 0 0), (Value.slice none 0 0)], cL v_2 3 (encN .i64) (C ++ C2), cL v3 9 (encTx) (allN W C ++ allN (W2.take j) (C2.take j) ++ List.replicate i x), cL v_3 51 (encVV) ([(⟨vw, vc, hv.oneCell, hvc.oneCell⟩ : VV), (⟨vw2, vc2, hv2.oneCell, hvc2.oneCell⟩ : VV)]), cObj b_5 51 [vw2, vc2]] w' ∧ (i ≤ c)) (fun (i, v3) => c - i) (0, v2) ⟨rfl, rfl, rfl, rfl, rfl, rfl, rfl, rfl, rfl, rfl, rfl, rfl, rfl, rfl, trivial⟩ ⟨hs_31, Nat.zero_le _⟩ ?_
          rintro ⟨i, v3⟩ w_18 ⟨hs_32, hi⟩
          show CW _ _ _ _ [(2, (Value.pointer (some ⟨b_1, 0, none⟩))), (3, (Value.pointer (some ⟨b_2, 0, none⟩))), (4, (Value.pointer (some ⟨b_3, 0, none⟩))), (11, v3), (13, (Value.pointer (some ⟨b_5, 0, none⟩))), (14, (Value.int .i64 ((j : Nat) : Int))), (15, (Value.string x)), (16, (Value.int .i64 ((i : Nat) : Int))), (50, v_3), (51, (Value.int .i64 ((([(⟨vw, vc, hv.oneCell, hvc.oneCell⟩ : VV), (⟨vw2, vc2, hv2.oneCell, hvc2.oneCell⟩ : VV)]).length : Nat) : Int))), (52, (Value.int .i64 ((1 : Nat) : Int))), (57, vw2), (58, (Value.int .i64 ((W2.length : Nat) : Int))), (59, (Value.int .i64 ((j : Nat) : Int)))] _
          refine CW.seq ?_
          refine CW.seq ?_
          refine CW.region ?_
          refine RT.ev rfl rfl (Ev.move rfl) ?_
          refine RT.ev rfl rfl (Ev.fieldAddr fld51_1 rfl rfl) ?_
          refine RT.ev rfl rfl (Ev.load scal22 rfl (hs_32.cell (i := 6) (j := 1) rfl rfl)) ?_
          refine RT.ev rfl rfl (Ev.move rfl) ?_
          refine RT.ev rfl rfl (Ev.idxL (E := encN .i64) sl22 rfl rfl (hvc2.ext hs_32.ext) (by omega)) ?_
          refine RT.ev rfl rfl (Ev.ldL (E := encN .i64) scal3 rfl (hvc2.ext hs_32.ext) hcc (by decide) rfl) ?_
          refine RT.ev rfl rfl (Ev.lssN rfl rfl) ?_
          refine RT.nil ?_
          refine CW.condD rfl (fun hc_6 => ?_) (fun hc_6 => ?_)
          · refine CW.skip ?_
            refine CW.seq ?_
            refine CW.block ?_
            refine CW.region ?_
            refine RT.ev rfl rfl (Ev.move rfl) ?_
            refine RT.ev rfl rfl (Ev.move rfl) ?_
            refine RT.eff rfl rfl (OpE.lit1 (encTx) x sl45 rfl hs_32 rfl fun v_6 w_19 hs_33 hch_13 => ?_)
            have hs_33d : Sat w [cObj b_1 51 [vw, vc], cObj b_2 51 [vw2, vc2], cObj b_3 51 [(Value.slice none 0 0), (Value.slice none 0 0)], cL v_2 3 (encN .i64) (C ++ C2), cL v3 9 (encTx) (allN W C ++ allN (W2.take j) (C2.take j) ++ List.replicate i x), cL v_3 51 (encVV) ([(⟨vw, vc, hv.oneCell, hvc.oneCell⟩ : VV), (⟨vw2, vc2, hv2.oneCell, hvc2.oneCell⟩ : VV)]), cObj b_5 51 [vw2, vc2], cL v_6 9 (encTx) ([x])] _ := hs_33
            refine RT.eff rfl rfl (OpE.appendL 4 sl45 hs_33d rfl rfl rfl Try.underlying45 (hs_33d.rdL 7 rfl) (by simp only [List.length_append, List.length_replicate, List.length_cons, List.length_nil]; omega) (by simp only [List.length_append, List.length_replicate, List.length_cons, List.length_nil]; omega) fun v_7 w_20 hs_34 hch_14 => ?_)
            have hs_34d : Sat w [cObj b_1 51 [vw, vc], cObj b_2 51 [vw2, vc2], cObj b_3 51 [(Value.slice none 0 0), (Value.slice none 0 0)], cL v_2 3 (encN .i64) (C ++ C2), cL v_7 9 (encTx) (allN W C ++ allN (W2.take j) (C2.take j) ++ List.replicate i x ++ [x]), cL v_3 51 (encVV) ([(⟨vw, vc, hv.oneCell, hvc.oneCell⟩ : VV), (⟨vw2, vc2, hv2.oneCell, hvc2.oneCell⟩ : VV)]), cObj b_5 51 [vw2, vc2]] _ := hs_34.drop 7
            refine RT.ev rfl rfl (Ev.assign rfl) ?_
            refine RT.nil ?_
            refine CW.region ?_
            refine RT.ev rfl rfl (Ev.move rfl) ?_
            refine RT.ev rfl rfl (Ev.addI (b := 1) rfl rfl (by omega)) ?_
            refine RT.ev rfl rfl (Ev.assign rfl) ?_
            refine RT.nil ?_
            have hs_35 : Sat w [cObj b_1 51 [vw, vc], cObj b_2 51 [vw2, vc2], cObj b_3 51 [(Value.slice none 0 0), (Value.slice none 0 0)], cL v_2 3 (encN .i64) (C ++ C2), cL v_7 9 (encTx) (allN W C ++ allN (W2.take j) (C2.take j) ++ List.replicate (i + 1) x), cL v_3 51 (encVV) ([(⟨vw, vc, hv.oneCell, hvc.oneCell⟩ : VV), (⟨vw2, vc2, hv2.oneCell, hvc2.oneCell⟩ : VV)]), cObj b_5 51 [vw2, vc2]] w_20 := hs_34d.reL 4 rfl (show allN W C ++ allN (W2.take j) (C2.take j) ++ List.replicate i x ++ [x] = allN W C ++ allN (W2.take j) (C2.take j) ++ List.replicate (i + 1) x from by rw [List.replicate_succ', List.append_assoc])
            exact ⟨(i + 1, v_7), ⟨rfl, rfl, rfl, rfl, rfl, rfl, rfl, rfl, rfl, rfl, rfl, rfl, rfl, rfl, trivial⟩, ⟨hs_35, by omega⟩, (show (c - (i + 1)) < (c - i) from by omega)⟩
          · refine CW.exit0 ?_
            refine CW.region ?_
            refine RT.ev rfl rfl (Ev.addI (b := 1) rfl rfl (by omega)) ?_
            refine RT.ev rfl rfl (Ev.move rfl) ?_
            refine RT.nil ?_
            have hs_36 : Sat w [cObj b_1 51 [vw, vc], cObj b_2 51 [vw2, vc2], cObj b_3 51 [(Value.slice none 0 0), (Value.slice none 0 0)], cL v_2 3 (encN .i64) (C ++ C2), cL v3 9 (encTx) (allN W C ++ allN (W2.take (j + 1)) (C2.take (j + 1))), cL v_3 51 (encVV) ([(⟨vw, vc, hv.oneCell, hvc.oneCell⟩ : VV), (⟨vw2, vc2, hv2.oneCell, hvc2.oneCell⟩ : VV)]), cObj b_5 51 [vw2, vc2]] w_18 := hs_32.reL 4 rfl (show allN W C ++ allN (W2.take j) (C2.take j) ++ List.replicate i x = allN W C ++ allN (W2.take (j + 1)) (C2.take (j + 1)) from by rw [hsn, ← List.append_assoc, show i = c by omega])
            exact ⟨(j + 1, v3), ⟨rfl, rfl, rfl, rfl, rfl, rfl, rfl, rfl, rfl, rfl, rfl, trivial⟩, ⟨hs_36, by omega⟩, (show (W2.length - (j + 1)) < (W2.length - j) from by omega)⟩
        · refine CW.exit0 ?_
          refine CW.region ?_
          refine RT.ev rfl rfl (Ev.addI (b := 1) rfl rfl (by omega)) ?_
          refine RT.ev rfl rfl (Ev.move rfl) ?_
          refine RT.nil ?_
          have hs_37 : Sat w [cObj b_1 51 [vw, vc], cObj b_2 51 [vw2, vc2], cObj b_3 51 [(Value.slice none 0 0), (Value.slice none 0 0)], cL v_2 3 (encN .i64) (C ++ C2), cL v2 9 (encTx) (mgA W C W2 C2 (1 + 1)), cL v_3 51 (encVV) ([(⟨vw, vc, hv.oneCell, hvc.oneCell⟩ : VV), (⟨vw2, vc2, hv2.oneCell, hvc2.oneCell⟩ : VV)]), cObj b_5 51 [vw2, vc2]] w_17 := hs_30.reL 4 rfl (show allN W C ++ allN (W2.take j) (C2.take j) = mgA W C W2 C2 (1 + 1) from by rw [show j = W2.length by omega, List.take_length, ← hCl2, List.take_length]; simp [mgA])
          have hs_38 : Sat w [cObj b_1 51 [vw, vc], cObj b_2 51 [vw2, vc2], cObj b_3 51 [(Value.slice none 0 0), (Value.slice none 0 0)], cL v_2 3 (encN .i64) (C ++ C2), cL v2 9 (encTx) (mgA W C W2 C2 (1 + 1)), cL v_3 51 (encVV) ([(⟨vw, vc, hv.oneCell, hvc.oneCell⟩ : VV), (⟨vw2, vc2, hv2.oneCell, hvc2.oneCell⟩ : VV)])] w_17 := hs_37.sub ((.cons_cons _ (.cons_cons _ (.cons_cons _ (.cons_cons _ (.cons_cons _ (.cons_cons _ (.cons _ .slnil))))))))
          exact ⟨(1 + 1, v2), ⟨rfl, rfl, rfl, rfl, rfl, rfl, rfl, trivial⟩, ⟨hs_38, by omega⟩, (show (2 - (1 + 1)) < (2 - 1) from by omega)⟩
    · refine CW.exit0 ?_
      refine CW.seq ?_
      have hs_39 : Sat w [cObj b_1 51 [vw, vc], cObj b_2 51 [vw2, vc2], cObj b_3 51 [(Value.slice none 0 0), (Value.slice none 0 0)], cL v_2 3 (encN .i64) (C ++ C2), cL v 9 (encTx) (allN W C ++ allN W2 C2), cL v_3 51 (encVV) ([(⟨vw, vc, hv.oneCell, hvc.oneCell⟩ : VV), (⟨vw2, vc2, hv2.oneCell, hvc2.oneCell⟩ : VV)])] w_8 := hs_12.reL 4 rfl (show mgA W C W2 C2 k = allN W C ++ allN W2 C2 from by rw [show k = 2 by have h9 : ¬ k < 2 := hc_2; omega]; rfl)
      refine CW.region ?_
      refine RT.ev rfl rfl (Ev.move rfl) ?_
      refine RT.eff rfl rfl (OpE.call ent72 rfl ((rbuild_good (hs_39.rdL 4 rfl) he).mono fun r_1 w_21 h_1 => ?_))
      obtain ⟨rvw_1, rvc_1, rvn_1, rfl, hp_1⟩ := h_1
      have hs_40 : Sat w [cObj b_1 51 [vw, vc], cObj b_2 51 [vw2, vc2], cObj b_3 51 [(Value.slice none 0 0), (Value.slice none 0 0)], cL v_2 3 (encN .i64) (C ++ C2), cL v 9 (encTx) (allN W C ++ allN W2 C2), cL v_3 51 (encVV) ([(⟨vw, vc, hv.oneCell, hvc.oneCell⟩ : VV), (⟨vw2, vc2, hv2.oneCell, hvc2.oneCell⟩ : VV)]), cL rvw_1 9 (encTx) (wordsN (allN W C ++ allN W2 C2)), cL rvc_1 3 (encN .i64) (countsN (allN W C ++ allN W2 C2)), cL rvn_1 3 (encN .i64) ((allN W C ++ allN W2 C2).map (lbW (wordsN (allN W C ++ allN W2 C2))))] _ := hs_39.adds hp_1
      refine RT.ev rfl rfl (Ev.move rfl) ?_
      refine RT.ev rfl rfl (Ev.extract rfl rfl) ?_
      refine RT.ev rfl rfl (Ev.extract rfl rfl) ?_
      refine RT.ev rfl rfl (Ev.extract rfl rfl) ?_
      refine RT.eff rfl rfl (OpE.alloc hs_40 zero51 fun b_6 w_22 hs_41 hch_15 hb_6 => ?_)
      have hs_41d : Sat w [cObj b_1 51 [vw, vc], cObj b_2 51 [vw2, vc2], cObj b_3 51 [(Value.slice none 0 0), (Value.slice none 0 0)], cL v_2 3 (encN .i64) (C ++ C2), cL v 9 (encTx) (allN W C ++ allN W2 C2), cL v_3 51 (encVV) ([(⟨vw, vc, hv.oneCell, hvc.oneCell⟩ : VV), (⟨vw2, vc2, hv2.oneCell, hvc2.oneCell⟩ : VV)]), cL rvw_1 9 (encTx) (wordsN (allN W C ++ allN W2 C2)), cL rvc_1 3 (encN .i64) (countsN (allN W C ++ allN W2 C2)), cL rvn_1 3 (encN .i64) ((allN W C ++ allN W2 C2).map (lbW (wordsN (allN W C ++ allN W2 C2)))), cObj b_6 51 [(Value.slice none 0 0), (Value.slice none 0 0)]] _ := hs_41
      refine RT.eff rfl rfl (OpE.storeObjA (vs := [rvw_1, rvc_1]) agg51 hs_41d (i := 9) rfl rfl rfl rfl (fun v h => by simp only [List.mem_cons, List.not_mem_nil, or_false] at h; rcases h with rfl | rfl; exact (hs_41d.rdL 6 rfl).oneCell; exact (hs_41d.rdL 7 rfl).oneCell) fun w_23 hs_42 hch_16 => ?_)
      have hs_42d : Sat w [cObj b_1 51 [vw, vc], cObj b_2 51 [vw2, vc2], cObj b_3 51 [(Value.slice none 0 0), (Value.slice none 0 0)], cL v_2 3 (encN .i64) (C ++ C2), cL v 9 (encTx) (allN W C ++ allN W2 C2), cL v_3 51 (encVV) ([(⟨vw, vc, hv.oneCell, hvc.oneCell⟩ : VV), (⟨vw2, vc2, hv2.oneCell, hvc2.oneCell⟩ : VV)]), cL rvw_1 9 (encTx) (wordsN (allN W C ++ allN W2 C2)), cL rvc_1 3 (encN .i64) (countsN (allN W C ++ allN W2 C2)), cL rvn_1 3 (encN .i64) ((allN W C ++ allN W2 C2).map (lbW (wordsN (allN W C ++ allN W2 C2)))), cObj b_6 51 [rvw_1, rvc_1]] _ := hs_42
      refine RT.ev rfl rfl (Ev.assign rfl) ?_
      refine RT.ev rfl rfl (Ev.assign rfl) ?_
      refine RT.nil ?_
      refine CW.seq ?_
      refine CW.seq ?_
      refine CW.region ?_
      refine RT.ev rfl rfl (Ev.move rfl) ?_
      refine RT.ev rfl rfl (Ev.neqN (a := 0) (b := 0) rfl rfl) ?_
      refine RT.nil ?_
      refine CW.condF rfl (rfl) ?_
      refine CW.skip ?_
      refine CW.seq ?_
      refine CW.region ?_
      refine RT.ev rfl rfl (Ev.assign rfl) ?_
      refine RT.ev rfl rfl (Ev.assign rfl) ?_
      refine RT.nil ?_
      refine CW.seq ?_
      refine CW.seq ?_
      have hs_43 : Sat w [cObj b_1 51 [vw, vc], cObj b_2 51 [vw2, vc2], cObj b_3 51 [(Value.slice none 0 0), (Value.slice none 0 0)], cL v_2 3 (encN .i64) (C ++ C2), cL v 9 (encTx) (allN W C ++ allN W2 C2), cL v_3 51 (encVV) ([(⟨vw, vc, hv.oneCell, hvc.oneCell⟩ : VV), (⟨vw2, vc2, hv2.oneCell, hvc2.oneCell⟩ : VV)]), cL rvw_1 9 (encTx) (wordsN (allN W C ++ allN W2 C2)), cL rvc_1 3 (encN .i64) (countsN (allN W C ++ allN W2 C2)), cL rvn_1 3 (encN .i64) ((allN W C ++ allN W2 C2).map (lbW (wordsN (allN W C ++ allN W2 C2)))), cObj b_6 51 [rvw_1, rvc_1], cL (Value.slice none 0 0) 3 (encN .i64) ([])] _ := hs_42d.newNilL 3 (encN .i64)
      have hs_44 : Sat w [cObj b_1 51 [vw, vc], cObj b_2 51 [vw2, vc2], cObj b_3 51 [(Value.slice none 0 0), (Value.slice none 0 0)], cL v_2 3 (encN .i64) (C ++ C2), cL v 9 (encTx) (allN W C ++ allN W2 C2), cL v_3 51 (encVV) ([(⟨vw, vc, hv.oneCell, hvc.oneCell⟩ : VV), (⟨vw2, vc2, hv2.oneCell, hvc2.oneCell⟩ : VV)]), cL rvw_1 9 (encTx) (wordsN (allN W C ++ allN W2 C2)), cL rvc_1 3 (encN .i64) (countsN (allN W C ++ allN W2 C2)), cL rvn_1 3 (encN .i64) ((allN W C ++ allN W2 C2).map (lbW (wordsN (allN W C ++ allN W2 C2)))), cObj b_6 51 [rvw_1, rvc_1], cL (Value.slice none 0 0) 3 (encN .i64) ([]), cL (Value.slice none 0 0) 3 (encN .i64) ([])] _ := hs_43.newNilL 3 (encN .i64)
      refine CW.region ?_
      refine RT.ev rfl rfl (Ev.fieldAddr fld51_0 rfl rfl) ?_
      refine RT.ev rfl rfl (Ev.load scal45 rfl (hs_44.cell (i := 0) (j := 0) rfl rfl)) ?_
      refine RT.ev rfl rfl (Ev.lenL Try.underlying45 rfl (hv.ext hs_44.ext)) ?_
      refine RT.ev rfl rfl (Ev.move rfl) ?_
      refine RT.nil ?_
      refine CW.block ?_
      have hs_45 : Sat w [cObj b_1 51 [vw, vc], cObj b_2 51 [vw2, vc2], cObj b_3 51 [(Value.slice none 0 0), (Value.slice none 0 0)], cL v_2 3 (encN .i64) (C ++ C2), cL v 9 (encTx) (allN W C ++ allN W2 C2), cL v_3 51 (encVV) ([(⟨vw, vc, hv.oneCell, hvc.oneCell⟩ : VV), (⟨vw2, vc2, hv2.oneCell, hvc2.oneCell⟩ : VV)]), cL rvw_1 9 (encTx) (wordsN (allN W C ++ allN W2 C2)), cL rvc_1 3 (encN .i64) (countsN (allN W C ++ allN W2 C2)), cL rvn_1 3 (encN .i64) ((allN W C ++ allN W2 C2).map (lbW (wordsN (allN W C ++ allN W2 C2)))), cObj b_6 51 [rvw_1, rvc_1], cL (Value.slice none 0 0) 3 (encN .i64) ((W.take 0).map (lbW (wordsN (allN W C ++ allN W2 C2)))), cL (Value.slice none 0 0) 3 (encN .i64) ([])] w_23 := hs_44.reL 10 rfl (show [] = (W.take 0).map (lbW (wordsN (allN W C ++ allN W2 C2))) from rfl)
      refine CW.loop (α := Nat × Value) (fun (i1, vi1) => [(2, (Value.pointer (some ⟨b_1, 0, none⟩))), (3, (Value.pointer (some ⟨b_2, 0, none⟩))), (4, (Value.pointer (some ⟨b_3, 0, none⟩))), (17, (Value.pointer (some ⟨b_6, 0, none⟩))), (20, vi1), (21, (Value.slice none 0 0)), (90, vw), (91, (Value.int .i64 ((W.length : Nat) : Int))), (92, (Value.int .i64 ((i1 : Nat) : Int)))]) (fun (i1, vi1) w' => Sat w [cObj b_1 51 [vw, vc], cObj b_2 51 [vw2, vc2], cObj b_3 51 [(Value.slice none 0 0), (Value.slice none 0 0)], cL v_2 3 (encN .i64) (C ++ C2), cL v 9 (encTx) (allN W C ++ allN W2 C2), cL v_3 51 (encVV) ([(⟨vw, vc, hv.oneCell, hvc.oneCell⟩ : VV), (⟨vw2, vc2, hv2.oneCell, hvc2.oneCell⟩ : VV)]), cL rvw_1 9 (encTx) (wordsN (allN W C ++ allN W2 C2)), cL rvc_1 3 (encN .i64) (countsN (allN W C ++ allN W2 C2)), cL rvn_1 3 (encN .i64) ((allN W C ++ allN W2 C2).map (lbW (wordsN (allN W C ++ allN W2 C2)))), cObj b_6 51 [rvw_1, rvc_1], cL vi1 3 (encN .i64) ((W.take i1).map (lbW (wordsN (allN W C ++ allN W2 C2)))), cL (Value.slice none 0 0) 3 (encN .i64) ([])] w' ∧ (i1 ≤ W.length)) (fun (i1, vi1) => W.length - i1) (0, (Value.slice none 0 0)) ⟨rfl, rfl, rfl, rfl, rfl, rfl, rfl, rfl, rfl, trivial⟩ ⟨hs_45, Nat.zero_le _⟩ ?_
      rintro ⟨i1, vi1⟩ w_24 ⟨hs_46, hi1⟩
      show CW _ _ _ _ [(2, (Value.pointer (some ⟨b_1, 0, none⟩))), (3, (Value.pointer (some ⟨b_2, 0, none⟩))), (4, (Value.pointer (some ⟨b_3, 0, none⟩))), (17, (Value.pointer (some ⟨b_6, 0, none⟩))), (20, vi1), (21, (Value.slice none 0 0)), (90, vw), (91, (Value.int .i64 ((W.length : Nat) : Int))), (92, (Value.int .i64 ((i1 : Nat) : Int)))] _
      refine CW.seq ?_
      refine CW.region ?_
      refine RT.ev rfl rfl (Ev.lssN rfl rfl) ?_
      refine RT.nil ?_
      refine CW.seq ?_
      refine CW.condD rfl (fun hc_7 => ?_) (fun hc_7 => ?_)
      · refine CW.skip ?_
        refine CW.seq ?_
        refine CW.block ?_
        refine CW.seq ?_
        obtain ⟨x, hx⟩ : ∃ x, (W)[i1]? = some x := ⟨_, List.getElem?_eq_getElem hc_7⟩
        refine CW.region ?_
        refine RT.ev rfl rfl (Ev.idxL (E := encTx) sl45 rfl rfl (hv.ext hs_46.ext) (by omega)) ?_
        refine RT.ev rfl rfl (Ev.ldL (E := encTx) scal9 rfl (hv.ext hs_46.ext) hx (by decide) rfl) ?_
        refine RT.ev rfl rfl (Ev.assign rfl) ?_
        refine RT.nil ?_
        refine CW.seq ?_
        refine CW.region ?_
        refine RT.ev rfl rfl (Ev.ldObj agg51 rfl hs_46 (i := 9) rfl rfl) ?_
        refine RT.ev rfl rfl (Ev.move rfl) ?_
        refine RT.eff rfl rfl (OpE.call ent38 rfl ((rfind_ok _ _ (wordsN (allN W C ++ allN W2 C2)) x _ (hs_46.rdL 6 rfl) ((hs_46.rdL 7 rfl).oneCell) (bld_len he)).mono fun r_2 w_25 h_2 => ?_))
        obtain ⟨rfl, hp_2⟩ := h_2
        have hs_47 : Sat w [cObj b_1 51 [vw, vc], cObj b_2 51 [vw2, vc2], cObj b_3 51 [(Value.slice none 0 0), (Value.slice none 0 0)], cL v_2 3 (encN .i64) (C ++ C2), cL v 9 (encTx) (allN W C ++ allN W2 C2), cL v_3 51 (encVV) ([(⟨vw, vc, hv.oneCell, hvc.oneCell⟩ : VV), (⟨vw2, vc2, hv2.oneCell, hvc2.oneCell⟩ : VV)]), cL rvw_1 9 (encTx) (wordsN (allN W C ++ allN W2 C2)), cL rvc_1 3 (encN .i64) (countsN (allN W C ++ allN W2 C2)), cL rvn_1 3 (encN .i64) ((allN W C ++ allN W2 C2).map (lbW (wordsN (allN W C ++ allN W2 C2)))), cObj b_6 51 [rvw_1, rvc_1], cL vi1 3 (encN .i64) ((W.take i1).map (lbW (wordsN (allN W C ++ allN W2 C2)))), cL (Value.slice none 0 0) 3 (encN .i64) ([])] _ := hs_46.adds hp_2
        refine RT.ev rfl rfl (Ev.move rfl) ?_
        refine RT.ev rfl rfl (Ev.extract rfl rfl) ?_
        refine RT.ev rfl rfl (Ev.extract rfl rfl) ?_
        refine RT.ev rfl rfl (Ev.assign rfl) ?_
        refine RT.ev rfl rfl (Ev.assign rfl) ?_
        refine RT.nil ?_
        refine CW.region ?_
        refine RT.ev rfl rfl (Ev.move rfl) ?_
        refine RT.ev rfl rfl (Ev.move rfl) ?_
        refine RT.eff rfl rfl (OpE.lit1 (encN .i64) (lbW (wordsN (allN W C ++ allN W2 C2)) x) sl22 rfl hs_47 rfl fun v_8 w_26 hs_48 hch_17 => ?_)
        have hs_48d : Sat w [cObj b_1 51 [vw, vc], cObj b_2 51 [vw2, vc2], cObj b_3 51 [(Value.slice none 0 0), (Value.slice none 0 0)], cL v_2 3 (encN .i64) (C ++ C2), cL v 9 (encTx) (allN W C ++ allN W2 C2), cL v_3 51 (encVV) ([(⟨vw, vc, hv.oneCell, hvc.oneCell⟩ : VV), (⟨vw2, vc2, hv2.oneCell, hvc2.oneCell⟩ : VV)]), cL rvw_1 9 (encTx) (wordsN (allN W C ++ allN W2 C2)), cL rvc_1 3 (encN .i64) (countsN (allN W C ++ allN W2 C2)), cL rvn_1 3 (encN .i64) ((allN W C ++ allN W2 C2).map (lbW (wordsN (allN W C ++ allN W2 C2)))), cObj b_6 51 [rvw_1, rvc_1], cL vi1 3 (encN .i64) ((W.take i1).map (lbW (wordsN (allN W C ++ allN W2 C2)))), cL (Value.slice none 0 0) 3 (encN .i64) ([]), cL v_8 3 (encN .i64) ([(lbW (wordsN (allN W C ++ allN W2 C2)) x)])] _ := hs_48
        refine RT.eff rfl rfl (OpE.appendL 10 sl22 hs_48d rfl rfl rfl Try.underlying22 (hs_48d.rdL 12 rfl) (by simp only [List.length_append, List.length_map, List.length_take, List.length_cons, List.length_nil]; omega) (by simp only [List.length_append, List.length_map, List.length_take, List.length_cons, List.length_nil]; omega) fun v_9 w_27 hs_49 hch_18 => ?_)
        have hs_49d : Sat w [cObj b_1 51 [vw, vc], cObj b_2 51 [vw2, vc2], cObj b_3 51 [(Value.slice none 0 0), (Value.slice none 0 0)], cL v_2 3 (encN .i64) (C ++ C2), cL v 9 (encTx) (allN W C ++ allN W2 C2), cL v_3 51 (encVV) ([(⟨vw, vc, hv.oneCell, hvc.oneCell⟩ : VV), (⟨vw2, vc2, hv2.oneCell, hvc2.oneCell⟩ : VV)]), cL rvw_1 9 (encTx) (wordsN (allN W C ++ allN W2 C2)), cL rvc_1 3 (encN .i64) (countsN (allN W C ++ allN W2 C2)), cL rvn_1 3 (encN .i64) ((allN W C ++ allN W2 C2).map (lbW (wordsN (allN W C ++ allN W2 C2)))), cObj b_6 51 [rvw_1, rvc_1], cL v_9 3 (encN .i64) ((W.take i1).map (lbW (wordsN (allN W C ++ allN W2 C2))) ++ [(lbW (wordsN (allN W C ++ allN W2 C2)) x)]), cL (Value.slice none 0 0) 3 (encN .i64) ([])] _ := hs_49.drop 12
        refine RT.ev rfl rfl (Ev.assign rfl) ?_
        refine RT.nil ?_
        refine CW.region ?_
        refine RT.ev rfl rfl (Ev.addI (b := 1) rfl rfl (by omega)) ?_
        refine RT.ev rfl rfl (Ev.move rfl) ?_
        refine RT.nil ?_
        have hs_50 : Sat w [cObj b_1 51 [vw, vc], cObj b_2 51 [vw2, vc2], cObj b_3 51 [(Value.slice none 0 0), (Value.slice none 0 0)], cL v_2 3 (encN .i64) (C ++ C2), cL v 9 (encTx) (allN W C ++ allN W2 C2), cL v_3 51 (encVV) ([(⟨vw, vc, hv.oneCell, hvc.oneCell⟩ : VV), (⟨vw2, vc2, hv2.oneCell, hvc2.oneCell⟩ : VV)]), cL rvw_1 9 (encTx) (wordsN (allN W C ++ allN W2 C2)), cL rvc_1 3 (encN .i64) (countsN (allN W C ++ allN W2 C2)), cL rvn_1 3 (encN .i64) ((allN W C ++ allN W2 C2).map (lbW (wordsN (allN W C ++ allN W2 C2)))), cObj b_6 51 [rvw_1, rvc_1], cL v_9 3 (encN .i64) ((W.take (i1 + 1)).map (lbW (wordsN (allN W C ++ allN W2 C2)))), cL (Value.slice none 0 0) 3 (encN .i64) ([])] w_27 := hs_49d.reL 10 rfl (show (W.take i1).map (lbW (wordsN (allN W C ++ allN W2 C2))) ++ [(lbW (wordsN (allN W C ++ allN W2 C2)) x)] = (W.take (i1 + 1)).map (lbW (wordsN (allN W C ++ allN W2 C2))) from by rw [take_snoc hx, List.map_append]; rfl)
        exact ⟨(i1 + 1, v_9), ⟨rfl, rfl, rfl, rfl, rfl, rfl, rfl, rfl, rfl, trivial⟩, ⟨hs_50, by omega⟩, (show (W.length - (i1 + 1)) < (W.length - i1) from by omega)⟩
      · refine CW.exit0 ?_
        refine CW.seq ?_
        refine CW.seq ?_
        refine CW.region ?_
        refine RT.ev rfl rfl (Ev.fieldAddr fld51_0 rfl rfl) ?_
        refine RT.ev rfl rfl (Ev.load scal45 rfl (hs_46.cell (i := 1) (j := 0) rfl rfl)) ?_
        refine RT.ev rfl rfl (Ev.lenL Try.underlying45 rfl (hv2.ext hs_46.ext)) ?_
        refine RT.ev rfl rfl (Ev.move rfl) ?_
        refine RT.nil ?_
        refine CW.block ?_
        have hs_51 : Sat w [cObj b_1 51 [vw, vc], cObj b_2 51 [vw2, vc2], cObj b_3 51 [(Value.slice none 0 0), (Value.slice none 0 0)], cL v_2 3 (encN .i64) (C ++ C2), cL v 9 (encTx) (allN W C ++ allN W2 C2), cL v_3 51 (encVV) ([(⟨vw, vc, hv.oneCell, hvc.oneCell⟩ : VV), (⟨vw2, vc2, hv2.oneCell, hvc2.oneCell⟩ : VV)]), cL rvw_1 9 (encTx) (wordsN (allN W C ++ allN W2 C2)), cL rvc_1 3 (encN .i64) (countsN (allN W C ++ allN W2 C2)), cL rvn_1 3 (encN .i64) ((allN W C ++ allN W2 C2).map (lbW (wordsN (allN W C ++ allN W2 C2)))), cObj b_6 51 [rvw_1, rvc_1], cL vi1 3 (encN .i64) ((W.take i1).map (lbW (wordsN (allN W C ++ allN W2 C2)))), cL (Value.slice none 0 0) 3 (encN .i64) ((W2.take 0).map (lbW (wordsN (allN W C ++ allN W2 C2))))] w_24 := hs_46.reL 11 rfl (show [] = (W2.take 0).map (lbW (wordsN (allN W C ++ allN W2 C2))) from rfl)
        refine CW.loop (α := Nat × Value) (fun (i2, vi2) => [(2, (Value.pointer (some ⟨b_1, 0, none⟩))), (3, (Value.pointer (some ⟨b_2, 0, none⟩))), (4, (Value.pointer (some ⟨b_3, 0, none⟩))), (17, (Value.pointer (some ⟨b_6, 0, none⟩))), (20, vi1), (21, vi2), (108, vw2), (109, (Value.int .i64 ((W2.length : Nat) : Int))), (110, (Value.int .i64 ((i2 : Nat) : Int)))]) (fun (i2, vi2) w' => Sat w [cObj b_1 51 [vw, vc], cObj b_2 51 [vw2, vc2], cObj b_3 51 [(Value.slice none 0 0), (Value.slice none 0 0)], cL v_2 3 (encN .i64) (C ++ C2), cL v 9 (encTx) (allN W C ++ allN W2 C2), cL v_3 51 (encVV) ([(⟨vw, vc, hv.oneCell, hvc.oneCell⟩ : VV), (⟨vw2, vc2, hv2.oneCell, hvc2.oneCell⟩ : VV)]), cL rvw_1 9 (encTx) (wordsN (allN W C ++ allN W2 C2)), cL rvc_1 3 (encN .i64) (countsN (allN W C ++ allN W2 C2)), cL rvn_1 3 (encN .i64) ((allN W C ++ allN W2 C2).map (lbW (wordsN (allN W C ++ allN W2 C2)))), cObj b_6 51 [rvw_1, rvc_1], cL vi1 3 (encN .i64) ((W.take i1).map (lbW (wordsN (allN W C ++ allN W2 C2)))), cL vi2 3 (encN .i64) ((W2.take i2).map (lbW (wordsN (allN W C ++ allN W2 C2))))] w' ∧ (i2 ≤ W2.length)) (fun (i2, vi2) => W2.length - i2) (0, (Value.slice none 0 0)) ⟨rfl, rfl, rfl, rfl, rfl, rfl, rfl, rfl, rfl, trivial⟩ ⟨hs_51, Nat.zero_le _⟩ ?_
        rintro ⟨i2, vi2⟩ w_28 ⟨hs_52, hi2⟩
        show CW _ _ _ _ [(2, (Value.pointer (some ⟨b_1, 0, none⟩))), (3, (Value.pointer (some ⟨b_2, 0, none⟩))), (4, (Value.pointer (some ⟨b_3, 0, none⟩))), (17, (Value.pointer (some ⟨b_6, 0, none⟩))), (20, vi1), (21, vi2), (108, vw2), (109, (Value.int .i64 ((W2.length : Nat) : Int))), (110, (Value.int .i64 ((i2 : Nat) : Int)))] _
        refine CW.seq ?_
        refine CW.region ?_
        refine RT.ev rfl rfl (Ev.lssN rfl rfl) ?_
        refine RT.nil ?_
        refine CW.seq ?_
        refine CW.condD rfl (fun hc_8 => ?_) (fun hc_8 => ?_)
        · refine CW.skip ?_
          refine CW.seq ?_
          refine CW.block ?_
          refine CW.seq ?_
          obtain ⟨x, hx⟩ : ∃ x, (W2)[i2]? = some x := ⟨_, List.getElem?_eq_getElem hc_8⟩
          refine CW.region ?_
          refine RT.ev rfl rfl (Ev.idxL (E := encTx) sl45 rfl rfl (hv2.ext hs_52.ext) (by omega)) ?_
          refine RT.ev rfl rfl (Ev.ldL (E := encTx) scal9 rfl (hv2.ext hs_52.ext) hx (by decide) rfl) ?_
          refine RT.ev rfl rfl (Ev.assign rfl) ?_
          refine RT.nil ?_
          refine CW.seq ?_
          refine CW.region ?_
          refine RT.ev rfl rfl (Ev.ldObj agg51 rfl hs_52 (i := 9) rfl rfl) ?_
          refine RT.ev rfl rfl (Ev.move rfl) ?_
          refine RT.eff rfl rfl (OpE.call ent38 rfl ((rfind_ok _ _ (wordsN (allN W C ++ allN W2 C2)) x _ (hs_52.rdL 6 rfl) ((hs_52.rdL 7 rfl).oneCell) (bld_len he)).mono fun r_3 w_29 h_3 => ?_))
          obtain ⟨rfl, hp_3⟩ := h_3
          have hs_53 : Sat w [cObj b_1 51 [vw, vc], cObj b_2 51 [vw2, vc2], cObj b_3 51 [(Value.slice none 0 0), (Value.slice none 0 0)], cL v_2 3 (encN .i64) (C ++ C2), cL v 9 (encTx) (allN W C ++ allN W2 C2), cL v_3 51 (encVV) ([(⟨vw, vc, hv.oneCell, hvc.oneCell⟩ : VV), (⟨vw2, vc2, hv2.oneCell, hvc2.oneCell⟩ : VV)]), cL rvw_1 9 (encTx) (wordsN (allN W C ++ allN W2 C2)), cL rvc_1 3 (encN .i64) (countsN (allN W C ++ allN W2 C2)), cL rvn_1 3 (encN .i64) ((allN W C ++ allN W2 C2).map (lbW (wordsN (allN W C ++ allN W2 C2)))), cObj b_6 51 [rvw_1, rvc_1], cL vi1 3 (encN .i64) ((W.take i1).map (lbW (wordsN (allN W C ++ allN W2 C2)))), cL vi2 3 (encN .i64) ((W2.take i2).map (lbW (wordsN (allN W C ++ allN W2 C2))))] _ := hs_52.adds hp_3
          refine RT.ev rfl rfl (Ev.move rfl) ?_
          refine RT.ev rfl rfl (Ev.extract rfl rfl) ?_
          refine RT.ev rfl rfl (Ev.extract rfl rfl) ?_
          refine RT.ev rfl rfl (Ev.assign rfl) ?_
          refine RT.ev rfl rfl (Ev.assign rfl) ?_
          refine RT.nil ?_
          refine CW.region ?_
          refine RT.ev rfl rfl (Ev.move rfl) ?_
          refine RT.ev rfl rfl (Ev.move rfl) ?_
          refine RT.eff rfl rfl (OpE.lit1 (encN .i64) (lbW (wordsN (allN W C ++ allN W2 C2)) x) sl22 rfl hs_53 rfl fun v_10 w_30 hs_54 hch_19 => ?_)
          have hs_54d : Sat w [cObj b_1 51 [vw, vc], cObj b_2 51 [vw2, vc2], cObj b_3 51 [(Value.slice none 0 0), (Value.slice none 0 0)], cL v_2 3 (encN .i64) (C ++ C2), cL v 9 (encTx) (allN W C ++ allN W2 C2), cL v_3 51 (encVV) ([(⟨vw, vc, hv.oneCell, hvc.oneCell⟩ : VV), (⟨vw2, vc2, hv2.oneCell, hvc2.oneCell⟩ : VV)]), cL rvw_1 9 (encTx) (wordsN (allN W C ++ allN W2 C2)), cL rvc_1 3 (encN .i64) (countsN (allN W C ++ allN W2 C2)), cL rvn_1 3 (encN .i64) ((allN W C ++ allN W2 C2).map (lbW (wordsN (allN W C ++ allN W2 C2)))), cObj b_6 51 [rvw_1, rvc_1], cL vi1 3 (encN .i64) ((W.take i1).map (lbW (wordsN (allN W C ++ allN W2 C2)))), cL vi2 3 (encN .i64) ((W2.take i2).map (lbW (wordsN (allN W C ++ allN W2 C2)))), cL v_10 3 (encN .i64) ([(lbW (wordsN (allN W C ++ allN W2 C2)) x)])] _ := hs_54
          refine RT.eff rfl rfl (OpE.appendL 11 sl22 hs_54d rfl rfl rfl Try.underlying22 (hs_54d.rdL 12 rfl) (by simp only [List.length_append, List.length_map, List.length_take, List.length_cons, List.length_nil]; omega) (by simp only [List.length_append, List.length_map, List.length_take, List.length_cons, List.length_nil]; omega) fun v_11 w_31 hs_55 hch_20 => ?_)
          have hs_55d : Sat w [cObj b_1 51 [vw, vc], cObj b_2 51 [vw2, vc2], cObj b_3 51 [(Value.slice none 0 0), (Value.slice none 0 0)], cL v_2 3 (encN .i64) (C ++ C2), cL v 9 (encTx) (allN W C ++ allN W2 C2), cL v_3 51 (encVV) ([(⟨vw, vc, hv.oneCell, hvc.oneCell⟩ : VV), (⟨vw2, vc2, hv2.oneCell, hvc2.oneCell⟩ : VV)]), cL rvw_1 9 (encTx) (wordsN (allN W C ++ allN W2 C2)), cL rvc_1 3 (encN .i64) (countsN (allN W C ++ allN W2 C2)), cL rvn_1 3 (encN .i64) ((allN W C ++ allN W2 C2).map (lbW (wordsN (allN W C ++ allN W2 C2)))), cObj b_6 51 [rvw_1, rvc_1], cL vi1 3 (encN .i64) ((W.take i1).map (lbW (wordsN (allN W C ++ allN W2 C2)))), cL v_11 3 (encN .i64) ((W2.take i2).map (lbW (wordsN (allN W C ++ allN W2 C2))) ++ [(lbW (wordsN (allN W C ++ allN W2 C2)) x)])] _ := hs_55.drop 12
          refine RT.ev rfl rfl (Ev.assign rfl) ?_
          refine RT.nil ?_
          refine CW.region ?_
          refine RT.ev rfl rfl (Ev.addI (b := 1) rfl rfl (by omega)) ?_
          refine RT.ev rfl rfl (Ev.move rfl) ?_
          refine RT.nil ?_
          have hs_56 : Sat w [cObj b_1 51 [vw, vc], cObj b_2 51 [vw2, vc2], cObj b_3 51 [(Value.slice none 0 0), (Value.slice none 0 0)], cL v_2 3 (encN .i64) (C ++ C2), cL v 9 (encTx) (allN W C ++ allN W2 C2), cL v_3 51 (encVV) ([(⟨vw, vc, hv.oneCell, hvc.oneCell⟩ : VV), (⟨vw2, vc2, hv2.oneCell, hvc2.oneCell⟩ : VV)]), cL rvw_1 9 (encTx) (wordsN (allN W C ++ allN W2 C2)), cL rvc_1 3 (encN .i64) (countsN (allN W C ++ allN W2 C2)), cL rvn_1 3 (encN .i64) ((allN W C ++ allN W2 C2).map (lbW (wordsN (allN W C ++ allN W2 C2)))), cObj b_6 51 [rvw_1, rvc_1], cL vi1 3 (encN .i64) ((W.take i1).map (lbW (wordsN (allN W C ++ allN W2 C2)))), cL v_11 3 (encN .i64) ((W2.take (i2 + 1)).map (lbW (wordsN (allN W C ++ allN W2 C2))))] w_31 := hs_55d.reL 11 rfl (show (W2.take i2).map (lbW (wordsN (allN W C ++ allN W2 C2))) ++ [(lbW (wordsN (allN W C ++ allN W2 C2)) x)] = (W2.take (i2 + 1)).map (lbW (wordsN (allN W C ++ allN W2 C2))) from by rw [take_snoc hx, List.map_append]; rfl)
          exact ⟨(i2 + 1, v_11), ⟨rfl, rfl, rfl, rfl, rfl, rfl, rfl, rfl, rfl, trivial⟩, ⟨hs_56, by omega⟩, (show (W2.length - (i2 + 1)) < (W2.length - i2) from by omega)⟩
        · refine CW.exit0 ?_
          refine CW.seq ?_
          refine CW.region ?_
          refine RT.ev rfl rfl (Ev.ldObj agg51 rfl hs_52 (i := 9) rfl rfl) ?_
          refine RT.ev rfl rfl (Ev.move rfl) ?_
          refine RT.ev rfl rfl (Ev.move rfl) ?_
          refine RT.eff rfl rfl (OpE.storeObjA (vs := [rvw_1, rvc_1]) agg51 hs_52 (i := 2) rfl rfl rfl rfl (fun v h => by simp only [List.mem_cons, List.not_mem_nil, or_false] at h; rcases h with rfl | rfl; exact (hs_52.rdL 6 rfl).oneCell; exact (hs_52.rdL 7 rfl).oneCell) fun w_32 hs_57 hch_21 => ?_)
          have hs_57d : Sat w [cObj b_1 51 [vw, vc], cObj b_2 51 [vw2, vc2], cObj b_3 51 [rvw_1, rvc_1], cL v_2 3 (encN .i64) (C ++ C2), cL v 9 (encTx) (allN W C ++ allN W2 C2), cL v_3 51 (encVV) ([(⟨vw, vc, hv.oneCell, hvc.oneCell⟩ : VV), (⟨vw2, vc2, hv2.oneCell, hvc2.oneCell⟩ : VV)]), cL rvw_1 9 (encTx) (wordsN (allN W C ++ allN W2 C2)), cL rvc_1 3 (encN .i64) (countsN (allN W C ++ allN W2 C2)), cL rvn_1 3 (encN .i64) ((allN W C ++ allN W2 C2).map (lbW (wordsN (allN W C ++ allN W2 C2)))), cObj b_6 51 [rvw_1, rvc_1], cL vi1 3 (encN .i64) ((W.take i1).map (lbW (wordsN (allN W C ++ allN W2 C2)))), cL vi2 3 (encN .i64) ((W2.take i2).map (lbW (wordsN (allN W C ++ allN W2 C2))))] _ := hs_57
          refine RT.ev rfl rfl (Ev.assign rfl) ?_
          refine RT.ev rfl rfl (Ev.assign rfl) ?_
          refine RT.ev rfl rfl (Ev.assign rfl) ?_
          refine RT.nil ?_
          refine CW.ret ?_
          show PostK _ _ _ _ _ _
          refine post4c (vs := [rvw_1, rvc_1]) rfl rfl rfl rfl rfl agg51 (fun j u hu => hs_57d.cell (i := 2) rfl hu) ?_
          have hs_58 : Sat w [cObj b_1 51 [vw, vc], cObj b_2 51 [vw2, vc2], cObj b_3 51 [rvw_1, rvc_1], cL v_2 3 (encN .i64) (C ++ C2), cL v 9 (encTx) (allN W C ++ allN W2 C2), cL v_3 51 (encVV) ([(⟨vw, vc, hv.oneCell, hvc.oneCell⟩ : VV), (⟨vw2, vc2, hv2.oneCell, hvc2.oneCell⟩ : VV)]), cL rvw_1 9 (encTx) (wordsN (allN W C ++ allN W2 C2)), cL rvc_1 3 (encN .i64) (countsN (allN W C ++ allN W2 C2)), cL rvn_1 3 (encN .i64) ((allN W C ++ allN W2 C2).map (lbW (wordsN (allN W C ++ allN W2 C2)))), cObj b_6 51 [rvw_1, rvc_1], cL vi1 3 (encN .i64) (W.map (lbW (wordsN (allN W C ++ allN W2 C2)))), cL vi2 3 (encN .i64) ((W2.take i2).map (lbW (wordsN (allN W C ++ allN W2 C2))))] w_32 := hs_57d.reL 10 rfl (show (W.take i1).map (lbW (wordsN (allN W C ++ allN W2 C2))) = W.map (lbW (wordsN (allN W C ++ allN W2 C2))) from by rw [show i1 = W.length by omega, List.take_length])
          have hs_59 : Sat w [cObj b_1 51 [vw, vc], cObj b_2 51 [vw2, vc2], cObj b_3 51 [rvw_1, rvc_1], cL v_2 3 (encN .i64) (C ++ C2), cL v 9 (encTx) (allN W C ++ allN W2 C2), cL v_3 51 (encVV) ([(⟨vw, vc, hv.oneCell, hvc.oneCell⟩ : VV), (⟨vw2, vc2, hv2.oneCell, hvc2.oneCell⟩ : VV)]), cL rvw_1 9 (encTx) (wordsN (allN W C ++ allN W2 C2)), cL rvc_1 3 (encN .i64) (countsN (allN W C ++ allN W2 C2)), cL rvn_1 3 (encN .i64) ((allN W C ++ allN W2 C2).map (lbW (wordsN (allN W C ++ allN W2 C2)))), cObj b_6 51 [rvw_1, rvc_1], cL vi1 3 (encN .i64) (W.map (lbW (wordsN (allN W C ++ allN W2 C2)))), cL vi2 3 (encN .i64) (W2.map (lbW (wordsN (allN W C ++ allN W2 C2))))] w_32 := hs_58.reL 11 rfl (show (W2.take i2).map (lbW (wordsN (allN W C ++ allN W2 C2))) = W2.map (lbW (wordsN (allN W C ++ allN W2 C2))) from by rw [show i2 = W2.length by omega, List.take_length])
          have hs_60 : Sat w [cL rvw_1 9 (encTx) (wordsN (allN W C ++ allN W2 C2)), cL rvc_1 3 (encN .i64) (countsN (allN W C ++ allN W2 C2)), cL vi1 3 (encN .i64) (W.map (lbW (wordsN (allN W C ++ allN W2 C2)))), cL vi2 3 (encN .i64) (W2.map (lbW (wordsN (allN W C ++ allN W2 C2))))] w_32 := hs_59.sub ((.cons _ (.cons _ (.cons _ (.cons _ (.cons _ (.cons _ (.cons_cons _ (.cons_cons _ (.cons _ (.cons _ (.cons_cons _ (.cons_cons _ .slnil)))))))))))))
          exact ⟨_, _, _, _, rfl, hs_60⟩

theorem sum_le {vs : List ByteArray} (h : bldE vs = 0) : (countsN vs).sum ≤ 1000000 := by
  rw [counts_sum]; have := bld_vlen h; omega
theorem nums_eq {W : List ByteArray} {L : List ByteArray} (h : ∀ x ∈ W, x ∈ L) : (W.map fun y => (numN (wordsN L) y).1) = W.map (lbW (wordsN L)) :=
  List.map_congr_left fun x hx => by rw [numN_mem (wordsN_asc L) (wordsN_mem.2 (h x hx))]
theorem cnt_one {vs : List ByteArray} : ∀ c ∈ countsN vs, 1 ≤ c := fun c hc => by
  obtain ⟨i, hi⟩ := List.getElem?_of_mem hc
  exact counts_pos hi
theorem all_mem1 {vs : List ByteArray} {B : List ByteArray} : ∀ x ∈ wordsN vs, x ∈ allN (wordsN vs) (countsN vs) ++ B := fun x hx => List.mem_append_left _ (allN_mem (countsN_length vs) cnt_one hx)
theorem all_mem2 {vs : List ByteArray} {B : List ByteArray} : ∀ x ∈ wordsN vs, x ∈ B ++ allN (wordsN vs) (countsN vs) := fun x hx => List.mem_append_right _ (allN_mem (countsN_length vs) cnt_one hx)

theorem lexiconMerges_ok (v : Value) (vs : List ByteArray) (u : Value) (us : List ByteArray) (w : World) (hv : RdL w v encTx vs) (hn : vs.length ≤ 9223372036854775807) (hu : RdL w u encTx us) (hn2 : us.length ≤ 9223372036854775807) :
    CallsV Try.prog 15 [v, u] w fun r w' => r = .bool true ∧ Sat w [] w' := by
  have hs0 := Sat.start w
  refine callsV_of Try.func15 rfl rfl ?_
  refine CW.seq ?_
  refine CW.region ?_
  refine RT.ev rfl rfl (Ev.assign rfl) ?_
  refine RT.nil ?_
  refine CW.seq ?_
  refine CW.seq ?_
  refine CW.region ?_
  refine RT.ev rfl rfl (Ev.move rfl) ?_
  refine RT.eff rfl rfl (OpE.call ent35 rfl ((long_ok _ _ _ (hv.ext hs0.ext) (by assumption)).mono fun r_1 w_1 h_1 => ?_))
  obtain ⟨⟨lb_1, rfl⟩, hp_1⟩ := h_1
  have hs_1 : Sat w [] _ := hs0.adds hp_1
  refine RT.ev rfl rfl (Ev.move rfl) ?_
  by_cases hg_1 : lb_1 = true
  · refine RT.no rfl rfl rfl (hg_1) rfl ?_
    refine RT.no rfl rfl rfl (hg_1) rfl ?_
    refine RT.ev rfl rfl (Ev.pickY rfl (hg_1) rfl) ?_
    refine RT.nil ?_
    refine CW.condT rfl (rfl) ?_
    refine CW.seq ?_
    refine CW.region ?_
    refine RT.ev rfl rfl (Ev.assign rfl) ?_
    refine RT.nil ?_
    refine CW.ret ?_
    show PostK _ _ _ _ _ _
    refine post1 rfl rfl ?_
    have hs_2 : Sat w [] w_1 := hs_1.sub (.slnil)
    exact ⟨rfl, hs_2⟩
  · refine RT.yes rfl rfl rfl (by simpa using hg_1) ?_
    refine RT.ev rfl rfl (Ev.move rfl) ?_
    refine RT.yes rfl rfl rfl (by simpa using hg_1) ?_
    refine RT.eff rfl rfl (OpE.call ent35 rfl ((long_ok _ _ _ (hu.ext hs_1.ext) (by assumption)).mono fun r_2 w_2 h_2 => ?_))
    obtain ⟨⟨lb_2, rfl⟩, hp_2⟩ := h_2
    have hs_3 : Sat w [] _ := hs_1.adds hp_2
    refine RT.ev rfl rfl (Ev.pickN rfl (by simpa using hg_1) rfl) ?_
    refine RT.nil ?_
    refine CW.cond rfl (fun hc_1 => ?_) (fun hc_1 => ?_)
    · refine CW.seq ?_
      refine CW.region ?_
      refine RT.ev rfl rfl (Ev.assign rfl) ?_
      refine RT.nil ?_
      refine CW.ret ?_
      show PostK _ _ _ _ _ _
      refine post1 rfl rfl ?_
      have hs_4 : Sat w [] w_2 := hs_3.sub (.slnil)
      exact ⟨rfl, hs_4⟩
    · refine CW.skip ?_
      refine CW.seq ?_
      rcases Decidable.em (bldE (vs) = 0) with he | he
      · refine CW.region ?_
        refine RT.ev rfl rfl (Ev.move rfl) ?_
        refine RT.eff rfl rfl (OpE.call ent36 rfl ((built_good _ _ _ (hv.ext hs_3.ext) he).mono fun r_3 w_3 h_3 => ?_))
        obtain ⟨lg_1, lvw_1, lvc_1, lvo_1, rvw_1, rvc_1, rfl, hp_3⟩ := h_3
        have hs_5 : Sat w [cObj lg_1 92 [lvw_1, lvc_1, lvo_1], cL lvw_1 9 (encTx) (wordsN vs), cL lvc_1 3 (encN .i64) (countsN vs), cL lvo_1 3 (encN .i64) (ordN (wordsN vs)), cL rvw_1 9 (encTx) (wordsN vs), cL rvc_1 3 (encN .i64) (countsN vs)] _ := hs_3.adds hp_3
        refine RT.ev rfl rfl (Ev.move rfl) ?_
        refine RT.ev rfl rfl (Ev.extract rfl rfl) ?_
        refine RT.ev rfl rfl (Ev.extract rfl rfl) ?_
        refine RT.ev rfl rfl (Ev.extract rfl rfl) ?_
        refine RT.eff rfl rfl (OpE.alloc hs_5 zero51 fun b_1 w_4 hs_6 hch_1 hb_1 => ?_)
        have hs_6d : Sat w [cObj lg_1 92 [lvw_1, lvc_1, lvo_1], cL lvw_1 9 (encTx) (wordsN vs), cL lvc_1 3 (encN .i64) (countsN vs), cL lvo_1 3 (encN .i64) (ordN (wordsN vs)), cL rvw_1 9 (encTx) (wordsN vs), cL rvc_1 3 (encN .i64) (countsN vs), cObj b_1 51 [(Value.slice none 0 0), (Value.slice none 0 0)]] _ := hs_6
        refine RT.ev rfl rfl (Ev.assign rfl) ?_
        refine RT.eff rfl rfl (OpE.storeObjA (vs := [rvw_1, rvc_1]) agg51 hs_6d (i := 6) rfl rfl rfl rfl (fun v h => by simp only [List.mem_cons, List.not_mem_nil, or_false] at h; rcases h with rfl | rfl; exact (hs_6d.rdL 4 rfl).oneCell; exact (hs_6d.rdL 5 rfl).oneCell) fun w_5 hs_7 hch_2 => ?_)
        have hs_7d : Sat w [cObj lg_1 92 [lvw_1, lvc_1, lvo_1], cL lvw_1 9 (encTx) (wordsN vs), cL lvc_1 3 (encN .i64) (countsN vs), cL lvo_1 3 (encN .i64) (ordN (wordsN vs)), cL rvw_1 9 (encTx) (wordsN vs), cL rvc_1 3 (encN .i64) (countsN vs), cObj b_1 51 [rvw_1, rvc_1]] _ := hs_7
        refine RT.ev rfl rfl (Ev.assign rfl) ?_
        refine RT.nil ?_
        refine CW.seq ?_
        rcases Decidable.em (bldE (us) = 0) with he2 | he2
        · refine CW.region ?_
          refine RT.ev rfl rfl (Ev.move rfl) ?_
          refine RT.eff rfl rfl (OpE.call ent36 rfl ((built_good _ _ _ (hu.ext hs_7d.ext) he2).mono fun r_4 w_6 h_4 => ?_))
          obtain ⟨lg_2, lvw_2, lvc_2, lvo_2, rvw_2, rvc_2, rfl, hp_4⟩ := h_4
          have hs_8 : Sat w [cObj lg_1 92 [lvw_1, lvc_1, lvo_1], cL lvw_1 9 (encTx) (wordsN vs), cL lvc_1 3 (encN .i64) (countsN vs), cL lvo_1 3 (encN .i64) (ordN (wordsN vs)), cL rvw_1 9 (encTx) (wordsN vs), cL rvc_1 3 (encN .i64) (countsN vs), cObj b_1 51 [rvw_1, rvc_1], cObj lg_2 92 [lvw_2, lvc_2, lvo_2], cL lvw_2 9 (encTx) (wordsN us), cL lvc_2 3 (encN .i64) (countsN us), cL lvo_2 3 (encN .i64) (ordN (wordsN us)), cL rvw_2 9 (encTx) (wordsN us), cL rvc_2 3 (encN .i64) (countsN us)] _ := hs_7d.adds hp_4
          refine RT.ev rfl rfl (Ev.move rfl) ?_
          refine RT.ev rfl rfl (Ev.extract rfl rfl) ?_
          refine RT.ev rfl rfl (Ev.extract rfl rfl) ?_
          refine RT.ev rfl rfl (Ev.extract rfl rfl) ?_
          refine RT.eff rfl rfl (OpE.alloc hs_8 zero51 fun b_2 w_7 hs_9 hch_3 hb_2 => ?_)
          have hs_9d : Sat w [cObj lg_1 92 [lvw_1, lvc_1, lvo_1], cL lvw_1 9 (encTx) (wordsN vs), cL lvc_1 3 (encN .i64) (countsN vs), cL lvo_1 3 (encN .i64) (ordN (wordsN vs)), cL rvw_1 9 (encTx) (wordsN vs), cL rvc_1 3 (encN .i64) (countsN vs), cObj b_1 51 [rvw_1, rvc_1], cObj lg_2 92 [lvw_2, lvc_2, lvo_2], cL lvw_2 9 (encTx) (wordsN us), cL lvc_2 3 (encN .i64) (countsN us), cL lvo_2 3 (encN .i64) (ordN (wordsN us)), cL rvw_2 9 (encTx) (wordsN us), cL rvc_2 3 (encN .i64) (countsN us), cObj b_2 51 [(Value.slice none 0 0), (Value.slice none 0 0)]] _ := hs_9
          refine RT.ev rfl rfl (Ev.assign rfl) ?_
          refine RT.eff rfl rfl (OpE.storeObjA (vs := [rvw_2, rvc_2]) agg51 hs_9d (i := 13) rfl rfl rfl rfl (fun v h => by simp only [List.mem_cons, List.not_mem_nil, or_false] at h; rcases h with rfl | rfl; exact (hs_9d.rdL 11 rfl).oneCell; exact (hs_9d.rdL 12 rfl).oneCell) fun w_8 hs_10 hch_4 => ?_)
          have hs_10d : Sat w [cObj lg_1 92 [lvw_1, lvc_1, lvo_1], cL lvw_1 9 (encTx) (wordsN vs), cL lvc_1 3 (encN .i64) (countsN vs), cL lvo_1 3 (encN .i64) (ordN (wordsN vs)), cL rvw_1 9 (encTx) (wordsN vs), cL rvc_1 3 (encN .i64) (countsN vs), cObj b_1 51 [rvw_1, rvc_1], cObj lg_2 92 [lvw_2, lvc_2, lvo_2], cL lvw_2 9 (encTx) (wordsN us), cL lvc_2 3 (encN .i64) (countsN us), cL lvo_2 3 (encN .i64) (ordN (wordsN us)), cL rvw_2 9 (encTx) (wordsN us), cL rvc_2 3 (encN .i64) (countsN us), cObj b_2 51 [rvw_2, rvc_2]] _ := hs_10
          refine RT.ev rfl rfl (Ev.assign rfl) ?_
          refine RT.nil ?_
          refine CW.seq ?_
          refine CW.seq ?_
          refine CW.region ?_
          refine RT.ev rfl rfl (Ev.move rfl) ?_
          refine RT.ev rfl rfl (Ev.notB rfl) ?_
          refine RT.ev rfl rfl (Ev.move rfl) ?_
          refine RT.yes rfl rfl rfl (rfl) ?_
          refine RT.ev rfl rfl (Ev.move rfl) ?_
          refine RT.yes rfl rfl rfl (rfl) ?_
          refine RT.ev rfl rfl (Ev.notB rfl) ?_
          refine RT.ev rfl rfl (Ev.pickN rfl (rfl) rfl) ?_
          refine RT.ev rfl rfl (Ev.move rfl) ?_
          refine RT.yes rfl rfl rfl (rfl) ?_
          refine RT.ev rfl rfl (Ev.move rfl) ?_
          refine RT.yes rfl rfl rfl (rfl) ?_
          refine RT.ev rfl rfl (Ev.eqlPt Try.underlying46 rfl rfl) ?_
          refine RT.ev rfl rfl (Ev.pickN rfl (rfl) rfl) ?_
          refine RT.ev rfl rfl (Ev.move rfl) ?_
          refine RT.yes rfl rfl rfl (rfl) ?_
          refine RT.ev rfl rfl (Ev.move rfl) ?_
          refine RT.yes rfl rfl rfl (rfl) ?_
          refine RT.ev rfl rfl (Ev.eqlPt Try.underlying46 rfl rfl) ?_
          refine RT.ev rfl rfl (Ev.pickN rfl (rfl) rfl) ?_
          refine RT.nil ?_
          refine CW.condF rfl (rfl) ?_
          refine CW.skip ?_
          refine CW.seq ?_
          refine CW.weaken [(0, _), (1, _), (4, _), (5, _), (6, _), (7, _), (8, _), (9, _), (10, _), (24, _), (50, _)] ⟨rfl, rfl, rfl, rfl, rfl, rfl, rfl, rfl, rfl, rfl, rfl, trivial⟩ ?_
          rcases Decidable.em (bldE (allN (wordsN vs) (countsN vs) ++ allN (wordsN us) (countsN us)) = 0) with heL | heL
          · refine CW.region ?_
            refine RT.ev rfl rfl (Ev.move rfl) ?_
            refine RT.ev rfl rfl (Ev.move rfl) ?_
            refine RT.eff rfl rfl (OpE.call ent47 rfl ((merge_good _ _ _ _ _ _ _ _ _ _ _ _ _ _ _ (hs_10d.lexAt 0 1 2 3 rfl rfl rfl rfl) (hs_10d.lexAt 7 8 9 10 rfl rfl rfl rfl) (countsN_length vs) (countsN_length us) (sum_le he) (sum_le he2) (bld_len he) (bld_len he2) heL).mono fun r_5 w_9 h_5 => ?_))
            obtain ⟨lg_3, lvw_3, lvc_3, lvo_3, lv1_1, lv2_1, rfl, hp_5⟩ := h_5
            have hs_11 : Sat w [cObj lg_1 92 [lvw_1, lvc_1, lvo_1], cL lvw_1 9 (encTx) (wordsN vs), cL lvc_1 3 (encN .i64) (countsN vs), cL lvo_1 3 (encN .i64) (ordN (wordsN vs)), cL rvw_1 9 (encTx) (wordsN vs), cL rvc_1 3 (encN .i64) (countsN vs), cObj b_1 51 [rvw_1, rvc_1], cObj lg_2 92 [lvw_2, lvc_2, lvo_2], cL lvw_2 9 (encTx) (wordsN us), cL lvc_2 3 (encN .i64) (countsN us), cL lvo_2 3 (encN .i64) (ordN (wordsN us)), cL rvw_2 9 (encTx) (wordsN us), cL rvc_2 3 (encN .i64) (countsN us), cObj b_2 51 [rvw_2, rvc_2], cObj lg_3 92 [lvw_3, lvc_3, lvo_3], cL lvw_3 9 (encTx) (wordsN (allN (wordsN vs) (countsN vs) ++ allN (wordsN us) (countsN us))), cL lvc_3 3 (encN .i64) (countsN (allN (wordsN vs) (countsN vs) ++ allN (wordsN us) (countsN us))), cL lvo_3 3 (encN .i64) (ordN (wordsN (allN (wordsN vs) (countsN vs) ++ allN (wordsN us) (countsN us)))), cL lv1_1 3 (encN .i64) (((wordsN vs).map fun y => (numN (wordsN (allN (wordsN vs) (countsN vs) ++ allN (wordsN us) (countsN us))) y).1)), cL lv2_1 3 (encN .i64) (((wordsN us).map fun y => (numN (wordsN (allN (wordsN vs) (countsN vs) ++ allN (wordsN us) (countsN us))) y).1))] _ := hs_10d.adds hp_5
            refine RT.ev rfl rfl (Ev.move rfl) ?_
            refine RT.ev rfl rfl (Ev.extract rfl rfl) ?_
            refine RT.ev rfl rfl (Ev.extract rfl rfl) ?_
            refine RT.ev rfl rfl (Ev.extract rfl rfl) ?_
            refine RT.ev rfl rfl (Ev.extract rfl rfl) ?_
            refine RT.ev rfl rfl (Ev.assign rfl) ?_
            refine RT.ev rfl rfl (Ev.assign rfl) ?_
            refine RT.ev rfl rfl (Ev.assign rfl) ?_
            refine RT.ev rfl rfl (Ev.assign rfl) ?_
            refine RT.nil ?_
            refine CW.seq ?_
            refine CW.region ?_
            refine RT.ev rfl rfl (Ev.ldObj agg51 rfl hs_11 (i := 6) rfl rfl) ?_
            refine RT.ev rfl rfl (Ev.ldObj agg51 rfl hs_11 (i := 13) rfl rfl) ?_
            refine RT.eff rfl rfl (OpE.call ent48 rfl ((rmerge_good _ _ _ _ _ _ _ _ _ (hs_11.rdL 4 rfl) (hs_11.rdL 5 rfl) (hs_11.rdL 11 rfl) (hs_11.rdL 12 rfl) (countsN_length vs) (countsN_length us) (sum_le he) (sum_le he2) (bld_len he) (bld_len he2) heL).mono fun r_6 w_10 h_6 => ?_))
            obtain ⟨rvw_3, rvc_3, rv1_1, rv2_1, rfl, hp_6⟩ := h_6
            have hs_12 : Sat w [cObj lg_1 92 [lvw_1, lvc_1, lvo_1], cL lvw_1 9 (encTx) (wordsN vs), cL lvc_1 3 (encN .i64) (countsN vs), cL lvo_1 3 (encN .i64) (ordN (wordsN vs)), cL rvw_1 9 (encTx) (wordsN vs), cL rvc_1 3 (encN .i64) (countsN vs), cObj b_1 51 [rvw_1, rvc_1], cObj lg_2 92 [lvw_2, lvc_2, lvo_2], cL lvw_2 9 (encTx) (wordsN us), cL lvc_2 3 (encN .i64) (countsN us), cL lvo_2 3 (encN .i64) (ordN (wordsN us)), cL rvw_2 9 (encTx) (wordsN us), cL rvc_2 3 (encN .i64) (countsN us), cObj b_2 51 [rvw_2, rvc_2], cObj lg_3 92 [lvw_3, lvc_3, lvo_3], cL lvw_3 9 (encTx) (wordsN (allN (wordsN vs) (countsN vs) ++ allN (wordsN us) (countsN us))), cL lvc_3 3 (encN .i64) (countsN (allN (wordsN vs) (countsN vs) ++ allN (wordsN us) (countsN us))), cL lvo_3 3 (encN .i64) (ordN (wordsN (allN (wordsN vs) (countsN vs) ++ allN (wordsN us) (countsN us)))), cL lv1_1 3 (encN .i64) (((wordsN vs).map fun y => (numN (wordsN (allN (wordsN vs) (countsN vs) ++ allN (wordsN us) (countsN us))) y).1)), cL lv2_1 3 (encN .i64) (((wordsN us).map fun y => (numN (wordsN (allN (wordsN vs) (countsN vs) ++ allN (wordsN us) (countsN us))) y).1)), cL rvw_3 9 (encTx) (wordsN (allN (wordsN vs) (countsN vs) ++ allN (wordsN us) (countsN us))), cL rvc_3 3 (encN .i64) (countsN (allN (wordsN vs) (countsN vs) ++ allN (wordsN us) (countsN us))), cL rv1_1 3 (encN .i64) ((wordsN vs).map (lbW (wordsN (allN (wordsN vs) (countsN vs) ++ allN (wordsN us) (countsN us))))), cL rv2_1 3 (encN .i64) ((wordsN us).map (lbW (wordsN (allN (wordsN vs) (countsN vs) ++ allN (wordsN us) (countsN us)))))] _ := hs_11.adds hp_6
            refine RT.ev rfl rfl (Ev.move rfl) ?_
            refine RT.ev rfl rfl (Ev.extract rfl rfl) ?_
            refine RT.ev rfl rfl (Ev.extract rfl rfl) ?_
            refine RT.ev rfl rfl (Ev.extract rfl rfl) ?_
            refine RT.ev rfl rfl (Ev.extract rfl rfl) ?_
            refine RT.eff rfl rfl (OpE.alloc hs_12 zero51 fun b_3 w_11 hs_13 hch_5 hb_3 => ?_)
            have hs_13d : Sat w [cObj lg_1 92 [lvw_1, lvc_1, lvo_1], cL lvw_1 9 (encTx) (wordsN vs), cL lvc_1 3 (encN .i64) (countsN vs), cL lvo_1 3 (encN .i64) (ordN (wordsN vs)), cL rvw_1 9 (encTx) (wordsN vs), cL rvc_1 3 (encN .i64) (countsN vs), cObj b_1 51 [rvw_1, rvc_1], cObj lg_2 92 [lvw_2, lvc_2, lvo_2], cL lvw_2 9 (encTx) (wordsN us), cL lvc_2 3 (encN .i64) (countsN us), cL lvo_2 3 (encN .i64) (ordN (wordsN us)), cL rvw_2 9 (encTx) (wordsN us), cL rvc_2 3 (encN .i64) (countsN us), cObj b_2 51 [rvw_2, rvc_2], cObj lg_3 92 [lvw_3, lvc_3, lvo_3], cL lvw_3 9 (encTx) (wordsN (allN (wordsN vs) (countsN vs) ++ allN (wordsN us) (countsN us))), cL lvc_3 3 (encN .i64) (countsN (allN (wordsN vs) (countsN vs) ++ allN (wordsN us) (countsN us))), cL lvo_3 3 (encN .i64) (ordN (wordsN (allN (wordsN vs) (countsN vs) ++ allN (wordsN us) (countsN us)))), cL lv1_1 3 (encN .i64) (((wordsN vs).map fun y => (numN (wordsN (allN (wordsN vs) (countsN vs) ++ allN (wordsN us) (countsN us))) y).1)), cL lv2_1 3 (encN .i64) (((wordsN us).map fun y => (numN (wordsN (allN (wordsN vs) (countsN vs) ++ allN (wordsN us) (countsN us))) y).1)), cL rvw_3 9 (encTx) (wordsN (allN (wordsN vs) (countsN vs) ++ allN (wordsN us) (countsN us))), cL rvc_3 3 (encN .i64) (countsN (allN (wordsN vs) (countsN vs) ++ allN (wordsN us) (countsN us))), cL rv1_1 3 (encN .i64) ((wordsN vs).map (lbW (wordsN (allN (wordsN vs) (countsN vs) ++ allN (wordsN us) (countsN us))))), cL rv2_1 3 (encN .i64) ((wordsN us).map (lbW (wordsN (allN (wordsN vs) (countsN vs) ++ allN (wordsN us) (countsN us))))), cObj b_3 51 [(Value.slice none 0 0), (Value.slice none 0 0)]] _ := hs_13
            refine RT.eff rfl rfl (OpE.storeObjA (vs := [rvw_3, rvc_3]) agg51 hs_13d (i := 24) rfl rfl rfl rfl (fun v h => by simp only [List.mem_cons, List.not_mem_nil, or_false] at h; rcases h with rfl | rfl; exact (hs_13d.rdL 20 rfl).oneCell; exact (hs_13d.rdL 21 rfl).oneCell) fun w_12 hs_14 hch_6 => ?_)
            have hs_14d : Sat w [cObj lg_1 92 [lvw_1, lvc_1, lvo_1], cL lvw_1 9 (encTx) (wordsN vs), cL lvc_1 3 (encN .i64) (countsN vs), cL lvo_1 3 (encN .i64) (ordN (wordsN vs)), cL rvw_1 9 (encTx) (wordsN vs), cL rvc_1 3 (encN .i64) (countsN vs), cObj b_1 51 [rvw_1, rvc_1], cObj lg_2 92 [lvw_2, lvc_2, lvo_2], cL lvw_2 9 (encTx) (wordsN us), cL lvc_2 3 (encN .i64) (countsN us), cL lvo_2 3 (encN .i64) (ordN (wordsN us)), cL rvw_2 9 (encTx) (wordsN us), cL rvc_2 3 (encN .i64) (countsN us), cObj b_2 51 [rvw_2, rvc_2], cObj lg_3 92 [lvw_3, lvc_3, lvo_3], cL lvw_3 9 (encTx) (wordsN (allN (wordsN vs) (countsN vs) ++ allN (wordsN us) (countsN us))), cL lvc_3 3 (encN .i64) (countsN (allN (wordsN vs) (countsN vs) ++ allN (wordsN us) (countsN us))), cL lvo_3 3 (encN .i64) (ordN (wordsN (allN (wordsN vs) (countsN vs) ++ allN (wordsN us) (countsN us)))), cL lv1_1 3 (encN .i64) (((wordsN vs).map fun y => (numN (wordsN (allN (wordsN vs) (countsN vs) ++ allN (wordsN us) (countsN us))) y).1)), cL lv2_1 3 (encN .i64) (((wordsN us).map fun y => (numN (wordsN (allN (wordsN vs) (countsN vs) ++ allN (wordsN us) (countsN us))) y).1)), cL rvw_3 9 (encTx) (wordsN (allN (wordsN vs) (countsN vs) ++ allN (wordsN us) (countsN us))), cL rvc_3 3 (encN .i64) (countsN (allN (wordsN vs) (countsN vs) ++ allN (wordsN us) (countsN us))), cL rv1_1 3 (encN .i64) ((wordsN vs).map (lbW (wordsN (allN (wordsN vs) (countsN vs) ++ allN (wordsN us) (countsN us))))), cL rv2_1 3 (encN .i64) ((wordsN us).map (lbW (wordsN (allN (wordsN vs) (countsN vs) ++ allN (wordsN us) (countsN us))))), cObj b_3 51 [rvw_3, rvc_3]] _ := hs_14
            refine RT.ev rfl rfl (Ev.assign rfl) ?_
            refine RT.ev rfl rfl (Ev.assign rfl) ?_
            refine RT.ev rfl rfl (Ev.assign rfl) ?_
            refine RT.nil ?_
            refine CW.seq ?_
            have hno1 := nums_eq (all_mem1 (vs := vs) (B := allN (wordsN us) (countsN us)))
            have hno2 := nums_eq (all_mem2 (vs := us) (B := allN (wordsN vs) (countsN vs)))
            refine CW.region ?_
            refine RT.ev rfl rfl (Ev.move rfl) ?_
            refine RT.ev rfl rfl (Ev.move rfl) ?_
            refine RT.ev rfl rfl (Ev.eqlN (a := 0) (b := 0) rfl rfl) ?_
            refine RT.ev rfl rfl (Ev.move rfl) ?_
            refine RT.yes rfl rfl rfl (rfl) ?_
            refine RT.ev rfl rfl (Ev.move rfl) ?_
            refine RT.yes rfl rfl rfl (rfl) ?_
            refine RT.ev rfl rfl (Ev.neqN (a := 0) (b := 0) rfl rfl) ?_
            refine RT.yes rfl rfl rfl (rfl) ?_
            refine RT.ev rfl rfl (Ev.move rfl) ?_
            refine RT.yes rfl rfl rfl (rfl) ?_
            refine RT.ev rfl rfl (Ev.move rfl) ?_
            refine RT.yes rfl rfl rfl (rfl) ?_
            refine RT.ev rfl rfl (Ev.ldObj agg51 rfl hs_14d (i := 24) rfl rfl) ?_
            refine RT.yes rfl rfl rfl (rfl) ?_
            refine RT.eff rfl rfl (OpE.call ent49 rfl ((lsame_ok _ _ _ _ _ _ _ _ _ _ (hs_14d.lexAt 14 15 16 17 rfl rfl rfl rfl) (hs_14d.rdL 20 rfl) (hs_14d.rdL 21 rfl) (countsN_length _) (bld_len heL)).mono fun r_7 w_13 h_7 => ?_))
            obtain ⟨rfl, hp_7⟩ := h_7
            have hs_15 : Sat w [cObj lg_1 92 [lvw_1, lvc_1, lvo_1], cL lvw_1 9 (encTx) (wordsN vs), cL lvc_1 3 (encN .i64) (countsN vs), cL lvo_1 3 (encN .i64) (ordN (wordsN vs)), cL rvw_1 9 (encTx) (wordsN vs), cL rvc_1 3 (encN .i64) (countsN vs), cObj b_1 51 [rvw_1, rvc_1], cObj lg_2 92 [lvw_2, lvc_2, lvo_2], cL lvw_2 9 (encTx) (wordsN us), cL lvc_2 3 (encN .i64) (countsN us), cL lvo_2 3 (encN .i64) (ordN (wordsN us)), cL rvw_2 9 (encTx) (wordsN us), cL rvc_2 3 (encN .i64) (countsN us), cObj b_2 51 [rvw_2, rvc_2], cObj lg_3 92 [lvw_3, lvc_3, lvo_3], cL lvw_3 9 (encTx) (wordsN (allN (wordsN vs) (countsN vs) ++ allN (wordsN us) (countsN us))), cL lvc_3 3 (encN .i64) (countsN (allN (wordsN vs) (countsN vs) ++ allN (wordsN us) (countsN us))), cL lvo_3 3 (encN .i64) (ordN (wordsN (allN (wordsN vs) (countsN vs) ++ allN (wordsN us) (countsN us)))), cL lv1_1 3 (encN .i64) (((wordsN vs).map fun y => (numN (wordsN (allN (wordsN vs) (countsN vs) ++ allN (wordsN us) (countsN us))) y).1)), cL lv2_1 3 (encN .i64) (((wordsN us).map fun y => (numN (wordsN (allN (wordsN vs) (countsN vs) ++ allN (wordsN us) (countsN us))) y).1)), cL rvw_3 9 (encTx) (wordsN (allN (wordsN vs) (countsN vs) ++ allN (wordsN us) (countsN us))), cL rvc_3 3 (encN .i64) (countsN (allN (wordsN vs) (countsN vs) ++ allN (wordsN us) (countsN us))), cL rv1_1 3 (encN .i64) ((wordsN vs).map (lbW (wordsN (allN (wordsN vs) (countsN vs) ++ allN (wordsN us) (countsN us))))), cL rv2_1 3 (encN .i64) ((wordsN us).map (lbW (wordsN (allN (wordsN vs) (countsN vs) ++ allN (wordsN us) (countsN us))))), cObj b_3 51 [rvw_3, rvc_3]] _ := hs_14d.adds hp_7
            refine RT.yes rfl rfl rfl (rfl) ?_
            refine RT.ev rfl rfl (Ev.pickN rfl (rfl) rfl) ?_
            refine RT.ev rfl rfl (Ev.pickY rfl (rfl) rfl) ?_
            refine RT.ev rfl rfl (Ev.move rfl) ?_
            refine RT.yes rfl rfl rfl (rfl) ?_
            refine RT.ev rfl rfl (Ev.move rfl) ?_
            refine RT.yes rfl rfl rfl (rfl) ?_
            refine RT.ev rfl rfl (Ev.move rfl) ?_
            refine RT.yes rfl rfl rfl (rfl) ?_
            refine RT.eff rfl rfl (OpE.call ent26 rfl ((same_ok _ _ (((wordsN vs).map fun y => (numN (wordsN (allN (wordsN vs) (countsN vs) ++ allN (wordsN us) (countsN us))) y).1)) ((wordsN vs).map (lbW (wordsN (allN (wordsN vs) (countsN vs) ++ allN (wordsN us) (countsN us))))) _ (hs_15.rdL 18 rfl) (hs_15.rdL 22 rfl) (by first | (simp only [List.length_map]; have := bld_len he; have := bld_len he2; omega) | (simp only [List.length_nil]; omega))).mono fun r_8 w_14 h_8 => ?_))
            obtain ⟨rfl, hp_8⟩ := h_8
            have hs_16 : Sat w [cObj lg_1 92 [lvw_1, lvc_1, lvo_1], cL lvw_1 9 (encTx) (wordsN vs), cL lvc_1 3 (encN .i64) (countsN vs), cL lvo_1 3 (encN .i64) (ordN (wordsN vs)), cL rvw_1 9 (encTx) (wordsN vs), cL rvc_1 3 (encN .i64) (countsN vs), cObj b_1 51 [rvw_1, rvc_1], cObj lg_2 92 [lvw_2, lvc_2, lvo_2], cL lvw_2 9 (encTx) (wordsN us), cL lvc_2 3 (encN .i64) (countsN us), cL lvo_2 3 (encN .i64) (ordN (wordsN us)), cL rvw_2 9 (encTx) (wordsN us), cL rvc_2 3 (encN .i64) (countsN us), cObj b_2 51 [rvw_2, rvc_2], cObj lg_3 92 [lvw_3, lvc_3, lvo_3], cL lvw_3 9 (encTx) (wordsN (allN (wordsN vs) (countsN vs) ++ allN (wordsN us) (countsN us))), cL lvc_3 3 (encN .i64) (countsN (allN (wordsN vs) (countsN vs) ++ allN (wordsN us) (countsN us))), cL lvo_3 3 (encN .i64) (ordN (wordsN (allN (wordsN vs) (countsN vs) ++ allN (wordsN us) (countsN us)))), cL lv1_1 3 (encN .i64) (((wordsN vs).map fun y => (numN (wordsN (allN (wordsN vs) (countsN vs) ++ allN (wordsN us) (countsN us))) y).1)), cL lv2_1 3 (encN .i64) (((wordsN us).map fun y => (numN (wordsN (allN (wordsN vs) (countsN vs) ++ allN (wordsN us) (countsN us))) y).1)), cL rvw_3 9 (encTx) (wordsN (allN (wordsN vs) (countsN vs) ++ allN (wordsN us) (countsN us))), cL rvc_3 3 (encN .i64) (countsN (allN (wordsN vs) (countsN vs) ++ allN (wordsN us) (countsN us))), cL rv1_1 3 (encN .i64) ((wordsN vs).map (lbW (wordsN (allN (wordsN vs) (countsN vs) ++ allN (wordsN us) (countsN us))))), cL rv2_1 3 (encN .i64) ((wordsN us).map (lbW (wordsN (allN (wordsN vs) (countsN vs) ++ allN (wordsN us) (countsN us))))), cObj b_3 51 [rvw_3, rvc_3]] _ := hs_15.adds hp_8
            refine RT.ev rfl rfl (Ev.pickY rfl (rfl) rfl) ?_
            refine RT.ev rfl rfl (Ev.move rfl) ?_
            refine RT.yes rfl rfl rfl (decide_eq_true hno1) ?_
            refine RT.ev rfl rfl (Ev.move rfl) ?_
            refine RT.yes rfl rfl rfl (decide_eq_true hno1) ?_
            refine RT.ev rfl rfl (Ev.move rfl) ?_
            refine RT.yes rfl rfl rfl (decide_eq_true hno1) ?_
            refine RT.eff rfl rfl (OpE.call ent26 rfl ((same_ok _ _ (((wordsN us).map fun y => (numN (wordsN (allN (wordsN vs) (countsN vs) ++ allN (wordsN us) (countsN us))) y).1)) ((wordsN us).map (lbW (wordsN (allN (wordsN vs) (countsN vs) ++ allN (wordsN us) (countsN us))))) _ (hs_16.rdL 19 rfl) (hs_16.rdL 23 rfl) (by first | (simp only [List.length_map]; have := bld_len he; have := bld_len he2; omega) | (simp only [List.length_nil]; omega))).mono fun r_9 w_15 h_9 => ?_))
            obtain ⟨rfl, hp_9⟩ := h_9
            have hs_17 : Sat w [cObj lg_1 92 [lvw_1, lvc_1, lvo_1], cL lvw_1 9 (encTx) (wordsN vs), cL lvc_1 3 (encN .i64) (countsN vs), cL lvo_1 3 (encN .i64) (ordN (wordsN vs)), cL rvw_1 9 (encTx) (wordsN vs), cL rvc_1 3 (encN .i64) (countsN vs), cObj b_1 51 [rvw_1, rvc_1], cObj lg_2 92 [lvw_2, lvc_2, lvo_2], cL lvw_2 9 (encTx) (wordsN us), cL lvc_2 3 (encN .i64) (countsN us), cL lvo_2 3 (encN .i64) (ordN (wordsN us)), cL rvw_2 9 (encTx) (wordsN us), cL rvc_2 3 (encN .i64) (countsN us), cObj b_2 51 [rvw_2, rvc_2], cObj lg_3 92 [lvw_3, lvc_3, lvo_3], cL lvw_3 9 (encTx) (wordsN (allN (wordsN vs) (countsN vs) ++ allN (wordsN us) (countsN us))), cL lvc_3 3 (encN .i64) (countsN (allN (wordsN vs) (countsN vs) ++ allN (wordsN us) (countsN us))), cL lvo_3 3 (encN .i64) (ordN (wordsN (allN (wordsN vs) (countsN vs) ++ allN (wordsN us) (countsN us)))), cL lv1_1 3 (encN .i64) (((wordsN vs).map fun y => (numN (wordsN (allN (wordsN vs) (countsN vs) ++ allN (wordsN us) (countsN us))) y).1)), cL lv2_1 3 (encN .i64) (((wordsN us).map fun y => (numN (wordsN (allN (wordsN vs) (countsN vs) ++ allN (wordsN us) (countsN us))) y).1)), cL rvw_3 9 (encTx) (wordsN (allN (wordsN vs) (countsN vs) ++ allN (wordsN us) (countsN us))), cL rvc_3 3 (encN .i64) (countsN (allN (wordsN vs) (countsN vs) ++ allN (wordsN us) (countsN us))), cL rv1_1 3 (encN .i64) ((wordsN vs).map (lbW (wordsN (allN (wordsN vs) (countsN vs) ++ allN (wordsN us) (countsN us))))), cL rv2_1 3 (encN .i64) ((wordsN us).map (lbW (wordsN (allN (wordsN vs) (countsN vs) ++ allN (wordsN us) (countsN us))))), cObj b_3 51 [rvw_3, rvc_3]] _ := hs_16.adds hp_9
            refine RT.ev rfl rfl (Ev.pickY rfl (decide_eq_true hno1) rfl) ?_
            refine RT.ev rfl rfl (Ev.move rfl) ?_
            refine RT.yes rfl rfl rfl (decide_eq_true hno2) ?_
            refine RT.eff rfl rfl (OpE.call ent33 rfl ((lawake_ok _).mono fun r_10 w_16 h_10 => ?_))
            obtain ⟨rfl, hp_10⟩ := h_10
            have hs_18 : Sat w [cObj lg_1 92 [lvw_1, lvc_1, lvo_1], cL lvw_1 9 (encTx) (wordsN vs), cL lvc_1 3 (encN .i64) (countsN vs), cL lvo_1 3 (encN .i64) (ordN (wordsN vs)), cL rvw_1 9 (encTx) (wordsN vs), cL rvc_1 3 (encN .i64) (countsN vs), cObj b_1 51 [rvw_1, rvc_1], cObj lg_2 92 [lvw_2, lvc_2, lvo_2], cL lvw_2 9 (encTx) (wordsN us), cL lvc_2 3 (encN .i64) (countsN us), cL lvo_2 3 (encN .i64) (ordN (wordsN us)), cL rvw_2 9 (encTx) (wordsN us), cL rvc_2 3 (encN .i64) (countsN us), cObj b_2 51 [rvw_2, rvc_2], cObj lg_3 92 [lvw_3, lvc_3, lvo_3], cL lvw_3 9 (encTx) (wordsN (allN (wordsN vs) (countsN vs) ++ allN (wordsN us) (countsN us))), cL lvc_3 3 (encN .i64) (countsN (allN (wordsN vs) (countsN vs) ++ allN (wordsN us) (countsN us))), cL lvo_3 3 (encN .i64) (ordN (wordsN (allN (wordsN vs) (countsN vs) ++ allN (wordsN us) (countsN us)))), cL lv1_1 3 (encN .i64) (((wordsN vs).map fun y => (numN (wordsN (allN (wordsN vs) (countsN vs) ++ allN (wordsN us) (countsN us))) y).1)), cL lv2_1 3 (encN .i64) (((wordsN us).map fun y => (numN (wordsN (allN (wordsN vs) (countsN vs) ++ allN (wordsN us) (countsN us))) y).1)), cL rvw_3 9 (encTx) (wordsN (allN (wordsN vs) (countsN vs) ++ allN (wordsN us) (countsN us))), cL rvc_3 3 (encN .i64) (countsN (allN (wordsN vs) (countsN vs) ++ allN (wordsN us) (countsN us))), cL rv1_1 3 (encN .i64) ((wordsN vs).map (lbW (wordsN (allN (wordsN vs) (countsN vs) ++ allN (wordsN us) (countsN us))))), cL rv2_1 3 (encN .i64) ((wordsN us).map (lbW (wordsN (allN (wordsN vs) (countsN vs) ++ allN (wordsN us) (countsN us))))), cObj b_3 51 [rvw_3, rvc_3]] _ := hs_17.adds hp_10
            refine RT.ev rfl rfl (Ev.pickY rfl (decide_eq_true hno2) rfl) ?_
            refine RT.ev rfl rfl (Ev.assign rfl) ?_
            refine RT.nil ?_
            refine CW.ret ?_
            show PostK _ _ _ _ _ _
            refine post1 rfl rfl ?_
            have hs_19 : Sat w [] w_16 := hs_18.sub ((.cons _ (.cons _ (.cons _ (.cons _ (.cons _ (.cons _ (.cons _ (.cons _ (.cons _ (.cons _ (.cons _ (.cons _ (.cons _ (.cons _ (.cons _ (.cons _ (.cons _ (.cons _ (.cons _ (.cons _ (.cons _ (.cons _ (.cons _ (.cons _ (.cons _ .slnil))))))))))))))))))))))))))
            exact ⟨rfl, hs_19⟩
          · refine CW.region ?_
            refine RT.ev rfl rfl (Ev.move rfl) ?_
            refine RT.ev rfl rfl (Ev.move rfl) ?_
            refine RT.eff rfl rfl (OpE.call ent47 rfl ((merge_err _ _ _ _ _ _ _ _ _ _ _ _ _ _ _ (hs_10d.lexAt 0 1 2 3 rfl rfl rfl rfl) (hs_10d.lexAt 7 8 9 10 rfl rfl rfl rfl) (countsN_length vs) (countsN_length us) (sum_le he) (sum_le he2) (bld_len he) (bld_len he2) heL).mono fun r_11 w_17 h_11 => ?_))
            obtain ⟨rfl, hp_11⟩ := h_11
            have hs_20 : Sat w [cObj lg_1 92 [lvw_1, lvc_1, lvo_1], cL lvw_1 9 (encTx) (wordsN vs), cL lvc_1 3 (encN .i64) (countsN vs), cL lvo_1 3 (encN .i64) (ordN (wordsN vs)), cL rvw_1 9 (encTx) (wordsN vs), cL rvc_1 3 (encN .i64) (countsN vs), cObj b_1 51 [rvw_1, rvc_1], cObj lg_2 92 [lvw_2, lvc_2, lvo_2], cL lvw_2 9 (encTx) (wordsN us), cL lvc_2 3 (encN .i64) (countsN us), cL lvo_2 3 (encN .i64) (ordN (wordsN us)), cL rvw_2 9 (encTx) (wordsN us), cL rvc_2 3 (encN .i64) (countsN us), cObj b_2 51 [rvw_2, rvc_2]] _ := hs_10d.adds hp_11
            refine RT.ev rfl rfl (Ev.move rfl) ?_
            refine RT.ev rfl rfl (Ev.extract rfl rfl) ?_
            refine RT.ev rfl rfl (Ev.extract rfl rfl) ?_
            refine RT.ev rfl rfl (Ev.extract rfl rfl) ?_
            refine RT.ev rfl rfl (Ev.extract rfl rfl) ?_
            refine RT.ev rfl rfl (Ev.assign rfl) ?_
            refine RT.ev rfl rfl (Ev.assign rfl) ?_
            refine RT.ev rfl rfl (Ev.assign rfl) ?_
            refine RT.ev rfl rfl (Ev.assign rfl) ?_
            refine RT.nil ?_
            refine CW.seq ?_
            refine CW.region ?_
            refine RT.ev rfl rfl (Ev.ldObj agg51 rfl hs_20 (i := 6) rfl rfl) ?_
            refine RT.ev rfl rfl (Ev.ldObj agg51 rfl hs_20 (i := 13) rfl rfl) ?_
            refine RT.eff rfl rfl (OpE.call ent48 rfl ((rmerge_err _ _ _ _ _ _ _ _ _ (hs_20.rdL 4 rfl) (hs_20.rdL 5 rfl) (hs_20.rdL 11 rfl) (hs_20.rdL 12 rfl) (countsN_length vs) (countsN_length us) (sum_le he) (sum_le he2) (bld_len he) (bld_len he2) heL).mono fun r_12 w_18 h_12 => ?_))
            obtain ⟨rfl, hp_12⟩ := h_12
            have hs_21 : Sat w [cObj lg_1 92 [lvw_1, lvc_1, lvo_1], cL lvw_1 9 (encTx) (wordsN vs), cL lvc_1 3 (encN .i64) (countsN vs), cL lvo_1 3 (encN .i64) (ordN (wordsN vs)), cL rvw_1 9 (encTx) (wordsN vs), cL rvc_1 3 (encN .i64) (countsN vs), cObj b_1 51 [rvw_1, rvc_1], cObj lg_2 92 [lvw_2, lvc_2, lvo_2], cL lvw_2 9 (encTx) (wordsN us), cL lvc_2 3 (encN .i64) (countsN us), cL lvo_2 3 (encN .i64) (ordN (wordsN us)), cL rvw_2 9 (encTx) (wordsN us), cL rvc_2 3 (encN .i64) (countsN us), cObj b_2 51 [rvw_2, rvc_2]] _ := hs_20.adds hp_12
            refine RT.ev rfl rfl (Ev.move rfl) ?_
            refine RT.ev rfl rfl (Ev.extract rfl rfl) ?_
            refine RT.ev rfl rfl (Ev.extract rfl rfl) ?_
            refine RT.ev rfl rfl (Ev.extract rfl rfl) ?_
            refine RT.ev rfl rfl (Ev.extract rfl rfl) ?_
            refine RT.eff rfl rfl (OpE.alloc hs_21 zero51 fun b_4 w_19 hs_22 hch_7 hb_4 => ?_)
            have hs_22d : Sat w [cObj lg_1 92 [lvw_1, lvc_1, lvo_1], cL lvw_1 9 (encTx) (wordsN vs), cL lvc_1 3 (encN .i64) (countsN vs), cL lvo_1 3 (encN .i64) (ordN (wordsN vs)), cL rvw_1 9 (encTx) (wordsN vs), cL rvc_1 3 (encN .i64) (countsN vs), cObj b_1 51 [rvw_1, rvc_1], cObj lg_2 92 [lvw_2, lvc_2, lvo_2], cL lvw_2 9 (encTx) (wordsN us), cL lvc_2 3 (encN .i64) (countsN us), cL lvo_2 3 (encN .i64) (ordN (wordsN us)), cL rvw_2 9 (encTx) (wordsN us), cL rvc_2 3 (encN .i64) (countsN us), cObj b_2 51 [rvw_2, rvc_2], cObj b_4 51 [(Value.slice none 0 0), (Value.slice none 0 0)]] _ := hs_22
            refine RT.eff rfl rfl (OpE.storeObjA (vs := [(Value.slice none 0 0), (Value.slice none 0 0)]) agg51 hs_22d (i := 14) rfl rfl rfl rfl (fun v h => by simp only [List.mem_cons, List.not_mem_nil, or_false] at h; rcases h with rfl | rfl; exact rfl; exact rfl) fun w_20 hs_23 hch_8 => ?_)
            have hs_23d : Sat w [cObj lg_1 92 [lvw_1, lvc_1, lvo_1], cL lvw_1 9 (encTx) (wordsN vs), cL lvc_1 3 (encN .i64) (countsN vs), cL lvo_1 3 (encN .i64) (ordN (wordsN vs)), cL rvw_1 9 (encTx) (wordsN vs), cL rvc_1 3 (encN .i64) (countsN vs), cObj b_1 51 [rvw_1, rvc_1], cObj lg_2 92 [lvw_2, lvc_2, lvo_2], cL lvw_2 9 (encTx) (wordsN us), cL lvc_2 3 (encN .i64) (countsN us), cL lvo_2 3 (encN .i64) (ordN (wordsN us)), cL rvw_2 9 (encTx) (wordsN us), cL rvc_2 3 (encN .i64) (countsN us), cObj b_2 51 [rvw_2, rvc_2], cObj b_4 51 [(Value.slice none 0 0), (Value.slice none 0 0)]] _ := hs_23
            refine RT.ev rfl rfl (Ev.assign rfl) ?_
            refine RT.ev rfl rfl (Ev.assign rfl) ?_
            refine RT.ev rfl rfl (Ev.assign rfl) ?_
            refine RT.nil ?_
            refine CW.seq ?_
            have hno1 : ([] : List Nat) = [] := rfl
            have hno2 : ([] : List Nat) = [] := rfl
            refine CW.region ?_
            refine RT.ev rfl rfl (Ev.move rfl) ?_
            refine RT.ev rfl rfl (Ev.move rfl) ?_
            refine RT.ev rfl rfl (Ev.eqlN rfl rfl) ?_
            refine RT.ev rfl rfl (Ev.move rfl) ?_
            refine RT.yes rfl rfl rfl (decide_eq_true rfl) ?_
            refine RT.ev rfl rfl (Ev.move rfl) ?_
            refine RT.yes rfl rfl rfl (decide_eq_true rfl) ?_
            refine RT.ev rfl rfl (Ev.neqN (b := 0) rfl rfl) ?_
            refine RT.yes rfl rfl rfl (decide_eq_true rfl) ?_
            refine RT.ev rfl rfl (Ev.move rfl) ?_
            refine RT.no rfl rfl rfl (decide_eq_true (fun h9 => heL (by omega))) rfl ?_
            refine RT.no rfl rfl rfl (decide_eq_true (fun h9 => heL (by omega))) rfl ?_
            refine RT.no rfl rfl rfl (decide_eq_true (fun h9 => heL (by omega))) rfl ?_
            refine RT.yes rfl rfl rfl (decide_eq_true rfl) ?_
            refine RT.ev rfl rfl (Ev.pickY rfl (decide_eq_true (fun h9 => heL (by omega))) rfl) ?_
            refine RT.ev rfl rfl (Ev.pickY rfl (decide_eq_true rfl) rfl) ?_
            refine RT.ev rfl rfl (Ev.move rfl) ?_
            refine RT.yes rfl rfl rfl (rfl) ?_
            refine RT.ev rfl rfl (Ev.move rfl) ?_
            refine RT.yes rfl rfl rfl (rfl) ?_
            refine RT.ev rfl rfl (Ev.move rfl) ?_
            refine RT.yes rfl rfl rfl (rfl) ?_
            refine RT.eff rfl rfl (OpE.call ent26 rfl ((same_ok _ _ ([]) ([]) _ (RdL.nil _ _) (RdL.nil _ _) (by first | (simp only [List.length_map]; have := bld_len he; have := bld_len he2; omega) | (simp only [List.length_nil]; omega))).mono fun r_13 w_21 h_13 => ?_))
            obtain ⟨rfl, hp_13⟩ := h_13
            have hs_24 : Sat w [cObj lg_1 92 [lvw_1, lvc_1, lvo_1], cL lvw_1 9 (encTx) (wordsN vs), cL lvc_1 3 (encN .i64) (countsN vs), cL lvo_1 3 (encN .i64) (ordN (wordsN vs)), cL rvw_1 9 (encTx) (wordsN vs), cL rvc_1 3 (encN .i64) (countsN vs), cObj b_1 51 [rvw_1, rvc_1], cObj lg_2 92 [lvw_2, lvc_2, lvo_2], cL lvw_2 9 (encTx) (wordsN us), cL lvc_2 3 (encN .i64) (countsN us), cL lvo_2 3 (encN .i64) (ordN (wordsN us)), cL rvw_2 9 (encTx) (wordsN us), cL rvc_2 3 (encN .i64) (countsN us), cObj b_2 51 [rvw_2, rvc_2], cObj b_4 51 [(Value.slice none 0 0), (Value.slice none 0 0)]] _ := hs_23d.adds hp_13
            refine RT.ev rfl rfl (Ev.pickY rfl (rfl) rfl) ?_
            refine RT.ev rfl rfl (Ev.move rfl) ?_
            refine RT.yes rfl rfl rfl (decide_eq_true hno1) ?_
            refine RT.ev rfl rfl (Ev.move rfl) ?_
            refine RT.yes rfl rfl rfl (decide_eq_true hno1) ?_
            refine RT.ev rfl rfl (Ev.move rfl) ?_
            refine RT.yes rfl rfl rfl (decide_eq_true hno1) ?_
            refine RT.eff rfl rfl (OpE.call ent26 rfl ((same_ok _ _ ([]) ([]) _ (RdL.nil _ _) (RdL.nil _ _) (by first | (simp only [List.length_map]; have := bld_len he; have := bld_len he2; omega) | (simp only [List.length_nil]; omega))).mono fun r_14 w_22 h_14 => ?_))
            obtain ⟨rfl, hp_14⟩ := h_14
            have hs_25 : Sat w [cObj lg_1 92 [lvw_1, lvc_1, lvo_1], cL lvw_1 9 (encTx) (wordsN vs), cL lvc_1 3 (encN .i64) (countsN vs), cL lvo_1 3 (encN .i64) (ordN (wordsN vs)), cL rvw_1 9 (encTx) (wordsN vs), cL rvc_1 3 (encN .i64) (countsN vs), cObj b_1 51 [rvw_1, rvc_1], cObj lg_2 92 [lvw_2, lvc_2, lvo_2], cL lvw_2 9 (encTx) (wordsN us), cL lvc_2 3 (encN .i64) (countsN us), cL lvo_2 3 (encN .i64) (ordN (wordsN us)), cL rvw_2 9 (encTx) (wordsN us), cL rvc_2 3 (encN .i64) (countsN us), cObj b_2 51 [rvw_2, rvc_2], cObj b_4 51 [(Value.slice none 0 0), (Value.slice none 0 0)]] _ := hs_24.adds hp_14
            refine RT.ev rfl rfl (Ev.pickY rfl (decide_eq_true hno1) rfl) ?_
            refine RT.ev rfl rfl (Ev.move rfl) ?_
            refine RT.yes rfl rfl rfl (decide_eq_true hno2) ?_
            refine RT.eff rfl rfl (OpE.call ent33 rfl ((lawake_ok _).mono fun r_15 w_23 h_15 => ?_))
            obtain ⟨rfl, hp_15⟩ := h_15
            have hs_26 : Sat w [cObj lg_1 92 [lvw_1, lvc_1, lvo_1], cL lvw_1 9 (encTx) (wordsN vs), cL lvc_1 3 (encN .i64) (countsN vs), cL lvo_1 3 (encN .i64) (ordN (wordsN vs)), cL rvw_1 9 (encTx) (wordsN vs), cL rvc_1 3 (encN .i64) (countsN vs), cObj b_1 51 [rvw_1, rvc_1], cObj lg_2 92 [lvw_2, lvc_2, lvo_2], cL lvw_2 9 (encTx) (wordsN us), cL lvc_2 3 (encN .i64) (countsN us), cL lvo_2 3 (encN .i64) (ordN (wordsN us)), cL rvw_2 9 (encTx) (wordsN us), cL rvc_2 3 (encN .i64) (countsN us), cObj b_2 51 [rvw_2, rvc_2], cObj b_4 51 [(Value.slice none 0 0), (Value.slice none 0 0)]] _ := hs_25.adds hp_15
            refine RT.ev rfl rfl (Ev.pickY rfl (decide_eq_true hno2) rfl) ?_
            refine RT.ev rfl rfl (Ev.assign rfl) ?_
            refine RT.nil ?_
            refine CW.ret ?_
            show PostK _ _ _ _ _ _
            refine post1 rfl rfl ?_
            have hs_27 : Sat w [] w_23 := hs_26.sub ((.cons _ (.cons _ (.cons _ (.cons _ (.cons _ (.cons _ (.cons _ (.cons _ (.cons _ (.cons _ (.cons _ (.cons _ (.cons _ (.cons _ (.cons _ .slnil))))))))))))))))
            exact ⟨rfl, hs_27⟩
        · refine CW.region ?_
          refine RT.ev rfl rfl (Ev.move rfl) ?_
          refine RT.eff rfl rfl (OpE.call ent36 rfl ((built_err _ _ _ (hu.ext hs_7d.ext) he2).mono fun r_16 w_24 h_16 => ?_))
          obtain ⟨rfl, hp_16⟩ := h_16
          have hs_28 : Sat w [cObj lg_1 92 [lvw_1, lvc_1, lvo_1], cL lvw_1 9 (encTx) (wordsN vs), cL lvc_1 3 (encN .i64) (countsN vs), cL lvo_1 3 (encN .i64) (ordN (wordsN vs)), cL rvw_1 9 (encTx) (wordsN vs), cL rvc_1 3 (encN .i64) (countsN vs), cObj b_1 51 [rvw_1, rvc_1]] _ := hs_7d.adds hp_16
          refine RT.ev rfl rfl (Ev.move rfl) ?_
          refine RT.ev rfl rfl (Ev.extract rfl rfl) ?_
          refine RT.ev rfl rfl (Ev.extract rfl rfl) ?_
          refine RT.ev rfl rfl (Ev.extract rfl rfl) ?_
          refine RT.eff rfl rfl (OpE.alloc hs_28 zero51 fun b_5 w_25 hs_29 hch_9 hb_5 => ?_)
          have hs_29d : Sat w [cObj lg_1 92 [lvw_1, lvc_1, lvo_1], cL lvw_1 9 (encTx) (wordsN vs), cL lvc_1 3 (encN .i64) (countsN vs), cL lvo_1 3 (encN .i64) (ordN (wordsN vs)), cL rvw_1 9 (encTx) (wordsN vs), cL rvc_1 3 (encN .i64) (countsN vs), cObj b_1 51 [rvw_1, rvc_1], cObj b_5 51 [(Value.slice none 0 0), (Value.slice none 0 0)]] _ := hs_29
          refine RT.ev rfl rfl (Ev.assign rfl) ?_
          refine RT.eff rfl rfl (OpE.storeObjA (vs := [(Value.slice none 0 0), (Value.slice none 0 0)]) agg51 hs_29d (i := 7) rfl rfl rfl rfl (fun v h => by simp only [List.mem_cons, List.not_mem_nil, or_false] at h; rcases h with rfl | rfl; exact rfl; exact rfl) fun w_26 hs_30 hch_10 => ?_)
          have hs_30d : Sat w [cObj lg_1 92 [lvw_1, lvc_1, lvo_1], cL lvw_1 9 (encTx) (wordsN vs), cL lvc_1 3 (encN .i64) (countsN vs), cL lvo_1 3 (encN .i64) (ordN (wordsN vs)), cL rvw_1 9 (encTx) (wordsN vs), cL rvc_1 3 (encN .i64) (countsN vs), cObj b_1 51 [rvw_1, rvc_1], cObj b_5 51 [(Value.slice none 0 0), (Value.slice none 0 0)]] _ := hs_30
          refine RT.ev rfl rfl (Ev.assign rfl) ?_
          refine RT.nil ?_
          refine CW.seq ?_
          refine CW.seq ?_
          refine CW.region ?_
          refine RT.ev rfl rfl (Ev.move rfl) ?_
          refine RT.ev rfl rfl (Ev.notB rfl) ?_
          refine RT.ev rfl rfl (Ev.move rfl) ?_
          refine RT.yes rfl rfl rfl (rfl) ?_
          refine RT.ev rfl rfl (Ev.move rfl) ?_
          refine RT.yes rfl rfl rfl (rfl) ?_
          refine RT.ev rfl rfl (Ev.notB rfl) ?_
          refine RT.ev rfl rfl (Ev.pickN rfl (rfl) rfl) ?_
          refine RT.ev rfl rfl (Ev.move rfl) ?_
          refine RT.yes rfl rfl rfl (rfl) ?_
          refine RT.ev rfl rfl (Ev.move rfl) ?_
          refine RT.yes rfl rfl rfl (rfl) ?_
          refine RT.ev rfl rfl (Ev.eqlPt Try.underlying46 rfl rfl) ?_
          refine RT.ev rfl rfl (Ev.pickN rfl (rfl) rfl) ?_
          refine RT.ev rfl rfl (Ev.move rfl) ?_
          refine RT.yes rfl rfl rfl (rfl) ?_
          refine RT.ev rfl rfl (Ev.move rfl) ?_
          refine RT.yes rfl rfl rfl (rfl) ?_
          refine RT.ev rfl rfl (Ev.eqlPt Try.underlying46 rfl rfl) ?_
          refine RT.ev rfl rfl (Ev.pickN rfl (rfl) rfl) ?_
          refine RT.nil ?_
          refine CW.condT rfl (rfl) ?_
          refine CW.seq ?_
          refine CW.weaken [(0, _), (1, _), (4, _), (5, _), (6, _), (7, _), (8, _), (9, _), (10, _), (24, _), (50, _)] ⟨rfl, rfl, rfl, rfl, rfl, rfl, rfl, rfl, rfl, rfl, rfl, trivial⟩ ?_
          refine CW.region ?_
          refine RT.ev rfl rfl (Ev.move rfl) ?_
          refine RT.ev rfl rfl (Ev.move rfl) ?_
          refine RT.yes rfl rfl rfl (rfl) ?_
          refine RT.ev rfl rfl (Ev.move rfl) ?_
          refine RT.ev rfl rfl (Ev.pickY rfl (rfl) rfl) ?_
          refine RT.ev rfl rfl (Ev.move rfl) ?_
          refine RT.yes rfl rfl rfl (rfl) ?_
          refine RT.eff rfl rfl (OpE.call ent33 rfl ((lawake_ok _).mono fun r_17 w_27 h_17 => ?_))
          obtain ⟨rfl, hp_17⟩ := h_17
          have hs_31 : Sat w [cObj lg_1 92 [lvw_1, lvc_1, lvo_1], cL lvw_1 9 (encTx) (wordsN vs), cL lvc_1 3 (encN .i64) (countsN vs), cL lvo_1 3 (encN .i64) (ordN (wordsN vs)), cL rvw_1 9 (encTx) (wordsN vs), cL rvc_1 3 (encN .i64) (countsN vs), cObj b_1 51 [rvw_1, rvc_1], cObj b_5 51 [(Value.slice none 0 0), (Value.slice none 0 0)]] _ := hs_30d.adds hp_17
          refine RT.ev rfl rfl (Ev.pickY rfl (rfl) rfl) ?_
          refine RT.ev rfl rfl (Ev.assign rfl) ?_
          refine RT.nil ?_
          refine CW.ret ?_
          show PostK _ _ _ _ _ _
          refine post1 rfl rfl ?_
          have hs_32 : Sat w [] w_27 := hs_31.sub ((.cons _ (.cons _ (.cons _ (.cons _ (.cons _ (.cons _ (.cons _ (.cons _ .slnil)))))))))
          exact ⟨rfl, hs_32⟩
      · refine CW.region ?_
        refine RT.ev rfl rfl (Ev.move rfl) ?_
        refine RT.eff rfl rfl (OpE.call ent36 rfl ((built_err _ _ _ (hv.ext hs_3.ext) he).mono fun r_18 w_28 h_18 => ?_))
        obtain ⟨rfl, hp_18⟩ := h_18
        have hs_33 : Sat w [] _ := hs_3.adds hp_18
        refine RT.ev rfl rfl (Ev.move rfl) ?_
        refine RT.ev rfl rfl (Ev.extract rfl rfl) ?_
        refine RT.ev rfl rfl (Ev.extract rfl rfl) ?_
        refine RT.ev rfl rfl (Ev.extract rfl rfl) ?_
        refine RT.eff rfl rfl (OpE.alloc hs_33 zero51 fun b_6 w_29 hs_34 hch_11 hb_6 => ?_)
        have hs_34d : Sat w [cObj b_6 51 [(Value.slice none 0 0), (Value.slice none 0 0)]] _ := hs_34
        refine RT.ev rfl rfl (Ev.assign rfl) ?_
        refine RT.eff rfl rfl (OpE.storeObjA (vs := [(Value.slice none 0 0), (Value.slice none 0 0)]) agg51 hs_34d (i := 0) rfl rfl rfl rfl (fun v h => by simp only [List.mem_cons, List.not_mem_nil, or_false] at h; rcases h with rfl | rfl; exact rfl; exact rfl) fun w_30 hs_35 hch_12 => ?_)
        have hs_35d : Sat w [cObj b_6 51 [(Value.slice none 0 0), (Value.slice none 0 0)]] _ := hs_35
        refine RT.ev rfl rfl (Ev.assign rfl) ?_
        refine RT.nil ?_
        refine CW.seq ?_
        rcases Decidable.em (bldE (us) = 0) with he2 | he2
        · refine CW.region ?_
          refine RT.ev rfl rfl (Ev.move rfl) ?_
          refine RT.eff rfl rfl (OpE.call ent36 rfl ((built_good _ _ _ (hu.ext hs_35d.ext) he2).mono fun r_19 w_31 h_19 => ?_))
          obtain ⟨lg_4, lvw_4, lvc_4, lvo_4, rvw_4, rvc_4, rfl, hp_19⟩ := h_19
          have hs_36 : Sat w [cObj b_6 51 [(Value.slice none 0 0), (Value.slice none 0 0)], cObj lg_4 92 [lvw_4, lvc_4, lvo_4], cL lvw_4 9 (encTx) (wordsN us), cL lvc_4 3 (encN .i64) (countsN us), cL lvo_4 3 (encN .i64) (ordN (wordsN us)), cL rvw_4 9 (encTx) (wordsN us), cL rvc_4 3 (encN .i64) (countsN us)] _ := hs_35d.adds hp_19
          refine RT.ev rfl rfl (Ev.move rfl) ?_
          refine RT.ev rfl rfl (Ev.extract rfl rfl) ?_
          refine RT.ev rfl rfl (Ev.extract rfl rfl) ?_
          refine RT.ev rfl rfl (Ev.extract rfl rfl) ?_
          refine RT.eff rfl rfl (OpE.alloc hs_36 zero51 fun b_7 w_32 hs_37 hch_13 hb_7 => ?_)
          have hs_37d : Sat w [cObj b_6 51 [(Value.slice none 0 0), (Value.slice none 0 0)], cObj lg_4 92 [lvw_4, lvc_4, lvo_4], cL lvw_4 9 (encTx) (wordsN us), cL lvc_4 3 (encN .i64) (countsN us), cL lvo_4 3 (encN .i64) (ordN (wordsN us)), cL rvw_4 9 (encTx) (wordsN us), cL rvc_4 3 (encN .i64) (countsN us), cObj b_7 51 [(Value.slice none 0 0), (Value.slice none 0 0)]] _ := hs_37
          refine RT.ev rfl rfl (Ev.assign rfl) ?_
          refine RT.eff rfl rfl (OpE.storeObjA (vs := [rvw_4, rvc_4]) agg51 hs_37d (i := 7) rfl rfl rfl rfl (fun v h => by simp only [List.mem_cons, List.not_mem_nil, or_false] at h; rcases h with rfl | rfl; exact (hs_37d.rdL 5 rfl).oneCell; exact (hs_37d.rdL 6 rfl).oneCell) fun w_33 hs_38 hch_14 => ?_)
          have hs_38d : Sat w [cObj b_6 51 [(Value.slice none 0 0), (Value.slice none 0 0)], cObj lg_4 92 [lvw_4, lvc_4, lvo_4], cL lvw_4 9 (encTx) (wordsN us), cL lvc_4 3 (encN .i64) (countsN us), cL lvo_4 3 (encN .i64) (ordN (wordsN us)), cL rvw_4 9 (encTx) (wordsN us), cL rvc_4 3 (encN .i64) (countsN us), cObj b_7 51 [rvw_4, rvc_4]] _ := hs_38
          refine RT.ev rfl rfl (Ev.assign rfl) ?_
          refine RT.nil ?_
          refine CW.seq ?_
          refine CW.seq ?_
          refine CW.region ?_
          refine RT.ev rfl rfl (Ev.move rfl) ?_
          refine RT.ev rfl rfl (Ev.notB rfl) ?_
          refine RT.ev rfl rfl (Ev.move rfl) ?_
          refine RT.yes rfl rfl rfl (rfl) ?_
          refine RT.ev rfl rfl (Ev.move rfl) ?_
          refine RT.yes rfl rfl rfl (rfl) ?_
          refine RT.ev rfl rfl (Ev.notB rfl) ?_
          refine RT.ev rfl rfl (Ev.pickN rfl (rfl) rfl) ?_
          refine RT.ev rfl rfl (Ev.move rfl) ?_
          refine RT.yes rfl rfl rfl (rfl) ?_
          refine RT.ev rfl rfl (Ev.move rfl) ?_
          refine RT.yes rfl rfl rfl (rfl) ?_
          refine RT.ev rfl rfl (Ev.eqlPt Try.underlying46 rfl rfl) ?_
          refine RT.ev rfl rfl (Ev.pickN rfl (rfl) rfl) ?_
          refine RT.ev rfl rfl (Ev.move rfl) ?_
          refine RT.no rfl rfl rfl (rfl) rfl ?_
          refine RT.no rfl rfl rfl (rfl) rfl ?_
          refine RT.ev rfl rfl (Ev.pickY rfl (rfl) rfl) ?_
          refine RT.nil ?_
          refine CW.condT rfl (rfl) ?_
          refine CW.seq ?_
          refine CW.weaken [(0, _), (1, _), (4, _), (5, _), (6, _), (7, _), (8, _), (9, _), (10, _), (24, _), (50, _)] ⟨rfl, rfl, rfl, rfl, rfl, rfl, rfl, rfl, rfl, rfl, rfl, trivial⟩ ?_
          refine CW.region ?_
          refine RT.ev rfl rfl (Ev.move rfl) ?_
          refine RT.ev rfl rfl (Ev.move rfl) ?_
          refine RT.yes rfl rfl rfl (rfl) ?_
          refine RT.ev rfl rfl (Ev.move rfl) ?_
          refine RT.ev rfl rfl (Ev.pickY rfl (rfl) rfl) ?_
          refine RT.ev rfl rfl (Ev.move rfl) ?_
          refine RT.yes rfl rfl rfl (rfl) ?_
          refine RT.eff rfl rfl (OpE.call ent33 rfl ((lawake_ok _).mono fun r_20 w_34 h_20 => ?_))
          obtain ⟨rfl, hp_20⟩ := h_20
          have hs_39 : Sat w [cObj b_6 51 [(Value.slice none 0 0), (Value.slice none 0 0)], cObj lg_4 92 [lvw_4, lvc_4, lvo_4], cL lvw_4 9 (encTx) (wordsN us), cL lvc_4 3 (encN .i64) (countsN us), cL lvo_4 3 (encN .i64) (ordN (wordsN us)), cL rvw_4 9 (encTx) (wordsN us), cL rvc_4 3 (encN .i64) (countsN us), cObj b_7 51 [rvw_4, rvc_4]] _ := hs_38d.adds hp_20
          refine RT.ev rfl rfl (Ev.pickY rfl (rfl) rfl) ?_
          refine RT.ev rfl rfl (Ev.assign rfl) ?_
          refine RT.nil ?_
          refine CW.ret ?_
          show PostK _ _ _ _ _ _
          refine post1 rfl rfl ?_
          have hs_40 : Sat w [] w_34 := hs_39.sub ((.cons _ (.cons _ (.cons _ (.cons _ (.cons _ (.cons _ (.cons _ (.cons _ .slnil)))))))))
          exact ⟨rfl, hs_40⟩
        · refine CW.region ?_
          refine RT.ev rfl rfl (Ev.move rfl) ?_
          refine RT.eff rfl rfl (OpE.call ent36 rfl ((built_err _ _ _ (hu.ext hs_35d.ext) he2).mono fun r_21 w_35 h_21 => ?_))
          obtain ⟨rfl, hp_21⟩ := h_21
          have hs_41 : Sat w [cObj b_6 51 [(Value.slice none 0 0), (Value.slice none 0 0)]] _ := hs_35d.adds hp_21
          refine RT.ev rfl rfl (Ev.move rfl) ?_
          refine RT.ev rfl rfl (Ev.extract rfl rfl) ?_
          refine RT.ev rfl rfl (Ev.extract rfl rfl) ?_
          refine RT.ev rfl rfl (Ev.extract rfl rfl) ?_
          refine RT.eff rfl rfl (OpE.alloc hs_41 zero51 fun b_8 w_36 hs_42 hch_15 hb_8 => ?_)
          have hs_42d : Sat w [cObj b_6 51 [(Value.slice none 0 0), (Value.slice none 0 0)], cObj b_8 51 [(Value.slice none 0 0), (Value.slice none 0 0)]] _ := hs_42
          refine RT.ev rfl rfl (Ev.assign rfl) ?_
          refine RT.eff rfl rfl (OpE.storeObjA (vs := [(Value.slice none 0 0), (Value.slice none 0 0)]) agg51 hs_42d (i := 1) rfl rfl rfl rfl (fun v h => by simp only [List.mem_cons, List.not_mem_nil, or_false] at h; rcases h with rfl | rfl; exact rfl; exact rfl) fun w_37 hs_43 hch_16 => ?_)
          have hs_43d : Sat w [cObj b_6 51 [(Value.slice none 0 0), (Value.slice none 0 0)], cObj b_8 51 [(Value.slice none 0 0), (Value.slice none 0 0)]] _ := hs_43
          refine RT.ev rfl rfl (Ev.assign rfl) ?_
          refine RT.nil ?_
          refine CW.seq ?_
          refine CW.seq ?_
          refine CW.region ?_
          refine RT.ev rfl rfl (Ev.move rfl) ?_
          refine RT.ev rfl rfl (Ev.notB rfl) ?_
          refine RT.ev rfl rfl (Ev.move rfl) ?_
          refine RT.yes rfl rfl rfl (rfl) ?_
          refine RT.ev rfl rfl (Ev.move rfl) ?_
          refine RT.yes rfl rfl rfl (rfl) ?_
          refine RT.ev rfl rfl (Ev.notB rfl) ?_
          refine RT.ev rfl rfl (Ev.pickN rfl (rfl) rfl) ?_
          refine RT.ev rfl rfl (Ev.move rfl) ?_
          refine RT.yes rfl rfl rfl (rfl) ?_
          refine RT.ev rfl rfl (Ev.move rfl) ?_
          refine RT.yes rfl rfl rfl (rfl) ?_
          refine RT.ev rfl rfl (Ev.eqlPt Try.underlying46 rfl rfl) ?_
          refine RT.ev rfl rfl (Ev.pickN rfl (rfl) rfl) ?_
          refine RT.ev rfl rfl (Ev.move rfl) ?_
          refine RT.no rfl rfl rfl (rfl) rfl ?_
          refine RT.no rfl rfl rfl (rfl) rfl ?_
          refine RT.ev rfl rfl (Ev.pickY rfl (rfl) rfl) ?_
          refine RT.nil ?_
          refine CW.condT rfl (rfl) ?_
          refine CW.seq ?_
          refine CW.weaken [(0, _), (1, _), (4, _), (5, _), (6, _), (7, _), (8, _), (9, _), (10, _), (24, _), (50, _)] ⟨rfl, rfl, rfl, rfl, rfl, rfl, rfl, rfl, rfl, rfl, rfl, trivial⟩ ?_
          refine CW.region ?_
          refine RT.ev rfl rfl (Ev.move rfl) ?_
          refine RT.ev rfl rfl (Ev.move rfl) ?_
          refine RT.yes rfl rfl rfl (rfl) ?_
          refine RT.ev rfl rfl (Ev.move rfl) ?_
          refine RT.ev rfl rfl (Ev.pickY rfl (rfl) rfl) ?_
          refine RT.ev rfl rfl (Ev.move rfl) ?_
          refine RT.yes rfl rfl rfl (rfl) ?_
          refine RT.eff rfl rfl (OpE.call ent33 rfl ((lawake_ok _).mono fun r_22 w_38 h_22 => ?_))
          obtain ⟨rfl, hp_22⟩ := h_22
          have hs_44 : Sat w [cObj b_6 51 [(Value.slice none 0 0), (Value.slice none 0 0)], cObj b_8 51 [(Value.slice none 0 0), (Value.slice none 0 0)]] _ := hs_43d.adds hp_22
          refine RT.ev rfl rfl (Ev.pickY rfl (rfl) rfl) ?_
          refine RT.ev rfl rfl (Ev.assign rfl) ?_
          refine RT.nil ?_
          refine CW.ret ?_
          show PostK _ _ _ _ _ _
          refine post1 rfl rfl ?_
          have hs_45 : Sat w [] w_38 := hs_44.sub ((.cons _ (.cons _ .slnil)))
          exact ⟨rfl, hs_45⟩

end Go.Proofs.Ytfhbflhnelbkfaa
