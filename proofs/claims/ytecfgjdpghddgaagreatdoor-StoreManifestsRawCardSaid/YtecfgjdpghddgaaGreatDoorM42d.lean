/-
  M42d: the text of a manifest read line by line. No program in sight.
-/
import Derived.Test.YtecfgjdpghddgaaGreatDoorM42c
set_option linter.unusedVariables false
set_option linter.unusedSimpArgs false
set_option linter.unusedSectionVars false
namespace Go.Kw
abbrev PV := List (Int × List ByteArray)
def stAt (al : List (ByteArray × Bool)) (nx jr : Int) (ps : PV) (k : Nat) (a : List (ByteArray × Bool)) (n j : Int) (q : PV) : Prop :=
  a = al.take (k - 3) ∧ n = (if 2 ≤ k then nx else 0) ∧ j = (if 3 ≤ k then jr else 0) ∧ q = ps.take (k - 3 - al.length)
def linesG (al : List (ByteArray × Bool)) (nx jr : Int) (ps : PV) : List (List UInt8) := hdrS nx jr ++ al.map atS ++ ps.map pcS ++ [[]]
def cls (al : List (ByteArray × Bool)) (nx jr : Int) (ps : PV) (k : Nat) (W : List ByteArray) : Prop :=
  (k = 0 ∧ W = [bs kCorp, bs [49]]) ∨ (k = 1 ∧ W = [bs kNext, decS nx.toNat]) ∨ (k = 2 ∧ W = [bs kJour, decS jr.toNat])
  ∨ (∃ x, 3 ≤ k ∧ al[k - 3]? = some x ∧ W = [bs kAttr, x.1, bs (setL x.2)])
  ∨ (∃ p, 3 + al.length ≤ k ∧ ps[k - 3 - al.length]? = some p ∧ W = bs kPiec :: decS p.1.toNat :: p.2)
  ∨ (k = 3 + al.length + ps.length ∧ W = [bs []])
theorem cut_line {x : List UInt8} {ws : List (List UInt8)} (h : ∀ l ∈ x :: ws, 32 ∉ l) : cutB 32 (bs (lineL x ws)) = (x :: ws).map bs := by
  unfold cutB lineL
  rw [bs_data, cutL_words ws x (h x (List.mem_cons_self ..)) fun l hl => h l (List.mem_cons_of_mem _ hl)]
theorem dec_no (n : Nat) {c : UInt8} (hc : c.toNat < 48) : c ∉ decN n := fun h => by have := decN_digit n c h; omega
theorem nm_map (l : List ByteArray) : (l.map fun n => n.data.toList).map bs = l := by
  rw [List.map_map]; conv => rhs; rw [← List.map_id l]
  exact List.map_congr_left fun x _ => data_bs x
section
variable {al : List (ByteArray × Bool)} {nx jr : Int} {pl : List Pc} {k : Nat}
theorem pcS_words {p : Int × List ByteArray} (h : ∀ n ∈ p.2, nameB n = true) : cutB 32 (bs (pcS p)) = bs kPiec :: decS p.1.toNat :: p.2 := by
  unfold pcS
  rw [cut_line fun l hl => ?_]
  · rw [List.map_cons, List.map_cons, nm_map]; rfl
  · rcases List.mem_cons.1 hl with rfl | hl
    · decide
    · rcases List.mem_cons.1 hl with rfl | hl
      · exact dec_no _ (by decide)
      · obtain ⟨n, hn, rfl⟩ := List.mem_map.1 hl
        exact nm_no (h n hn) (by decide)
theorem atS_words {x : ByteArray × Bool} (h : nameB x.1 = true) : cutB 32 (bs (atS x)) = [bs kAttr, x.1, bs (setL x.2)] := by
  unfold atS
  rw [cut_line fun l hl => ?_]
  · simp only [List.map_cons, List.map_nil, data_bs]
  · rcases List.mem_cons.1 hl with rfl | hl
    · decide
    · rcases List.mem_cons.1 hl with rfl | hl
      · exact nm_no h (by decide)
      · rw [List.mem_singleton.1 hl]; cases x.2 <;> decide
theorem linesG_len : (linesG al nx jr (pl.map pcV)).length = 3 + al.length + pl.length + 1 := by
  unfold linesG hdrS; simp; omega
theorem cls_of (hok : stOk al nx jr pl) {L : List ByteArray} (hL : L = (linesG al nx jr (pl.map pcV)).map bs) {x : ByteArray} (hx : L[k]? = some x) : cls al nx jr (pl.map pcV) k (cutB 32 x) := by
  subst hL
  rw [List.getElem?_map] at hx
  obtain ⟨y, hy, rfl⟩ := Option.map_eq_some_iff.1 hx
  have hkl := (List.getElem?_eq_some_iff.1 hy).1
  rw [linesG_len] at hkl
  unfold linesG at hy
  have h3 : (hdrS nx jr).length = 3 := rfl
  rcases Nat.lt_or_ge k 3 with h | h
  · rw [List.append_assoc, List.append_assoc, List.getElem?_append_left (by omega)] at hy
    have hc : k = 0 ∨ k = 1 ∨ k = 2 := by omega
    rcases hc with rfl | rfl | rfl
    · have e : y = lineL kCorp [[49]] := by have := hy; simp [hdrS] at this; exact this.symm
      subst e
      exact .inl ⟨rfl, by rw [cut_line (by decide)]; rfl⟩
    · have e : y = lineL kNext [decN nx.toNat] := by have := hy; simp [hdrS] at this; exact this.symm
      subst e
      refine .inr (.inl ⟨rfl, ?_⟩)
      rw [cut_line fun l hl => ?_]
      · rfl
      · rcases List.mem_cons.1 hl with rfl | hl
        · decide
        · rw [List.mem_singleton.1 hl]; exact dec_no _ (by decide)
    · have e : y = lineL kJour [decN jr.toNat] := by have := hy; simp [hdrS] at this; exact this.symm
      subst e
      refine .inr (.inr (.inl ⟨rfl, ?_⟩))
      rw [cut_line fun l hl => ?_]
      · rfl
      · rcases List.mem_cons.1 hl with rfl | hl
        · decide
        · rw [List.mem_singleton.1 hl]; exact dec_no _ (by decide)
  · rw [List.append_assoc, List.append_assoc, List.getElem?_append_right (by omega), h3] at hy
    rcases Nat.lt_or_ge (k - 3) al.length with h4 | h4
    · rw [List.getElem?_append_left (by simpa using h4), List.getElem?_map] at hy
      obtain ⟨z, hz, rfl⟩ := Option.map_eq_some_iff.1 hy
      exact .inr (.inr (.inr (.inl ⟨z, h, hz, atS_words (hok.names z (List.mem_of_getElem? hz))⟩)))
    · rw [List.getElem?_append_right (by simpa using h4), List.length_map] at hy
      rcases Nat.lt_or_ge (k - 3 - al.length) pl.length with h5 | h5
      · rw [List.getElem?_append_left (by simpa using h5), List.getElem?_map] at hy
        obtain ⟨p, hp, rfl⟩ := Option.map_eq_some_iff.1 hy
        have hpm := List.mem_of_getElem? hp
        obtain ⟨p0, hp0, rfl⟩ := List.mem_map.1 hpm
        exact .inr (.inr (.inr (.inr (.inl ⟨pcV p0, by omega, hp, pcS_words (hok.pcs p0 hp0).2.2.names⟩))))
      · rw [List.getElem?_append_right (by simpa using h5)] at hy
        have h6 : k - 3 - al.length - (List.map pcS (pl.map pcV)).length = 0 := by simp; omega
        rw [h6] at hy
        have e : y = [] := by simpa using hy.symm
        subst e
        refine .inr (.inr (.inr (.inr (.inr ⟨by rw [List.length_map]; omega, rfl⟩))))
theorem lines_of (hok : stOk al nx jr pl) : cutB 10 (bs (manL al nx jr (pl.map pcV))) = (linesG al nx jr (pl.map pcV)).map bs := by
  unfold cutB
  rw [bs_data, manL_lines]
  refine congrArg (List.map bs) (cutL_lines (c := 10) (hdrS nx jr ++ al.map atS ++ (pl.map pcV).map pcS) fun l hl => ?_)
  · have hsp : ∀ (x : List UInt8) (ws : List (List UInt8)), (∀ l ∈ x :: ws, 10 ∉ l) → 10 ∉ lineL x ws := fun x ws h h9 => by
      unfold lineL at h9
      rcases List.mem_append.1 h9 with h9 | h9
      · exact h x (List.mem_cons_self ..) h9
      · obtain ⟨q, hq, h8⟩ := List.mem_flatMap.1 h9
        rcases List.mem_cons.1 h8 with h8 | h8
        · exact absurd h8 (by decide)
        · exact h q (List.mem_cons_of_mem _ hq) h8
    rcases List.mem_append.1 hl with hl | hl
    · rcases List.mem_append.1 hl with hl | hl
      · have hc : l = lineL kCorp [[49]] ∨ l = lineL kNext [decN nx.toNat] ∨ l = lineL kJour [decN jr.toNat] := by simpa [hdrS] using hl
        rcases hc with rfl | rfl | rfl
        · decide
        · exact hsp _ _ fun q hq => by
            rcases List.mem_cons.1 hq with rfl | hq
            · decide
            · rw [List.mem_singleton.1 hq]; exact dec_no _ (by decide)
        · exact hsp _ _ fun q hq => by
            rcases List.mem_cons.1 hq with rfl | hq
            · decide
            · rw [List.mem_singleton.1 hq]; exact dec_no _ (by decide)
      · obtain ⟨x, hx, rfl⟩ := List.mem_map.1 hl
        exact hsp _ _ fun q hq => by
          rcases List.mem_cons.1 hq with rfl | hq
          · decide
          · rcases List.mem_cons.1 hq with rfl | hq
            · exact nm_no (hok.names x hx) (by decide)
            · rw [List.mem_singleton.1 hq]; cases x.2 <;> decide
    · obtain ⟨p, hp, rfl⟩ := List.mem_map.1 hl
      obtain ⟨p0, hp0, rfl⟩ := List.mem_map.1 hp
      exact hsp _ _ fun q hq => by
        rcases List.mem_cons.1 hq with rfl | hq
        · decide
        · rcases List.mem_cons.1 hq with rfl | hq
          · exact dec_no _ (by decide)
          · obtain ⟨n, hn, rfl⟩ := List.mem_map.1 hq
            exact nm_no ((hok.pcs p0 hp0).2.2.names n hn) (by decide)
end
section
variable {al : List (ByteArray × Bool)} {nx jr : Int} {ps : PV} {k : Nat} {a : List (ByteArray × Bool)} {n j : Int} {q : PV} {W : List ByteArray} {y0 : ByteArray}
theorem stAt_zero : stAt al nx jr ps 0 [] 0 0 [] := ⟨by simp, by simp, by simp, by simp⟩
theorem stAt_all (h : stAt al nx jr ps k a n j q) (hk : 4 + al.length + ps.length ≤ k) : al = a ∧ nx = n ∧ jr = j ∧ ps = q := by
  obtain ⟨h1, h2, h3, h4⟩ := h
  rw [if_pos (by omega)] at h2 h3
  rw [List.take_of_length_le (by omega)] at h1 h4
  exact ⟨h1.symm, h2.symm, h3.symm, h4.symm⟩
theorem st_same (hk : k = 0 ∨ k = 3 + al.length + ps.length) (h : stAt al nx jr ps k a n j q) : stAt al nx jr ps (k + 1) a n j q := by
  obtain ⟨h1, h2, h3, h4⟩ := h
  rcases hk with rfl | rfl
  · exact ⟨by simpa using h1, by simpa using h2, by simpa using h3, by simpa using h4⟩
  · rw [List.take_of_length_le (by omega)] at h1 h4
    rw [if_pos (by omega)] at h2 h3
    exact ⟨by rw [h1, List.take_of_length_le (by omega)], by rw [h2, if_pos (by omega)], by rw [h3, if_pos (by omega)], by rw [h4, List.take_of_length_le (by omega)]⟩
theorem kne : bs kCorp ≠ bs kNext ∧ bs kCorp ≠ bs kJour ∧ bs kCorp ≠ bs kAttr ∧ bs kCorp ≠ bs kPiec ∧ bs kNext ≠ bs kJour ∧ bs kNext ≠ bs kAttr ∧ bs kNext ≠ bs kPiec ∧ bs kJour ≠ bs kAttr ∧ bs kJour ≠ bs kPiec ∧ bs kAttr ≠ bs kPiec ∧ bs [] ≠ bs kNext ∧ bs [] ≠ bs kJour ∧ bs [] ≠ bs kAttr ∧ bs [] ≠ bs kPiec := by decide
theorem st_next (hc : cls al nx jr ps k W) (h0 : W[0]? = some y0) (he : y0 = bs kNext) {y : ByteArray} (hy : W[1]? = some y) {m : Int} (hm : y = decS nx.toNat → m = nx) (h : stAt al nx jr ps k a n j q) : stAt al nx jr ps (k + 1) a m j q := by
  obtain ⟨e1, e2, e3, e4, e5, e6, e7, e8, e9, e10, e11, e12, e13, e14⟩ := kne
  subst he
  rcases hc with ⟨rfl, rfl⟩ | ⟨rfl, rfl⟩ | ⟨rfl, rfl⟩ | ⟨x, _, _, rfl⟩ | ⟨x, _, _, rfl⟩ | ⟨rfl, rfl⟩
  · exact absurd (Option.some.inj h0) e1
  · obtain ⟨h1, h2, h3, h4⟩ := h
    have hy2 : decS nx.toNat = y := Option.some.inj hy
    exact ⟨by simpa using h1, by rw [hm hy2.symm]; rfl, by simpa using h3, by simpa using h4⟩
  · exact absurd (Option.some.inj h0).symm e5
  · exact absurd (Option.some.inj h0).symm e6
  · exact absurd (Option.some.inj h0).symm e7
  · exact absurd (Option.some.inj h0) e11
theorem st_jour (hc : cls al nx jr ps k W) (h0 : W[0]? = some y0) (he : y0 = bs kJour) {y : ByteArray} (hy : W[1]? = some y) {m : Int} (hm : y = decS jr.toNat → m = jr) (h : stAt al nx jr ps k a n j q) : stAt al nx jr ps (k + 1) a n m q := by
  obtain ⟨e1, e2, e3, e4, e5, e6, e7, e8, e9, e10, e11, e12, e13, e14⟩ := kne
  subst he
  rcases hc with ⟨rfl, rfl⟩ | ⟨rfl, rfl⟩ | ⟨rfl, rfl⟩ | ⟨x, _, _, rfl⟩ | ⟨x, _, _, rfl⟩ | ⟨rfl, rfl⟩
  · exact absurd (Option.some.inj h0) e2
  · exact absurd (Option.some.inj h0) e5
  · obtain ⟨h1, h2, h3, h4⟩ := h
    have hy2 : decS jr.toNat = y := Option.some.inj hy
    exact ⟨by simpa using h1, by rw [h2]; rfl, by rw [hm hy2.symm]; rfl, by simpa using h4⟩
  · exact absurd (Option.some.inj h0).symm e8
  · exact absurd (Option.some.inj h0).symm e9
  · exact absurd (Option.some.inj h0) e12
theorem st_attr (hc : cls al nx jr ps k W) (h0 : W[0]? = some y0) (he : y0 = bs kAttr) {y : ByteArray} (hy : W[1]? = some y) {b : Bool} (hb : ∀ z, W[2]? = some z → b = decide (z = bs [49])) (h : stAt al nx jr ps k a n j q) : stAt al nx jr ps (k + 1) (a ++ [(y, b)]) n j q := by
  obtain ⟨e1, e2, e3, e4, e5, e6, e7, e8, e9, e10, e11, e12, e13, e14⟩ := kne
  subst he
  rcases hc with ⟨rfl, rfl⟩ | ⟨rfl, rfl⟩ | ⟨rfl, rfl⟩ | ⟨x, hk, hx, rfl⟩ | ⟨x, _, _, rfl⟩ | ⟨rfl, rfl⟩
  · exact absurd (Option.some.inj h0) e3
  · exact absurd (Option.some.inj h0) e6
  · exact absurd (Option.some.inj h0) e8
  · obtain ⟨h1, h2, h3, h4⟩ := h
    have hy2 : x.1 = y := Option.some.inj hy
    have hb2 : b = x.2 := by
      rw [hb (bs (setL x.2)) rfl]
      cases x.2 <;> decide
    have hxl := (List.getElem?_eq_some_iff.1 hx).1
    refine ⟨?_, by rw [h2, if_pos (by omega), if_pos (by omega)], by rw [h3, if_pos (by omega), if_pos (by omega)], ?_⟩
    · rw [show k + 1 - 3 = (k - 3) + 1 by omega, take1 hx, ← h1, hb2, ← hy2]
    · rw [h4, show k - 3 - al.length = 0 by omega, show k + 1 - 3 - al.length = 0 by omega]
  · exact absurd (Option.some.inj h0).symm e10
  · exact absurd (Option.some.inj h0) e13
theorem st_piece (hc : cls al nx jr ps k W) (h0 : W[0]? = some y0) (he : y0 = bs kPiec) {y : ByteArray} (hy : W[1]? = some y) {m : Int} (hm : ∀ p ∈ ps, y = decS p.1.toNat → m = p.1) (h : stAt al nx jr ps k a n j q) : stAt al nx jr ps (k + 1) a n j (q ++ [(m, W.drop 2)]) := by
  obtain ⟨e1, e2, e3, e4, e5, e6, e7, e8, e9, e10, e11, e12, e13, e14⟩ := kne
  subst he
  rcases hc with ⟨rfl, rfl⟩ | ⟨rfl, rfl⟩ | ⟨rfl, rfl⟩ | ⟨x, hk, hx, rfl⟩ | ⟨x, hk, hx, rfl⟩ | ⟨rfl, rfl⟩
  · exact absurd (Option.some.inj h0) e4
  · exact absurd (Option.some.inj h0) e7
  · exact absurd (Option.some.inj h0) e9
  · exact absurd (Option.some.inj h0) e10
  · obtain ⟨h1, h2, h3, h4⟩ := h
    have hy2 : decS x.1.toNat = y := Option.some.inj hy
    have hm2 := hm x (List.mem_of_getElem? hx) hy2.symm
    refine ⟨?_, by rw [h2, if_pos (by omega), if_pos (by omega)], by rw [h3, if_pos (by omega), if_pos (by omega)], ?_⟩
    · rw [h1, List.take_of_length_le (by omega), List.take_of_length_le (by omega)]
    · rw [show k + 1 - 3 - al.length = (k - 3 - al.length) + 1 by omega, take1 hx, ← h4, hm2]; rfl
  · exact absurd (Option.some.inj h0) e14
theorem st_none (hc : cls al nx jr ps k W) (h0 : W[0]? = some y0) (n1 : ¬ (y0 = bs kNext ∧ W.length = 2)) (n2 : ¬ (y0 = bs kJour ∧ W.length = 2)) (n3 : ¬ (y0 = bs kAttr ∧ W.length = 3)) (n4 : ¬ (y0 = bs kPiec ∧ 2 ≤ W.length)) (h : stAt al nx jr ps k a n j q) : stAt al nx jr ps (k + 1) a n j q := by
  rcases hc with ⟨rfl, rfl⟩ | ⟨rfl, rfl⟩ | ⟨rfl, rfl⟩ | ⟨x, hk, hx, rfl⟩ | ⟨x, hk, hx, rfl⟩ | ⟨rfl, rfl⟩
  · exact st_same (.inl rfl) h
  · exact absurd ⟨(Option.some.inj h0).symm, rfl⟩ n1
  · exact absurd ⟨(Option.some.inj h0).symm, rfl⟩ n2
  · exact absurd ⟨(Option.some.inj h0).symm, rfl⟩ n3
  · exact absurd ⟨(Option.some.inj h0).symm, by simp⟩ n4
  · exact st_same (.inr rfl) h
end
theorem strOf_strB2 (s : ByteArray) : strOf (strB s) = s := by unfold strB; rw [strOf_bytes]
theorem manT_bytes {al : List (ByteArray × Bool)} {nx jr : Int} {ps : PV} {s : ByteArray} (h : s = manT al nx jr ps) : strB s = sealN (toN (manL al nx jr ps)) := by
  have hl : ∀ x ∈ sealN (toN (manL al nx jr ps)), x < 256 := fun x hx => by
    rcases List.mem_append.1 hx with hx | hx
    · exact toN_lt _ x hx
    · exact byts_lt _ x hx
  exact (strOf_inj (strB_lt s) hl).1 (by rw [strOf_strB2, h]; rfl)
theorem toN_inj {a b : List UInt8} (h : toN a = toN b) : a = b := by
  have := congrArg strOf h
  rw [strOf_toN, strOf_toN] at this
  exact bs_inj this
theorem manT_body {al : List (ByteArray × Bool)} {nx jr : Int} {ps : PV} {s : ByteArray} (h : s = manT al nx jr ps) : 4 ≤ s.size ∧ s.extract 0 (s.size - 4) = bs (manL al nx jr ps) := by
  have hb := manT_bytes h
  have hl := congrArg List.length hb
  rw [strB_length] at hl
  unfold sealN at hl hb
  rw [List.length_append, toN_len] at hl
  have h4 : (byts (sumN (toN (manL al nx jr ps)))).length = 4 := rfl
  refine ⟨by omega, ?_⟩
  rw [ext_bs]
  refine congrArg bs ?_
  rw [List.drop_zero, Nat.sub_zero]
  apply toN_inj
  have e : toN (s.data.toList.take (s.size - 4)) = (strB s).take (s.size - 4) := by unfold toN strB; rw [List.map_take]
  rw [e, hb, hl, h4, List.take_append_of_le_length (by rw [toN_len]; omega), List.take_of_length_le (by rw [toN_len]; omega)]
noncomputable def manO (al : List (ByteArray × Bool)) (nx jr : Int) (pl : List Pc) : ByteArray := cond (stB al nx jr pl) (manT al nx jr (pl.map pcV)) ByteArray.empty
noncomputable def manE (al : List (ByteArray × Bool)) (nx jr : Int) (pl : List Pc) : Nat := cond (stB al nx jr pl) 0 1
theorem manE_zero {al : List (ByteArray × Bool)} {nx jr : Int} {pl : List Pc} (h : manE al nx jr pl = 0) : stOk al nx jr pl ∧ manO al nx jr pl = manT al nx jr (pl.map pcV) := by
  unfold manE at h
  cases hb : stB al nx jr pl with
  | false => rw [hb] at h; cases h
  | true => exact ⟨stB_iff.1 hb, by unfold manO; rw [hb]; rfl⟩
theorem manE_ok {al : List (ByteArray × Bool)} {nx jr : Int} {pl : List Pc} (h : stOk al nx jr pl) : manE al nx jr pl = 0 ∧ manO al nx jr pl = manT al nx jr (pl.map pcV) := by
  unfold manE manO; rw [stB_iff.2 h]; exact ⟨rfl, rfl⟩
theorem stOk_pcV {al : List (ByteArray × Bool)} {nx jr : Int} {pl ql : List Pc} (h : pl.map pcV = ql.map pcV) : stOk al nx jr pl ↔ stOk al nx jr ql := by
  have key : ∀ {pl ql : List Pc}, pl.map pcV = ql.map pcV → stOk al nx jr pl → stOk al nx jr ql := fun {pl ql} h hok => by
    have hl : pl.length = ql.length := by have := congrArg List.length h; simpa using this
    have hf : ∀ i, (pl.take i).map Pc.f = (ql.take i).map Pc.f := fun i => by
      have h9 := congrArg (fun l : PV => (l.take i).map Prod.fst) h
      simp only [← List.map_take, List.map_map] at h9
      exact h9
    refine ⟨hok.1, hok.2.1, hok.2.2.1, hok.2.2.2.1, by have := hok.2.2.2.2.1; omega, fun i p hp => ?_⟩
    have hi := (List.getElem?_eq_some_iff.1 hp).1
    obtain ⟨p0, hp0⟩ : ∃ p0, pl[i]? = some p0 := ⟨_, List.getElem?_eq_getElem (by omega)⟩
    have he := congrArg (fun l : PV => l[i]?) h
    simp only [List.getElem?_map, hp, hp0, Option.map_some, Option.some.injEq] at he
    have e1 : p0.f = p.f := congrArg Prod.fst he
    have e2 : p0.ns = p.ns := congrArg Prod.snd he
    have := hok.2.2.2.2.2 i p0 hp0
    rw [e1, e2, hf i] at this
    exact this
  exact ⟨key h, key h.symm⟩
def goodM (s : ByteArray) (al : List (ByteArray × Bool)) (nx jr : Int) (ps : PV) : Prop := ∃ pl, stOk al nx jr pl ∧ ps = pl.map pcV ∧ s = manT al nx jr ps
theorem good_bd {s : ByteArray} {al : List (ByteArray × Bool)} {nx jr : Int} {ps : PV} (h : goodM s al nx jr ps) : (1 ≤ nx ∧ nx ≤ 1000000000) ∧ (1 ≤ jr ∧ jr ≤ 1000000000) ∧ ∀ p ∈ ps, 1 ≤ p.1 ∧ p.1 ≤ 1000000000 := by
  obtain ⟨pl, hok, rfl, _⟩ := h
  have h1 := hok.2.1; have h2 := hok.2.2.1; have h3 := hok.2.2.2.1
  refine ⟨by omega, by omega, fun p hp => ?_⟩
  obtain ⟨p0, hp0, rfl⟩ := List.mem_map.1 hp
  have := hok.pcs p0 hp0
  show 1 ≤ p0.f ∧ p0.f ≤ _
  omega
theorem good_body {s : ByteArray} {al : List (ByteArray × Bool)} {nx jr : Int} {ps : PV} (h : goodM s al nx jr ps) : 4 ≤ s.size ∧ s.extract 0 (s.size - 4) = bs (manL al nx jr ps) := by
  obtain ⟨pl, hok, rfl, hs⟩ := h
  exact manT_body hs
theorem good_cls {s b : ByteArray} {al : List (ByteArray × Bool)} {nx jr : Int} {ps : PV} (h : goodM s al nx jr ps) (hb : b = bs (manL al nx jr ps)) {k : Nat} {x : ByteArray} (hx : (cutB 10 b)[k]? = some x) : cls al nx jr ps k (cutB 32 x) := by
  obtain ⟨pl, hok, rfl, hs⟩ := h
  exact cls_of hok (by rw [hb]; exact lines_of hok) hx
theorem good_end {s b : ByteArray} {al : List (ByteArray × Bool)} {nx jr : Int} {ps : PV} (h : goodM s al nx jr ps) (hb : b = bs (manL al nx jr ps)) {k : Nat} (hk : (cutB 10 b).length ≤ k) {a : List (ByteArray × Bool)} {n j : Int} {q : PV} (ht : stAt al nx jr ps k a n j q) : al = a ∧ nx = n ∧ jr = j ∧ ps = q := by
  obtain ⟨pl, hok, rfl, hs⟩ := h
  refine stAt_all ht ?_
  rw [hb, lines_of hok, List.length_map, linesG_len] at hk
  rw [List.length_map]; omega
theorem numR_int {z : Int} (h : 1 ≤ z ∧ z ≤ 1000000000) {y : ByteArray} (hy : y = decS z.toNat) : ((numR y : Nat) : Int) = z := by
  rw [hy, numR_dec (by omega)]; omega
theorem numP_int {z : Int} (h : 1 ≤ z ∧ z ≤ 1000000000) {y : ByteArray} (hy : y = decS z.toNat) : numP y = z := by
  rw [hy, numP_dec (by omega)]; omega
theorem bad_of {s : ByteArray} {a : List (ByteArray × Bool)} {n j : Int} {q : List Pc} (hend : ∀ al nx jr ps, goodM s al nx jr ps → al = a ∧ nx = n ∧ jr = j ∧ ps = q.map pcV) (hno : manE a n j q ≠ 0 ∨ manO a n j q ≠ s) : ∀ al nx jr ps, ¬ goodM s al nx jr ps := fun al nx jr ps hg => by
  obtain ⟨rfl, rfl, rfl, he⟩ := hend al nx jr ps hg
  obtain ⟨pl, hok, hpe, hs⟩ := hg
  have hok2 : stOk al nx jr q := (stOk_pcV (hpe.symm.trans he)).1 hok
  have h1 := manE_ok hok2
  rcases hno with h | h
  · exact h h1.1
  · exact h (by rw [h1.2, hs, he])
theorem good_of {s : ByteArray} {a : List (ByteArray × Bool)} {n j : Int} {q : List Pc} (h : ¬ (manE a n j q ≠ 0 ∨ manO a n j q ≠ s)) : goodM s a n j (q.map pcV) := by
  simp only [not_or, Decidable.not_not] at h
  obtain ⟨h1, h2⟩ := manE_zero h.1
  exact ⟨q, h1, rfl, by rw [← h2]; exact h.2.symm⟩
theorem sealN_inj {a b : List Nat} (h : sealN a = sealN b) : a = b := (List.append_inj' (show a ++ byts (sumN a) = b ++ byts (sumN b) from h) rfl).1
theorem good_seal {s : ByteArray} {al : List (ByteArray × Bool)} {nx jr : Int} {ps : PV} (h : goodM s al nx jr ps) : strB s = sealN (toN (manL al nx jr ps)) := by
  obtain ⟨pl, hok, rfl, hs⟩ := h
  exact manT_bytes hs
theorem good_p {s : ByteArray} {al : List (ByteArray × Bool)} {nx jr : Int} {ps : PV} {p : List Nat} (hp : strB s = sealN p) (h : goodM s al nx jr ps) : strOf p = bs (manL al nx jr ps) := by
  have := sealN_inj (hp.symm.trans (good_seal h))
  rw [this, strOf_toN]
end Go.Kw
