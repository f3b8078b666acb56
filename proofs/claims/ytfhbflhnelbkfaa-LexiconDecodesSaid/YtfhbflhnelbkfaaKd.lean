/-
  KD: slices of our own, sorted by the library, for the program logic of Kw. Our own text; it names no program.
-/
import Derived.Test.YtfhbflhnelbkfaaKc
import Derived.Shelf.SlSortCmp.Kit1
import Derived.Sort.EncStr
import Derived.Lib.Bytealg
import Derived.Lib.Strings
import Derived.Shelf.Slices.In.SortNone
set_option linter.unusedSimpArgs false
set_option linter.unusedVariables false
set_option linter.unusedSectionVars false
namespace Go.Kw
open Go.RowKit Go.Sort Go.Proofs Go.Shelf
section
variable {α : Type} [Inhabited α] {enc : α → Value} {w w0 : World} {cs : List Chunk}
theorem holdsG {g : Nat} {cur : Array Value} {e : TypeId} {d : List α} (hb : w.heap[g]? = some (.cells cur e (0, 0))) (ht : cur.toList.take d.length = d.map enc) : Holds enc w g 0 d.toArray := by
  intro j hj
  have hj' : j < d.length := by simpa using hj
  refine ⟨?_, by simp [World.frozen?, hb]⟩
  have h1 : (cur.toList.take d.length)[j]? = (d.map enc)[j]? := by rw [ht]
  rw [List.getElem?_take_of_lt hj'] at h1
  simp only [World.cell?, hb, Nat.zero_add]
  simp only [Option.isSome_none, Bool.false_eq_true, if_false]
  rw [← Array.getElem?_toList, h1]
  simp [hj']
theorem heap_sortG {g n : Nat} {os : Array Obj} {cur : Array Value} {e : TypeId} {fr : Nat × Nat} (d : Array α) (hb : w.heap[g]? = some (.cells cur e fr)) :
    (sortWorld enc w g 0 n d os).heap[g]? = some (.cells (putCells enc 0 d cur) e fr) := by
  have hg : g < w.heap.size := (Array.getElem?_eq_some_iff.1 hb).1
  unfold sortWorld
  rw [heap_grow_old _ _ (by simpa using hg)]
  simp [putRow, mapBlock, Sort.ahead, Array.getElem?_modify, hb, onCells]
theorem chg_sortG {g n : Nat} {os : Array Obj} (d : Array α) : Chg [g] w (sortWorld enc w g 0 n d os) := by
  unfold sortWorld
  refine ⟨rfl, rfl, rfl, by simp, fun k hk hne => ?_⟩
  rw [heap_grow_old _ _ (by simpa using hk)]
  have : g ≠ k := fun e => hne (by rw [e]; exact List.mem_singleton.2 rfl)
  simp [putRow, mapBlock, Sort.ahead, Array.getElem?_modify, this]
theorem take_putG (cur : Array Value) (ts : List α) (h : ts.length ≤ cur.size) : (putCells enc 0 ts.toArray cur).toList.take ts.length = ts.map enc := by
  apply List.ext_getElem?
  intro j
  by_cases hj : j < ts.length
  · rw [List.getElem?_take_of_lt hj, Array.getElem?_toList]
    simp [putCells, hj, show j < cur.size by omega]
  · rw [List.getElem?_take_eq_none (by omega), List.getElem?_eq_none (by simp; omega)]
/-- A row of our own, in the worlds that the sort passes through. -/
theorem Sat.sortW (hs : Sat w0 cs w) {i g n cap E : Nat} {ds : List α} (hn : ds.length = n) (hi : cs[i]? = some (cSl (.slice (some ⟨g, 0, none⟩) n cap) E 1 n (ds.map enc))) (ts : List α) (hl : ts.length = n) (m : Nat) (os : Array Obj) :
    Sat w0 (cs.set i (cSl (.slice (some ⟨g, 0, none⟩) n cap) E 1 n (ts.map enc))) (sortWorld enc w g 0 m ts.toArray os) := by
  have hown := hs.get hi
  obtain ⟨hl0, ⟨hv, _⟩ | ⟨g', cap', cur, hv, hg0, hh, hnc, hcm, hcs, ht⟩⟩ := id hown
  · cases hv
  · cases hv
    refine hs.set i hi (chg_sortG ts.toArray) ⟨by simp [hl], .inr ⟨g, cap, _, rfl, hg0, heap_sortG ts.toArray hh, hnc, hcm, by simp [putCells, hcs], ?_⟩⟩ (fun _ h => .inl h)
    rw [Nat.mul_one, ← hl]
    exact take_putG cur ts (by rw [hcs, Nat.mul_one]; omega)
theorem Sat.holds1 (hs : Sat w0 cs w) {i g n cap E : Nat} {ds : List α} (hn : ds.length = n) (hi : cs[i]? = some (cSl (.slice (some ⟨g, 0, none⟩) n cap) E 1 n (ds.map enc))) : Holds enc w g 0 ds.toArray ∧ g < w.heap.size := by
  have hown := hs.get hi
  obtain ⟨hl0, ⟨hv, _⟩ | ⟨g', cap', cur, hv, hg0, hh, hnc, hcm, hcs, ht⟩⟩ := id hown
  · cases hv
  · cases hv
    rw [Nat.mul_one] at ht
    subst hn
    exact ⟨holdsG hh ht, (Array.getElem?_eq_some_iff.1 hh).1⟩
end
/-- What a row of our own is: nil, or a row behind its head. -/
theorem Sat.slCases {w0 w : World} {cs : List Chunk} (hs : Sat w0 cs w) {i E size n : Nat} {v : Value} {cells : List Value} (hi : cs[i]? = some (cSl v E size n cells)) : (n = 0 ∧ v = .slice none 0 0) ∨ ∃ g cap, v = .slice (some ⟨g, 0, none⟩) n cap := by
  obtain ⟨hl0, h | ⟨g', cap', cur, hv, _⟩⟩ := hs.get hi
  · exact .inl ⟨h.2, h.1⟩
  · exact .inr ⟨g', cap', hv⟩
theorem allS_map (l : List ByteArray) : encTx.all l = (l.map fun s => s.data.toList).map encStr := by
  induction l with
  | nil => rfl
  | cons s r ih => rw [Enc.all_cons, List.map_cons, List.map_cons, ih]; rfl
theorem allN_map {k : IntKind} (l : List Nat) : (encN k).all l = l.map fun (x : Nat) => Value.int k (x : Int) := by
  induction l with
  | nil => rfl
  | cons s r ih => rw [Enc.all_cons, List.map_cons, ih]; rfl
/-- Strings, sorted. -/
def sortB (l : List ByteArray) : List ByteArray := ((l.map fun s => s.data.toList).mergeSort fun x y => decide (x ≤ y)).map fun l => ⟨l.toArray⟩
theorem sortB_length (l : List ByteArray) : (sortB l).length = l.length := by simp [sortB]
theorem sortB_words {vs K : List ByteArray} (hn : K.Nodup) (hm : ∀ x, x ∈ K ↔ x ∈ vs) : sortB K = wordsN vs := words_of_sorted hn hm
/-- A world that draws and blocks laid behind have made out of another one. -/
theorem Below.grown_of {W w' : World} (h : RowKit.Below W.heap.size W w') (hd : W.drawn ≤ w'.drawn) : ∃ q os, w' = grow (W.drewN q) os := by
  refine ⟨w'.drawn - W.drawn, w'.heap.extract W.heap.size w'.heap.size, ?_⟩
  obtain ⟨heap, tape, drawn, os, output⟩ := w'
  have h1 := h.os; have h2 := h.tape; have h3 := h.output; have h4 := h.size; have h5 := h.block
  simp only at h1 h2 h3 h4 h5 hd
  subst h1; subst h2; subst h3
  have e : W.heap ++ heap.extract W.heap.size heap.size = heap := by
    apply Array.ext_getElem?
    intro k
    rw [Array.getElem?_append]
    split
    · rename_i hk; rw [h5 k hk]
    · rename_i hk
      rw [Array.getElem?_extract]
      by_cases hk2 : k < heap.size
      · rw [if_pos (by omega)]; congr 1; omega
      · rw [if_neg (by omega), Array.getElem?_eq_none (by omega)]
  show _ = ({ heap := W.heap ++ heap.extract W.heap.size heap.size, tape := W.tape, drawn := W.drawn + (drawn - W.drawn), os := W.os, output := W.output } : World)
  rw [e]
  congr 1
  omega
/-! ## A lexicon in memory -/
structure LexAt (w : World) (g : Nat) (vw vc vo : Value) (W : List ByteArray) (C O : List Nat) : Prop where
  c0 : w.cell? ⟨g, 0, none⟩ = some vw
  c1 : w.cell? ⟨g, 1, none⟩ = some vc
  c2 : w.cell? ⟨g, 2, none⟩ = some vo
  hW : RdL w vw encTx W
  hC : RdL w vc (encN .i64) C
  hO : RdL w vo (encN .i64) O
theorem LexAt.ext {w w' : World} {g : Nat} {vw vc vo : Value} {W : List ByteArray} {C O : List Nat} (h : LexAt w g vw vc vo W C O) (he : Ext w w') : LexAt w' g vw vc vo W C O :=
  ⟨he _ _ h.c0, he _ _ h.c1, he _ _ h.c2, h.hW.ext he, h.hC.ext he, h.hO.ext he⟩
theorem Sat.lexAt {w0 w : World} {cs : List Chunk} (hs : Sat w0 cs w) (i j k l : Nat) {g T : Nat} {vw vc vo : Value} {W : List ByteArray} {C O : List Nat} (hi : cs[i]? = some (cObj g T [vw, vc, vo])) (hj : cs[j]? = some (cL vw 9 encTx W))
    (hk : cs[k]? = some (cL vc 3 (encN .i64) C)) (hl : cs[l]? = some (cL vo 3 (encN .i64) O)) : LexAt w g vw vc vo W C O :=
  ⟨hs.cell (j := 0) hi rfl, hs.cell (j := 1) hi rfl, hs.cell (j := 2) hi rfl, hs.rdL j hj, hs.rdL k hk, hs.rdL l hl⟩
theorem compare_lt : ∀ (a b : List UInt8), Lib.compareBytes a b < 0 ↔ a < b
  | [], [] => by simp [Lib.compareBytes]
  | [], _ :: _ => by simp [Lib.compareBytes]
  | _ :: _, [] => by simp [Lib.compareBytes]
  | a :: x, b :: y => by
    unfold Lib.compareBytes
    rw [List.cons_lt_cons_iff]
    by_cases h1 : a < b
    · simp [h1]
    · by_cases h2 : b < a
      · have : a ≠ b := fun e => by subst e; exact h1 h2
        simp [h1, h2, this]
      · have : a = b := UInt8.le_antisymm (UInt8.not_lt.1 h2) (UInt8.not_lt.1 h1)
        simp [h1, h2, this, compare_lt x y]
def numN (W : List ByteArray) (s : ByteArray) : Nat × Bool := if W[lbW W s]? = some s then (lbW W s, true) else (0, false)
def wordAt (W : List ByteArray) (n : Int) : ByteArray × Bool := if 0 ≤ n ∧ n < W.length then (W.getD n.toNat ByteArray.empty, true) else (ByteArray.empty, false)
def countAt (C : List Nat) (n : Int) : Nat := if 0 ≤ n ∧ n < C.length then C.getD n.toNat 0 else 0
def prefN (W : List ByteArray) (p : ByteArray) : Nat × Nat := if preN W p = 0 then (0, 0) else (lbW W p, lbW W p + preN W p)
def sufN (W : List ByteArray) (O : List Nat) (s : ByteArray) : List Nat := O.filter fun n => sufB s (W.getD n ByteArray.empty)
theorem getD_of {α : Type} {l : List α} {k : Nat} {x d : α} (h : l[k]? = some x) : l.getD k d = x := by simp [List.getD_eq_getElem?_getD, h]
theorem SLt.ntr {a b c : ByteArray} (h : ¬ SLt a b) (k : ¬ SLt b c) : ¬ SLt a c := fun hac => by
  by_cases e : a = b
  · exact k (e ▸ hac)
  · exact k ((SLt.tri h e).tr hac)
theorem geq_mono {W : List ByteArray} (h : Asc W) (s : ByteArray) {a b : Nat} (hab : a ≤ b) (hb : b < W.length) (hp : decide (¬ SLt (W.getD a ByteArray.empty) s) = true) : decide (¬ SLt (W.getD b ByteArray.empty) s) = true := by
  have ha' : W[a]? = some W[a] := List.getElem?_eq_getElem (by omega)
  have hb' : W[b]? = some W[b] := List.getElem?_eq_getElem hb
  rw [getD_of ha', decide_eq_true_eq] at hp
  rw [getD_of hb', decide_eq_true_eq]
  rcases Nat.eq_or_lt_of_le hab with e | e
  · subst e; exact hp
  · exact fun hh => hp ((h.lt ha' hb' e).tr hh)
theorem search_lb {W : List ByteArray} {s : ByteArray} {k : Nat} (h0 : k ≤ W.length) (h1 : ∀ i, i < k → decide (¬ SLt (W.getD i ByteArray.empty) s) = false) (h2 : ∀ i, k ≤ i → i < W.length → decide (¬ SLt (W.getD i ByteArray.empty) s) = true) : k = lbW W s := by
  refine (lbR_eq h0 (fun j y hj hy => ?_) fun y hy => ?_).symm
  · have := h1 j hj
    rw [getD_of hy] at this
    exact Decidable.not_not.1 (of_decide_eq_false this)
  · have := h2 k (Nat.le_refl _) (List.getElem?_eq_some_iff.1 hy).1
    rw [getD_of hy] at this
    exact of_decide_eq_true this
theorem pre_mono {W : List ByteArray} (h : Asc W) (p : ByteArray) {a b : Nat} (hab : a ≤ b) (hb : b < W.length - lbW W p) (hp : (!preB p (W.getD (lbW W p + a) ByteArray.empty)) = true) : (!preB p (W.getD (lbW W p + b) ByteArray.empty)) = true := by
  have ha' : W[lbW W p + a]? = some W[lbW W p + a] := List.getElem?_eq_getElem (by omega)
  have hb' : W[lbW W p + b]? = some W[lbW W p + b] := List.getElem?_eq_getElem (by omega)
  rw [getD_of ha'] at hp
  rw [getD_of hb']
  cases hq : preB p W[lbW W p + b] with
  | false => rfl
  | true =>
    have := ((pre_iff h p hb').1 hq).2
    have := (pre_iff h p ha').2 ⟨by omega, by omega⟩
    rw [this] at hp; cases hp
theorem search_pre {W : List ByteArray} (h : Asc W) {p : ByteArray} {k : Nat} (h0 : k ≤ W.length - lbW W p) (h1 : ∀ i, i < k → (!preB p (W.getD (lbW W p + i) ByteArray.empty)) = false)
    (h2 : ∀ i, k ≤ i → i < W.length - lbW W p → (!preB p (W.getD (lbW W p + i) ByteArray.empty)) = true) : k = preN W p := by
  have hle := preN_le W p
  rcases Nat.lt_trichotomy k (preN W p) with e | e | e
  · have ha' : W[lbW W p + k]? = some W[lbW W p + k] := List.getElem?_eq_getElem (by omega)
    have := h2 k (Nat.le_refl _) (by omega)
    rw [getD_of ha', (pre_iff h p ha').2 ⟨by omega, by omega⟩] at this; cases this
  · exact e
  · have ha' : W[lbW W p + preN W p]? = some W[lbW W p + preN W p] := List.getElem?_eq_getElem (by omega)
    have := h1 _ e
    rw [getD_of ha'] at this
    have hq : preB p W[lbW W p + preN W p] = true := by simpa using this
    have := ((pre_iff h p ha').1 hq).2
    omega
theorem numN_get {W : List ByteArray} {s x : ByteArray} (hx : W[lbW W s]? = some x) : numN W s = if x = s then (lbW W s, true) else (0, false) := by
  unfold numN; rw [hx]
  by_cases e : x = s <;> simp [e]
theorem numN_none {W : List ByteArray} {s : ByteArray} (h : W.length ≤ lbW W s) : numN W s = (0, false) := by
  unfold numN; rw [List.getElem?_eq_none h]; simp
theorem sufN_snoc {W : List ByteArray} {O : List Nat} {s : ByteArray} {k n : Nat} {x : ByteArray} (hn : O[k]? = some n) (hx : W[n]? = some x) : sufN W (O.take (k + 1)) s = if sufB s x = true then sufN W (O.take k) s ++ [n] else sufN W (O.take k) s := by
  unfold sufN
  rw [List.take_add_one, hn, List.filter_append]
  by_cases h : sufB s x = true
  · rw [if_pos h]; congr 1; simp [hx, h]
  · rw [if_neg h]; simp [hx, h]
theorem rvs_step {W : List ByteArray} {k : Nat} {x : ByteArray} (hx : W[k]? = some x) :
    ((List.range k).map (rvN W) ++ List.replicate (W.length - k) ByteArray.empty).set k (revN x) = (List.range (k + 1)).map (rvN W) ++ List.replicate (W.length - (k + 1)) ByteArray.empty := by
  have hk := (List.getElem?_eq_some_iff.1 hx).1
  rw [List.set_append_right _ _ (by simp), List.length_map, List.length_range, Nat.sub_self, show W.length - k = (W.length - (k + 1)) + 1 by omega, List.replicate_succ, List.range_succ, List.map_append]
  simp [rvN, hx]
theorem rvs_get {W : List ByteArray} {i : Nat} (h : i < W.length) : ((List.range W.length).map (rvN W)).getD i ByteArray.empty = rvN W i := getD_of (by simp [h])
theorem Sat.of_own {w w' : World} {v : Value} {E n : Nat} {cells : List Value} (ho : w'.ownsRow w.heap.size E 1 v n cells) (hb : RowKit.Below w.heap.size w w') : Sat w [cSl v E 1 n cells] w' := by
  obtain ⟨hl, h⟩ := ho
  refine ⟨hb, fun c hc => ?_, by simp⟩
  have hc' : c = cSl v E 1 n cells := by simpa using hc
  subst hc'
  rcases h with ⟨rfl, h0⟩ | ⟨g, cap, cur, rfl, hg, hh, h1, h2, h3, h4⟩
  · exact ⟨⟨hl, .inl ⟨rfl, h0⟩⟩, fun k hk => by simp [cSl, slFoot] at hk⟩
  · exact ⟨⟨hl, .inr ⟨g, cap, cur, rfl, Nat.zero_le _, hh, h1, h2, h3, h4⟩⟩, fun k hk => by
      have : k = g := by simpa [cSl, slFoot] using hk
      subst this; exact ⟨hg, (Array.getElem?_eq_some_iff.1 hh).1⟩⟩
theorem mem_get {α : Type} {l : List α} {k : Nat} {x : α} (h : l[k]? = some x) : x ∈ l := List.mem_of_getElem? h
theorem Sat.reL {α : Type} {w0 w : World} {cs : List Chunk} (h : Sat w0 cs w) (i : Nat) {v : Value} {e : Nat} {E : Enc α} {l l' : List α} (hi : cs[i]? = some (cL v e E l)) (hq : l = l') : Sat w0 (cs.set i (cL v e E l')) w := by
  subst hq
  obtain ⟨hil, hci⟩ := List.getElem?_eq_some_iff.1 hi
  rw [← hci, List.set_getElem_self hil]; exact h
/-! ## What Build comes to -/
/-- The error of the first value that has one. -/
def chkN : List ByteArray → Nat
  | [] => 0
  | v :: r => if 120 < v.size then 2 else if validN v = false then 7 else chkN r
def bldE (vs : List ByteArray) : Nat := if 4096 < vs.length then 2 else if chkN vs ≠ 0 then chkN vs else if 1024 < (wordsN vs).length then 2 else 0
theorem chk_all {vs : List ByteArray} (h : chkN vs = 0) : ∀ v ∈ vs, v.size ≤ 120 ∧ validN v = true := by
  induction vs with
  | nil => simp
  | cons v r ih =>
    unfold chkN at h
    split at h
    · cases h
    · rename_i h1
      split at h
      · cases h
      · rename_i h2
        intro u hu
        rcases List.mem_cons.1 hu with rfl | hu
        · exact ⟨by omega, by simpa using h2⟩
        · exact ih h u hu
theorem chk_okW {vs : List ByteArray} (h : chkN vs = 0) : okW (wordsN vs) := ⟨wordsN_asc vs, fun w hw => (chk_all h w (wordsN_mem.1 hw)).2⟩
theorem words_len {vs K : List ByteArray} (hn : K.Nodup) (hm : ∀ x, x ∈ K ↔ x ∈ vs) : K.length = (wordsN vs).length := by
  rw [← sortB_words hn hm, sortB_length]
theorem Sat.mapNodup {w0 w : World} {cs : List Chunk} (hs : Sat w0 cs w) (i : Nat) {b : Nat} {m : MapL} (hi : cs[i]? = some (cMap b m)) : (mkeys m).Nodup := by
  obtain ⟨es, clock, _, hst, hc⟩ := hs.get hi
  exact ent_nodup hst hc
theorem Sat.rng_le {w0 w : World} {cs : List Chunk} (hs : Sat w0 cs w) (i : Nat) {b r : Nat} {m done : MapL} (hi : cs[i]? = some (cRng b r m done)) : done.length ≤ m.length := by
  obtain ⟨es, clock, seen, rest, _, _, _, _, _, hp, _⟩ := hs.get hi
  have := hp.length_eq
  rw [List.length_append] at this; omega
theorem Sat.rngDone {w0 w : World} {cs : List Chunk} (hs : Sat w0 cs w) (i : Nat) {b r : Nat} {m done : MapL} (hi : cs[i]? = some (cRng b r m done)) : Sat w0 (cs.set i (cMap b m)) w := by
  obtain ⟨es, clock, seen, rest, h1, h2, h3, _⟩ := hs.get hi
  exact hs.set i hi ⟨rfl, rfl, rfl, Nat.le_refl _, fun _ _ _ => rfl⟩ ⟨es, clock, h1, h2, h3⟩ (fun k hk => .inl (List.mem_cons.2 (.inl (List.mem_singleton.1 hk))))
theorem mkeys_perm {a b : MapL} (h : a.Perm b) : (mkeys a).Perm (mkeys b) := h.map _
theorem mkeys_length (m : MapL) : (mkeys m).length = m.length := List.length_map ..
theorem mkeys_snoc (m : MapL) (s : ByteArray) (c : Nat) : mkeys (m ++ [(s, c)]) = mkeys m ++ [s] := by simp [mkeys]
theorem take_snoc {α : Type} {l : List α} {k : Nat} {x : α} (h : l[k]? = some x) : l.take (k + 1) = l.take k ++ [x] := by rw [List.take_add_one, h]; rfl
theorem numN_mem {W : List ByteArray} (h : Asc W) {s : ByteArray} (hs : s ∈ W) : numN W s = (lbW W s, true) := by unfold numN; rw [if_pos (h.get hs)]
theorem nums_step {f : ByteArray → Nat} {vs : List ByteArray} {k c : Nat} {x : ByteArray} (hx : vs[k]? = some x) (hc : c = f x) :
    ((vs.take k).map f ++ List.replicate (vs.length - k) 0).set k c = (vs.take (k + 1)).map f ++ List.replicate (vs.length - (k + 1)) 0 := by
  have hk := (List.getElem?_eq_some_iff.1 hx).1
  have hl : ((vs.take k).map f).length = k := by simp; omega
  rw [List.set_append_right _ _ (by omega), hl, Nat.sub_self, show vs.length - k = (vs.length - (k + 1)) + 1 by omega, List.replicate_succ, take_snoc hx, List.map_append]
  simp [hc]
end Go.Kw
