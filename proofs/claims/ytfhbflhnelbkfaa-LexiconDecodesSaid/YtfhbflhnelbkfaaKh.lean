/-
  KH: the heap as a list of disjoint chunks that the call itself made, over an old world that stands. Our own text; it names no program.
-/
import Derived.Test.YtfhbflhnelbkfaaKe
set_option linter.unusedSimpArgs false
set_option linter.unusedVariables false
set_option linter.unusedSectionVars false
namespace Go.Kw
open Go.RowKit

/-! ## Reading a slice: 'cells' are the cells of its n elements, side by side -/
def Rd (w : World) (v : Value) (n : Nat) (cells : List Value) : Prop :=
  ∃ a cap, v = .slice a n cap ∧ n ≤ cap ∧ ∀ j u, cells[j]? = some u → ∃ b o, a = some ⟨b, o, none⟩ ∧ w.cell? ⟨b, o + j, none⟩ = some u

/-- All that could be read can be read as before. -/
def Ext (w w' : World) : Prop := ∀ a u, w.cell? a = some u → w'.cell? a = some u

theorem Ext.refl (w : World) : Ext w w := fun _ _ h => h
theorem Ext.trans {a b c : World} (h : Ext a b) (k : Ext b c) : Ext a c := fun p u hu => k p u (h p u hu)
theorem Ext.of_below {w w' : World} (h : Below w.heap.size w w') : Ext w w' := fun a _ hu => (h.cell (World.block_lt_of_cell? w a hu)).trans hu

theorem Rd.ext {w w' : World} {v : Value} {n : Nat} {cells : List Value} (h : Rd w v n cells) (he : Ext w w') : Rd w' v n cells := by
  obtain ⟨a, cap, hv, hn, hc⟩ := h
  exact ⟨a, cap, hv, hn, fun j u hu => let ⟨b, o, ha, hw⟩ := hc j u hu; ⟨b, o, ha, he _ _ hw⟩⟩
theorem Rd.nil (w : World) : Rd w (.slice none 0 0) 0 [] := ⟨none, 0, rfl, Nat.le_refl _, fun j u h => by simp at h⟩

/-- The address of the cell number c behind the head of a slice. -/
def elPtr : Value → Nat → Value
  | .slice (some a) _ _, c => .pointer (some (a.add c))
  | _, _ => undef

/-- The part of a slice value from element l up to element h (of size cells each). -/
def subSl (size : Nat) : Value → Nat → Nat → Value
  | .slice a _ cap, l, h => .slice (if cap = l then a else a.map (·.add (l * size))) (h - l) (cap - l)
  | _, _, _ => undef

theorem Rd.sub {w : World} {v : Value} {n : Nat} {cells : List Value} (hr : Rd w v n cells) {size l h : Nat} (hl : l ≤ h) (hh : h ≤ n) :
    Rd w (subSl size v l h) (h - l) ((cells.take (h * size)).drop (l * size)) := by
  obtain ⟨a, cap, rfl, hn, hc⟩ := hr
  refine ⟨_, _, rfl, by omega, fun j u hu => ?_⟩
  have hj : j < ((cells.take (h * size)).drop (l * size)).length := by
    rcases Nat.lt_or_ge j _ with hlt | hge
    · exact hlt
    · rw [List.getElem?_eq_none hge] at hu; cases hu
  have hlt : l < h := by
    rcases Nat.lt_or_ge l h with h1 | h1
    · exact h1
    · have : l = h := by omega
      subst this
      simp at hj
  rw [List.getElem?_drop, List.getElem?_take] at hu
  split at hu
  · obtain ⟨b, o, ha, hw⟩ := hc _ u hu
    subst ha
    rw [if_neg (by omega)]
    simp only [Option.map_some, Addr.add_lit]
    exact ⟨b, _, rfl, by rw [Nat.add_assoc]; exact hw⟩
  · cases hu

/-! ## Chunks -/
structure Chunk where
  foot : List Nat
  holds : World → Prop
  stable : ∀ w w', (∀ k ∈ foot, w'.heap[k]? = w.heap[k]?) → holds w → holds w'

/-- The world 'w': the old world 'w0' stands, and besides there are these chunks, apart from one another. -/
structure Sat (w0 : World) (cs : List Chunk) (w : World) : Prop where
  old : Below w0.heap.size w0 w
  holds : ∀ c ∈ cs, c.holds w ∧ ∀ k ∈ c.foot, w0.heap.size ≤ k ∧ k < w.heap.size
  apart : cs.Pairwise fun c d => ∀ k ∈ c.foot, k ∉ d.foot

/-- Old blocks but those named stand. -/
structure Chg (S : List Nat) (w w' : World) : Prop where
  os : w'.os = w.os
  tape : w'.tape = w.tape
  output : w'.output = w.output
  size : w.heap.size ≤ w'.heap.size
  block : ∀ k, k < w.heap.size → k ∉ S → w'.heap[k]? = w.heap[k]?

theorem Chg.of_grown {w w' : World} {row : Option Nat} (h : w.grownBy w' row) : Chg row.toList w w' :=
  ⟨h.os, h.tape, h.output, h.size, fun k hk hn => h.block k hk (fun e => hn (by simp [← e]))⟩
theorem Chg.of_below {w w' : World} (h : Below w.heap.size w w') : Chg [] w w' := ⟨h.os, h.tape, h.output, h.size, fun k hk _ => h.block k hk⟩
theorem Chg.alloc (w : World) (o : Obj) : Chg [] w (w.alloc o) := .of_below ((Below.refl _ _).alloc (Nat.le_refl _) o)
theorem Chg.drew (w : World) : Chg [] w w.drew := ⟨rfl, rfl, rfl, Nat.le_refl _, fun _ _ _ => rfl⟩
theorem Chg.trans {S T : List Nat} {a b c : World} (h : Chg S a b) (k : Chg T b c) : Chg (S ++ T) a c :=
  ⟨k.os.trans h.os, k.tape.trans h.tape, k.output.trans h.output, Nat.le_trans h.size k.size, fun i hi hn => by
    simp only [List.mem_append, not_or] at hn
    exact (k.block i (Nat.lt_of_lt_of_le hi h.size) hn.2).trans (h.block i hi hn.1)⟩
theorem Chg.setCell (w : World) (a : Addr) (v : Value) : Chg [a.block] w (w.setCell a v) :=
  ⟨rfl, rfl, rfl, by simp, fun k hk hn => Below.heap_setCell w a v k (by simpa using hn)⟩

theorem Sat.start (w : World) : Sat w [] w := ⟨Below.refl _ _, by simp, by simp⟩

theorem Sat.ext {w0 w : World} {cs : List Chunk} (h : Sat w0 cs w) : Ext w0 w := .of_below h.old

theorem Sat.drew {w0 w : World} {cs : List Chunk} (h : Sat w0 cs w) : Sat w0 cs w.drew :=
  ⟨h.old.drew, fun c hc => ⟨c.stable w _ (fun _ _ => rfl) (h.holds c hc).1, (h.holds c hc).2⟩, h.apart⟩

/-- What is at hand may be let go. -/
theorem Sat.sub {w0 w : World} {cs ds : List Chunk} (h : Sat w0 cs w) (hp : ds.Sublist cs) : Sat w0 ds w :=
  ⟨h.old, fun c hc => h.holds c (hp.subset hc), h.apart.sublist hp⟩
theorem Sat.drop {w0 w : World} {cs : List Chunk} (h : Sat w0 cs w) (i : Nat) : Sat w0 (cs.eraseIdx i) w := h.sub (List.eraseIdx_sublist ..)

theorem Sat.get {w0 w : World} {cs : List Chunk} (h : Sat w0 cs w) {i : Nat} {c : Chunk} (hi : cs[i]? = some c) : c.holds w := (h.holds c (List.mem_of_getElem? hi)).1
theorem Sat.lo {w0 w : World} {cs : List Chunk} (h : Sat w0 cs w) {i : Nat} {c : Chunk} (hi : cs[i]? = some c) {k : Nat} (hk : k ∈ c.foot) : w0.heap.size ≤ k ∧ k < w.heap.size := (h.holds c (List.mem_of_getElem? hi)).2 k hk

theorem Sat.apartAt {w0 w : World} {cs : List Chunk} (h : Sat w0 cs w) {i j : Nat} {c d : Chunk} (hi : cs[i]? = some c) (hj : cs[j]? = some d) (hne : i ≠ j) {k : Nat} (hk : k ∈ c.foot) : k ∉ d.foot := by
  have hp := List.pairwise_iff_getElem.1 h.apart
  obtain ⟨hil, rfl⟩ := List.getElem?_eq_some_iff.1 hi
  obtain ⟨hjl, rfl⟩ := List.getElem?_eq_some_iff.1 hj
  rcases Nat.lt_or_gt_of_ne hne with hlt | hgt
  · exact hp i j hil hjl hlt k hk
  · exact fun hk2 => hp j i hjl hil hgt k hk2 hk

/-- One chunk turns into another: the blocks of the elder, or new ones. -/
theorem Sat.set {w0 w w' : World} {cs : List Chunk} (h : Sat w0 cs w) (i : Nat) {c c' : Chunk} (hi : cs[i]? = some c) (hw : Chg c.foot w w') (hc : c'.holds w')
    (hf : ∀ k ∈ c'.foot, k ∈ c.foot ∨ (w.heap.size ≤ k ∧ k < w'.heap.size)) : Sat w0 (cs.set i c') w' := by
  obtain ⟨hil, hci⟩ := List.getElem?_eq_some_iff.1 hi
  have hlo : ∀ k ∈ c.foot, w0.heap.size ≤ k ∧ k < w.heap.size := fun k hk => h.lo hi hk
  refine ⟨?_, ?_, ?_⟩
  · refine h.old.trans ⟨hw.os, hw.tape, hw.output, hw.size, fun k hk => hw.block k (Nat.lt_of_lt_of_le hk h.old.size) fun hm => ?_⟩
    have := (hlo _ hm).1; omega
  · intro e he
    rw [List.mem_iff_getElem?] at he
    obtain ⟨j, hj⟩ := he
    rw [List.getElem?_set] at hj
    by_cases hij : i = j
    · subst hij
      simp [hil] at hj
      subst hj
      refine ⟨hc, fun k hk => ?_⟩
      have := hw.size
      have := h.old.size
      rcases hf k hk with h1 | h1
      · have := hlo _ h1; omega
      · omega
    · rw [if_neg hij] at hj
      have hm := List.mem_of_getElem? hj
      obtain ⟨h1, h2⟩ := h.holds e hm
      refine ⟨e.stable w w' (fun k hk => hw.block k (h2 k hk).2 (h.apartAt hj hi (Ne.symm hij) hk)) h1, fun k hk => ?_⟩
      have := h2 k hk; have := hw.size; omega
  · rw [List.pairwise_iff_getElem]
    intro a b ha hb hab k hk hk2
    simp only [List.length_set] at ha hb
    rw [List.getElem_set] at hk hk2
    have hnew : ∀ j (hj : j < cs.length), j ≠ i → ∀ k, k ∈ c'.foot → k ∉ cs[j].foot := fun j hj hne k hk hk2 => by
      rcases hf k hk with h1 | h1
      · exact h.apartAt hi (List.getElem?_eq_getElem hj) (Ne.symm hne) h1 hk2
      · have := h.lo (List.getElem?_eq_getElem hj) hk2; omega
    split at hk <;> split at hk2
    · omega
    · exact hnew b hb (by omega) k hk hk2
    · exact hnew a ha (by omega) k hk2 hk
    · exact h.apartAt (List.getElem?_eq_getElem ha) (List.getElem?_eq_getElem hb) (by omega) hk hk2

/-- Chunks that a call made besides. -/
theorem Sat.adds {w0 w w' : World} {cs ds : List Chunk} (h : Sat w0 cs w) (k : Sat w ds w') : Sat w0 (cs ++ ds) w' := by
  refine ⟨h.old.trans (k.old.mono h.old.size), ?_, ?_⟩
  · intro c hc
    rcases List.mem_append.1 hc with hc | hc
    · obtain ⟨h1, h2⟩ := h.holds c hc
      refine ⟨c.stable w w' (fun j hj => k.old.block j (h2 j hj).2) h1, fun j hj => ?_⟩
      have := h2 j hj; have := k.old.size; omega
    · obtain ⟨h1, h2⟩ := k.holds c hc
      refine ⟨h1, fun j hj => ?_⟩
      have := h2 j hj; have := h.old.size; omega
  · rw [List.pairwise_append]
    refine ⟨h.apart, k.apart, fun c hc d hd j hj hj2 => ?_⟩
    have := (h.holds c hc).2 j hj
    have := (k.holds d hd).2 j hj2
    omega

theorem Sat.add {w0 w w' : World} {cs : List Chunk} {c : Chunk} (h : Sat w0 cs w) (hw : Chg [] w w') (hc : c.holds w') (hf : ∀ k ∈ c.foot, w.heap.size ≤ k ∧ k < w'.heap.size) : Sat w0 (cs ++ [c]) w' :=
  h.adds ⟨⟨hw.os, hw.tape, hw.output, hw.size, fun k hk => hw.block k hk (by simp)⟩, by simpa using ⟨hc, hf⟩, by simp⟩

/-- A callee that made nothing that is wanted. -/
theorem Sat.step {w0 w w' : World} {cs : List Chunk} (h : Sat w0 cs w) (hw : Chg [] w w') : Sat w0 cs w' := by
  have := h.adds (ds := []) ⟨⟨hw.os, hw.tape, hw.output, hw.size, fun k hk => hw.block k hk (by simp)⟩, by simp, by simp⟩
  simpa using this

/-- What the old world, or the callee, gives of one's own start. -/
theorem Sat.below {w0 w : World} {cs : List Chunk} (h : Sat w0 cs w) : Below w0.heap.size w0 w := h.old
theorem Sat.chg {w0 w : World} {cs : List Chunk} (h : Sat w0 cs w) : Chg [] w0 w := .of_below h.old

/-- In another order. -/
theorem Sat.perm {w0 w : World} {cs ds : List Chunk} (h : Sat w0 cs w) (hp : cs.Perm ds) : Sat w0 ds w :=
  ⟨h.old, fun c hc => h.holds c (hp.mem_iff.2 hc), hp.pairwise h.apart (fun {_ _} h k hk h2 => h k h2 hk)⟩
theorem Sat.mid {w0 w : World} {A cs ds : List Chunk} (h : Sat w0 ((A ++ cs) ++ ds) w) : Sat w0 ((A ++ ds) ++ cs) w :=
  h.perm (by rw [List.append_assoc, List.append_assoc]; exact (List.perm_append_comm).append_left A)

def noChunk : Chunk := ⟨[], fun _ => True, fun _ _ _ h => h⟩
theorem map_getD_range {α : Type} (l : List α) (d : α) : (List.range l.length).map (fun i => l.getD i d) = l := by
  apply List.ext_getElem
  · simp
  · intro i h1 h2; simp at h1; simp [h1]
/-- The literal part of the list in the order that is named. -/
theorem Sat.order {w0 w : World} {A cs : List Chunk} (idx : List Nat) (hp : idx.isPerm (List.range idx.length) = true) (h : Sat w0 (A ++ cs) w) (hl : A.length = idx.length := by rfl) : Sat w0 (idx.map (fun i => A.getD i noChunk) ++ cs) w := by
  rw [← hl] at hp
  refine h.perm (List.Perm.append_right cs ?_)
  have := (List.isPerm_iff.1 hp).map (fun i => A.getD i noChunk)
  rw [map_getD_range] at this
  exact this.symm
theorem Sat.tail {w0 w : World} {A : List Chunk} (h : Sat w0 A w) : Sat w0 (A ++ []) w := by rw [List.append_nil]; exact h
theorem Sat.untail {w0 w : World} {A : List Chunk} (h : Sat w0 (A ++ []) w) : Sat w0 A w := by rw [List.append_nil] at h; exact h
/-- The first k chunks as the literal part, the others as the rest. -/
theorem Sat.cut {w0 w : World} {A cs : List Chunk} (k : Nat) (h : Sat w0 (A ++ cs) w) : Sat w0 (A.take k ++ (A.drop k ++ cs)) w := by rw [← List.append_assoc, List.take_append_drop]; exact h
theorem Sat.join {w0 w : World} {A B cs : List Chunk} (h : Sat w0 (A ++ (B ++ cs)) w) : Sat w0 ((A ++ B) ++ cs) w := by rw [List.append_assoc]; exact h

/-! ### A block of cells -/
def cObj (g : Nat) (T : TypeId) (cells : List Value) : Chunk where
  foot := [g]
  holds w := w.heap[g]? = some (.cells cells.toArray T (0, 0))
  stable w w' h hc := by rw [h g (by simp)]; exact hc

theorem cell_of_heap {w : World} {g : Nat} {T : TypeId} {cells : Array Value} {fr : Nat × Nat} (h : w.heap[g]? = some (.cells cells T fr)) (j : Nat) : w.cell? ⟨g, j, none⟩ = cells[j]? := by
  simp [World.cell?, h]
theorem frozen_of_heap {w : World} {g : Nat} {T : TypeId} {cells : Array Value} (h : w.heap[g]? = some (.cells cells T (0, 0))) (j : Nat) : w.frozen? ⟨g, j, none⟩ = false := by
  simp [World.frozen?, h]

theorem Sat.cell {w0 w : World} {cs : List Chunk} (h : Sat w0 cs w) {i g T j : Nat} {cells : List Value} {u : Value} (hi : cs[i]? = some (cObj g T cells)) (hu : cells[j]? = some u) : w.cell? ⟨g, j, none⟩ = some u := by
  have := h.get hi
  rw [cell_of_heap this]; simpa using hu

theorem heap_setCell {w : World} {g j : Nat} {T : TypeId} {cells : Array Value} {fr : Nat × Nat} {u : Value} (h : w.heap[g]? = some (.cells cells T fr)) : (w.setCell ⟨g, j, none⟩ u).heap[g]? = some (.cells (cells.setIfInBounds j u) T fr) := by
  simp [World.setCell, Array.getElem?_modify, h]

/-! ### A slice that the call made: a row of its own, or nil -/
def slFoot : Value → List Nat
  | .slice (some a) _ _ => [a.block]
  | _ => []

def cSl (v : Value) (E size n : Nat) (cells : List Value) : Chunk where
  foot := slFoot v
  holds w := w.ownsRow 0 E size v n cells
  stable w w' h hc := by
    refine ⟨hc.1, ?_⟩
    rcases hc.2 with h2 | ⟨g, cap, cur, rfl, hg, hh, r⟩
    · exact .inl h2
    · exact .inr ⟨g, cap, cur, rfl, hg, by rw [h g (by simp [slFoot])]; exact hh, r⟩

theorem Rd.of_own {w : World} {base E size n : Nat} {v : Value} {cells : List Value} (h : w.ownsRow base E size v n cells) : Rd w v n cells := by
  obtain ⟨hl, ⟨rfl, rfl⟩ | ⟨g, cap, cur, rfl, _, hh, hnc, _, hcs, ht⟩⟩ := h
  · have : cells = [] := List.eq_nil_of_length_eq_zero (by simpa using hl)
    subst this
    exact Rd.nil w
  · refine ⟨_, _, rfl, hnc, fun j u hu => ⟨g, 0, rfl, ?_⟩⟩
    rw [Nat.zero_add, cell_of_heap hh]
    rw [← ht, List.getElem?_take] at hu
    split at hu
    · simpa using hu
    · cases hu

theorem Sat.rd {w0 w : World} {cs : List Chunk} (h : Sat w0 cs w) {i E size n : Nat} {v : Value} {cells : List Value} (hi : cs[i]? = some (cSl v E size n cells)) : Rd w v n cells := .of_own (h.get hi)
theorem Sat.len {w0 w : World} {cs : List Chunk} (h : Sat w0 cs w) {i E size n : Nat} {v : Value} {cells : List Value} (hi : cs[i]? = some (cSl v E size n cells)) : cells.length = n * size := (h.get hi).1

theorem Sat.newNil {w0 w : World} {cs : List Chunk} (h : Sat w0 cs w) (E size : Nat) : Sat w0 (cs ++ [cSl (.slice none 0 0) E size 0 []]) w :=
  h.add ⟨rfl, rfl, rfl, Nat.le_refl _, fun _ _ _ => rfl⟩ (World.ownsRow_nil ..) (by simp [cSl, slFoot])

theorem Sat.newObj {w0 w : World} {cs : List Chunk} (h : Sat w0 cs w) (T : TypeId) (cells : List Value) : Sat w0 (cs ++ [cObj w.heap.size T cells]) (w.alloc (.cells cells.toArray T)) :=
  h.add (.alloc _ _) (heap_alloc_new w _) (by simp [cObj])

theorem Sat.newSl {w0 w : World} {cs : List Chunk} (h : Sat w0 cs w) (E size n cap : Nat) (cur : List Value) (hc : cap ≤ maxLen) (hn : n ≤ cap) (hl : cur.length = cap * size) :
    Sat w0 (cs ++ [cSl (.slice (some ⟨w.heap.size, 0, none⟩) n cap) E size n (cur.take (n * size))]) (w.alloc (.cells cur.toArray E)) :=
  h.add (.alloc _ _) ⟨by rw [List.length_take, hl, Nat.min_eq_left (Nat.mul_le_mul_right _ hn)], .inr ⟨_, cap, _, rfl, Nat.zero_le _, heap_alloc_new w _, hn, hc, by simpa using hl, by simp⟩⟩ (by simp [cSl, slFoot])

/-- An owned row seen as a bare block. -/
theorem Sat.setObj {w0 w : World} {cs : List Chunk} (h : Sat w0 cs w) {i g T j : Nat} {cells : List Value} {u : Value} (hi : cs[i]? = some (cObj g T cells)) : Sat w0 (cs.set i (cObj g T (cells.set j u))) (w.setCell ⟨g, j, none⟩ u) :=
  h.set i hi (Chg.setCell w ⟨g, j, none⟩ u) (by have := heap_setCell (j := j) (u := u) (h.get hi); simpa [cObj] using this) (fun _ hk => .inl hk)

theorem Sat.setSl {w0 w : World} {cs : List Chunk} (h : Sat w0 cs w) {i g E size n cap j : Nat} {cells : List Value} {u : Value} (hi : cs[i]? = some (cSl (.slice (some ⟨g, 0, none⟩) n cap) E size n cells)) :
    Sat w0 (cs.set i (cSl (.slice (some ⟨g, 0, none⟩) n cap) E size n (cells.set j u))) (w.setCell ⟨g, j, none⟩ u) :=
  h.set i hi (Chg.setCell w ⟨g, j, none⟩ u) ((h.get hi).stored j u).1 (fun _ hk => .inl hk)
end Go.Kw
