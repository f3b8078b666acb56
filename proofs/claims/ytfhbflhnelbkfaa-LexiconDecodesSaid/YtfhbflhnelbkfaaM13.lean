/-
  M13: plain facts on ascending lists of different strings (layer 13). No program in sight.
-/
import Derived.Test.YtfhbflhnelbkfaaM01
set_option linter.unusedSimpArgs false
set_option linter.unusedVariables false
set_option linter.unusedSectionVars false
namespace Go.Kw

/-! ### Insertion by a relation -/
section
variable {α : Type} {R : α → α → Prop} [DecidableRel R]
/-- How many elements in front are related to x. -/
def lbR (R : α → α → Prop) [DecidableRel R] (l : List α) (x : α) : Nat := (l.takeWhile fun y => decide (R y x)).length
/-- x put in behind these. -/
def insR (R : α → α → Prop) [DecidableRel R] (l : List α) (x : α) : List α := l.take (lbR R l x) ++ x :: l.drop (lbR R l x)

theorem lbR_le (l : List α) (x : α) : lbR R l x ≤ l.length := (List.takeWhile_sublist _).length_le
theorem lbR_nil (x : α) : lbR R [] x = 0 := rfl
theorem lbR_cons_pos {y x : α} {r : List α} (h : R y x) : lbR R (y :: r) x = lbR R r x + 1 := by simp [lbR, h]
theorem lbR_cons_neg {y x : α} {r : List α} (h : ¬ R y x) : lbR R (y :: r) x = 0 := by simp [lbR, h]
theorem lbR_lt {x : α} : ∀ {l : List α} {k : Nat} {y : α}, k < lbR R l x → l[k]? = some y → R y x
  | [], k, y, h, hy => by simp at hy
  | z :: r, k, y, h, hy => by
    by_cases hz : R z x
    · rw [lbR_cons_pos hz] at h
      cases k with
      | zero => simp at hy; subst hy; exact hz
      | succ k => exact lbR_lt (l := r) (k := k) (by omega) (by simpa using hy)
    · rw [lbR_cons_neg hz] at h; omega
theorem lbR_at {x : α} : ∀ {l : List α} {y : α}, l[lbR R l x]? = some y → ¬ R y x
  | [], y, hy => by simp at hy
  | z :: r, y, hy => by
    by_cases hz : R z x
    · rw [lbR_cons_pos hz] at hy
      exact lbR_at (l := r) (by simpa using hy)
    · rw [lbR_cons_neg hz] at hy
      simp at hy; subst hy; exact hz
/-- The place is told by what holds in front of it and at it. -/
theorem lbR_eq {l : List α} {x : α} {k : Nat} (hk : k ≤ l.length) (h1 : ∀ j y, j < k → l[j]? = some y → R y x) (h2 : ∀ y, l[k]? = some y → ¬ R y x) : lbR R l x = k := by
  rcases Nat.lt_trichotomy (lbR R l x) k with h | h | h
  · have hlt : lbR R l x < l.length := by omega
    exact absurd (h1 _ _ h (List.getElem?_eq_getElem hlt)) (lbR_at (List.getElem?_eq_getElem hlt))
  · exact h
  · have hlt : k < l.length := by have := lbR_le (R := R) l x; omega
    exact absurd (lbR_lt h (List.getElem?_eq_getElem hlt)) (h2 _ (List.getElem?_eq_getElem hlt))
theorem insR_mem {l : List α} {x y : α} : y ∈ insR R l x ↔ y = x ∨ y ∈ l := by
  unfold insR
  rw [List.mem_append, List.mem_cons]
  constructor
  · rintro (h | h | h)
    · exact .inr (List.mem_of_mem_take h)
    · exact .inl h
    · exact .inr (List.mem_of_mem_drop h)
  · rintro (h | h)
    · exact .inr (.inl h)
    · rw [← List.take_append_drop (lbR R l x) l, List.mem_append] at h
      rcases h with h | h
      · exact .inl h
      · exact .inr (.inr h)
theorem insR_perm (l : List α) (x : α) : (insR R l x).Perm (x :: l) := by
  unfold insR
  have h := List.perm_middle (a := x) (l₁ := l.take (lbR R l x)) (l₂ := l.drop (lbR R l x))
  rwa [List.take_append_drop] at h
theorem insR_length (l : List α) (x : α) : (insR R l x).length = l.length + 1 := by simpa using (insR_perm (R := R) l x).length_eq
theorem insR_cons_pos {y x : α} {r : List α} (h : R y x) : insR R (y :: r) x = y :: insR R r x := by simp [insR, lbR_cons_pos h]
theorem insR_cons_neg {y x : α} {r : List α} (h : ¬ R y x) : insR R (y :: r) x = x :: y :: r := by simp [insR, lbR_cons_neg h]
theorem insR_asc (tr : ∀ {a b c}, R a b → R b c → R a c) {x : α} : ∀ {l : List α}, l.Pairwise R → (∀ y ∈ l, ¬ R y x → R x y) → (insR R l x).Pairwise R
  | [], _, _ => by simp [insR]
  | y :: r, hl, hx => by
    obtain ⟨h1, h2⟩ := List.pairwise_cons.1 hl
    by_cases h : R y x
    · rw [insR_cons_pos h, List.pairwise_cons]
      refine ⟨fun z hz => ?_, insR_asc tr h2 fun z hz => hx z (List.mem_cons_of_mem _ hz)⟩
      rcases insR_mem.1 hz with rfl | hz
      · exact h
      · exact h1 z hz
    · have hxy := hx y (List.mem_cons_self ..) h
      rw [insR_cons_neg h, List.pairwise_cons]
      refine ⟨fun z hz => ?_, hl⟩
      rcases List.mem_cons.1 hz with rfl | hz
      · exact hxy
      · exact tr hxy (h1 z hz)
/-- Two lists in the order of one relation, with the same elements, are one. -/
theorem asc_unique (irr : ∀ a, ¬ R a a) (tr : ∀ {a b c}, R a b → R b c → R a c) : ∀ {a b : List α}, a.Pairwise R → b.Pairwise R → (∀ x, x ∈ a ↔ x ∈ b) → a = b
  | [], [], _, _, _ => rfl
  | [], y :: r, _, _, h => by have := (h y).2 (List.mem_cons_self ..); cases this
  | x :: r, [], _, _, h => by have := (h x).1 (List.mem_cons_self ..); cases this
  | x :: r, y :: s, ha, hb, h => by
    obtain ⟨a1, a2⟩ := List.pairwise_cons.1 ha
    obtain ⟨b1, b2⟩ := List.pairwise_cons.1 hb
    have hxy : x = y := by
      rcases List.mem_cons.1 ((h x).1 (List.mem_cons_self ..)) with e | e
      · exact e
      · rcases List.mem_cons.1 ((h y).2 (List.mem_cons_self ..)) with e' | e'
        · exact e'.symm
        · exact absurd (tr (a1 y e') (b1 x e)) (irr x)
    subst hxy
    rw [asc_unique irr tr a2 b2 fun z => ?_]
    constructor
    · intro hz
      rcases List.mem_cons.1 ((h z).1 (List.mem_cons_of_mem _ hz)) with e | e
      · subst e; exact absurd (a1 z hz) (irr z)
      · exact e
    · intro hz
      rcases List.mem_cons.1 ((h z).2 (List.mem_cons_of_mem _ hz)) with e | e
      · subst e; exact absurd (b1 z hz) (irr z)
      · exact e
/-- What is there stands at its place. -/
theorem lbR_get (irr : ∀ a, ¬ R a a) (asy : ∀ {a b}, R a b → ¬ R b a) {x : α} : ∀ {l : List α}, l.Pairwise R → x ∈ l → l[lbR R l x]? = some x
  | [], _, h => by cases h
  | y :: r, hl, h => by
    obtain ⟨h1, h2⟩ := List.pairwise_cons.1 hl
    rcases List.mem_cons.1 h with rfl | h
    · rw [lbR_cons_neg (irr _)]; rfl
    · rw [lbR_cons_pos (h1 x h)]; simpa using lbR_get irr asy h2 h
end

/-- Places below n at which a falling predicate holds. -/
theorem countP_cut {p : Nat → Bool} {n k : Nat} (hk : k ≤ n) (h1 : ∀ i, i < k → p i = true) (h2 : ∀ i, k ≤ i → i < n → p i = false) : (List.range n).countP p = k := by
  have e : List.range n = List.range k ++ (List.range (n - k)).map (k + ·) := by
    rw [← List.range_add]; congr 1; omega
  rw [e, List.countP_append, List.countP_map]
  have e1 : (List.range k).countP p = k := by
    rw [List.countP_eq_length.2 fun i hi => h1 i (List.mem_range.1 hi)]; simp
  have e2 : (List.range (n - k)).countP (p ∘ (k + ·)) = 0 := by
    rw [List.countP_eq_zero]
    intro i hi
    have := List.mem_range.1 hi
    simp [h2 (k + i) (by omega) (by omega)]
  rw [e1, e2]; rfl

/-! ### Strings in bytewise order -/
def SLt (a b : ByteArray) : Prop := a.data.toList < b.data.toList
instance : DecidableRel SLt := fun a b => inferInstanceAs (Decidable (a.data.toList < b.data.toList))
theorem bytes_ext {a b : ByteArray} (h : a.data.toList = b.data.toList) : a = b := by
  obtain ⟨⟨x⟩⟩ := a; obtain ⟨⟨y⟩⟩ := b
  simp at h; rw [h]
theorem SLt.irr (a : ByteArray) : ¬ SLt a a := List.lt_irrefl _
theorem SLt.tr {a b c : ByteArray} (h : SLt a b) (k : SLt b c) : SLt a c := List.lt_trans h k
theorem SLt.asy {a b : ByteArray} (h : SLt a b) : ¬ SLt b a := fun k => SLt.irr a (h.tr k)
theorem SLt.tri {a b : ByteArray} (h : ¬ SLt a b) (k : a ≠ b) : SLt b a := by
  rcases Decidable.em (SLt b a) with h' | h'
  · exact h'
  · exact absurd (bytes_ext (List.le_antisymm (List.not_lt.1 h') (List.not_lt.1 h))) k

/-- Different strings in ascending order. -/
abbrev Asc (l : List ByteArray) : Prop := l.Pairwise SLt
abbrev lbW (l : List ByteArray) (w : ByteArray) : Nat := lbR SLt l w
theorem Asc.eq {a b : List ByteArray} (ha : Asc a) (hb : Asc b) (h : ∀ x, x ∈ a ↔ x ∈ b) : a = b := asc_unique SLt.irr SLt.tr ha hb h
theorem Asc.get {l : List ByteArray} (h : Asc l) {w : ByteArray} (hw : w ∈ l) : l[lbW l w]? = some w := lbR_get SLt.irr SLt.asy h hw
theorem Asc.ins {l : List ByteArray} (h : Asc l) {w : ByteArray} (hw : w ∉ l) : Asc (insR SLt l w) := insR_asc (R := SLt) (fun h k => SLt.tr h k) h fun y hy hn => SLt.tri hn fun (e : y = w) => hw (e ▸ hy)
theorem Asc.lt {l : List ByteArray} (h : Asc l) {i j : Nat} {x y : ByteArray} (hx : l[i]? = some x) (hy : l[j]? = some y) (hij : i < j) : SLt x y := by
  obtain ⟨h1, rfl⟩ := List.getElem?_eq_some_iff.1 hx
  obtain ⟨h2, rfl⟩ := List.getElem?_eq_some_iff.1 hy
  exact List.pairwise_iff_getElem.1 h i j h1 h2 hij
theorem Asc.inj {l : List ByteArray} (h : Asc l) {i j : Nat} {x : ByteArray} (hx : l[i]? = some x) (hy : l[j]? = some x) : i = j := by
  rcases Nat.lt_trichotomy i j with e | e | e
  · exact absurd (h.lt hx hy e) (SLt.irr x)
  · exact e
  · exact absurd (h.lt hy hx e) (SLt.irr x)
/-- In an ascending list the elements below w are the first ones. -/
theorem Asc.lb_iff {l : List ByteArray} (h : Asc l) {w x : ByteArray} {i : Nat} (hx : l[i]? = some x) : SLt x w ↔ i < lbW l w := by
  constructor
  · intro hlt
    rcases Nat.lt_or_ge i (lbW l w) with e | e
    · exact e
    · exfalso
      have hi := (List.getElem?_eq_some_iff.1 hx).1
      have hk : lbW l w < l.length := by omega
      have hn := lbR_at (List.getElem?_eq_getElem hk)
      rcases Nat.lt_or_ge (lbW l w) i with e' | e'
      · exact hn ((h.lt (List.getElem?_eq_getElem hk) hx e').tr hlt)
      · have : lbW l w = i := by omega
        obtain ⟨_, hx'⟩ := List.getElem?_eq_some_iff.1 hx
        have e2 : l[lbW l w] = x := by rw [← hx']; congr 1
        rw [e2] at hn; exact hn hlt
  · intro hi; exact lbR_lt hi hx

theorem snoc_ind {α : Type} {M : List α → Prop} (h0 : M []) (h1 : ∀ l x, M l → M (l ++ [x])) (l : List α) : M l := by
  have : ∀ r : List α, M r.reverse := fun r => by
    induction r with
    | nil => exact h0
    | cons x r ih => rw [List.reverse_cons]; exact h1 _ _ ih
  simpa using this l.reverse
/-- How often w stands in vs. -/
def cnt (vs : List ByteArray) (w : ByteArray) : Nat := vs.countP fun x => decide (x = w)
theorem cnt_snoc (vs : List ByteArray) (v w : ByteArray) : cnt (vs ++ [v]) w = cnt vs w + (if v = w then 1 else 0) := by
  simp only [cnt, List.countP_append, List.countP_cons, List.countP_nil, decide_eq_true_eq]; omega
theorem cnt_zero {vs : List ByteArray} {w : ByteArray} (h : w ∉ vs) : cnt vs w = 0 := List.countP_eq_zero.2 fun x hx => by simp; exact fun e => h (e ▸ hx)
theorem cnt_pos {vs : List ByteArray} {w : ByteArray} (h : w ∈ vs) : 1 ≤ cnt vs w := List.countP_pos_iff.2 ⟨w, h, by simp⟩
theorem cnt_le (vs : List ByteArray) (w : ByteArray) : cnt vs w ≤ vs.length := List.countP_le_length

/-- One value more. -/
def addW (W : List ByteArray) (v : ByteArray) : List ByteArray := if W[lbW W v]? = some v then W else insR SLt W v
/-- The words of values. -/
def wordsN (vs : List ByteArray) : List ByteArray := vs.foldl addW []
def countsN (vs : List ByteArray) : List Nat := (wordsN vs).map (cnt vs)
theorem wordsN_snoc (vs : List ByteArray) (v : ByteArray) : wordsN (vs ++ [v]) = addW (wordsN vs) v := by simp [wordsN]
theorem addW_spec {W : List ByteArray} (h : Asc W) (v : ByteArray) : Asc (addW W v) ∧ ∀ x, x ∈ addW W v ↔ x = v ∨ x ∈ W := by
  unfold addW
  split
  · rename_i hk
    have hm := List.mem_of_getElem? hk
    exact ⟨h, fun x => ⟨.inr, fun hx => hx.elim (fun e => e ▸ hm) id⟩⟩
  · rename_i hk
    have hn : v ∉ W := fun hm => hk (h.get hm)
    exact ⟨h.ins hn, fun x => insR_mem⟩
theorem wordsN_spec (vs : List ByteArray) : Asc (wordsN vs) ∧ ∀ x, x ∈ wordsN vs ↔ x ∈ vs := by
  induction vs using snoc_ind with
  | h0 => exact ⟨List.Pairwise.nil, fun x => Iff.rfl⟩
  | h1 vs v ih =>
    rw [wordsN_snoc]
    obtain ⟨h1, h2⟩ := addW_spec ih.1 v
    refine ⟨h1, fun x => ?_⟩
    rw [h2, ih.2, List.mem_append, List.mem_singleton]
    exact Or.comm
theorem wordsN_asc (vs : List ByteArray) : Asc (wordsN vs) := (wordsN_spec vs).1
theorem wordsN_mem {vs : List ByteArray} {x : ByteArray} : x ∈ wordsN vs ↔ x ∈ vs := (wordsN_spec vs).2 x
theorem wordsN_get {vs : List ByteArray} {v : ByteArray} (h : v ∈ vs) : (wordsN vs)[lbW (wordsN vs) v]? = some v := (wordsN_asc vs).get (wordsN_mem.2 h)
theorem addW_length (W : List ByteArray) (v : ByteArray) : W.length ≤ (addW W v).length ∧ (addW W v).length ≤ W.length + 1 := by
  unfold addW
  split
  · omega
  · rw [insR_length]; omega
theorem wordsN_length (vs : List ByteArray) : (wordsN vs).length ≤ vs.length := by
  induction vs using snoc_ind with
  | h0 => simp [wordsN]
  | h1 vs v ih =>
    rw [wordsN_snoc, List.length_append]
    have := (addW_length (wordsN vs) v).2
    simp; omega

/-! What the counts are behind one value more. -/
theorem countsN_length (vs : List ByteArray) : (countsN vs).length = (wordsN vs).length := by simp [countsN]
theorem counts_found {vs : List ByteArray} {v : ByteArray} (h : (wordsN vs)[lbW (wordsN vs) v]? = some v) :
    ∃ c, (countsN vs)[lbW (wordsN vs) v]? = some c ∧ countsN (vs ++ [v]) = (countsN vs).set (lbW (wordsN vs) v) (c + 1) := by
  refine ⟨cnt vs v, by simp [countsN, h], ?_⟩
  have e : wordsN (vs ++ [v]) = wordsN vs := by rw [wordsN_snoc, addW, if_pos h]
  unfold countsN
  rw [e]
  have hlt := (List.getElem?_eq_some_iff.1 h).1
  apply List.ext_getElem?
  intro j
  rw [List.getElem?_set]
  by_cases hj : lbW (wordsN vs) v = j
  · subst hj
    rw [if_pos rfl, List.getElem?_map, h, if_pos (by simpa using hlt)]
    simp [cnt_snoc]
  · rw [if_neg hj, List.getElem?_map, List.getElem?_map]
    cases hx : (wordsN vs)[j]? with
    | none => rfl
    | some x =>
      have : v ≠ x := fun e => hj ((wordsN_asc vs).inj h (e ▸ hx))
      simp [cnt_snoc, this]
theorem counts_new {vs : List ByteArray} {v : ByteArray} (h : ¬ (wordsN vs)[lbW (wordsN vs) v]? = some v) :
    countsN (vs ++ [v]) = (countsN vs).take (lbW (wordsN vs) v) ++ 1 :: (countsN vs).drop (lbW (wordsN vs) v) := by
  have hn : v ∉ vs := fun hm => h (wordsN_get hm)
  have e : wordsN (vs ++ [v]) = insR SLt (wordsN vs) v := by rw [wordsN_snoc, addW, if_neg h]
  unfold countsN
  rw [e, insR, List.map_append, List.map_cons, ← List.map_take, ← List.map_drop]
  have e1 : ∀ l : List ByteArray, (∀ x ∈ l, x ∈ wordsN vs) → l.map (cnt (vs ++ [v])) = l.map (cnt vs) := fun l hl => List.map_congr_left fun x hx => by
    have : v ≠ x := fun e => hn (e ▸ wordsN_mem.1 (hl x hx))
    simp [cnt_snoc, this]
  rw [e1 _ fun x hx => List.mem_of_mem_take hx, e1 _ fun x hx => List.mem_of_mem_drop hx, cnt_snoc, if_pos rfl, cnt_zero hn]

/-- The different strings of a list, sorted, are its words. -/
theorem words_of_sorted {vs K : List ByteArray} (hn : K.Nodup) (hm : ∀ x, x ∈ K ↔ x ∈ vs) :
    (((K.map fun s => s.data.toList).mergeSort fun x y => decide (x ≤ y)).map fun l => (⟨l.toArray⟩ : ByteArray)) = wordsN vs := by
  have hp := List.mergeSort_perm (K.map fun s => s.data.toList) (fun x y => decide (x ≤ y))
  have hs : ((K.map fun s => s.data.toList).mergeSort fun x y => decide (x ≤ y)).Pairwise fun x y => decide (x ≤ y) = true := List.pairwise_mergeSort (fun a b c h1 h2 => by simp at *; exact List.le_trans h1 h2) (fun a b => by simp; exact List.le_total a b) _
  have hnd : ((K.map fun s => s.data.toList).mergeSort fun x y => decide (x ≤ y)).Nodup := by
    refine (List.Perm.nodup_iff hp).2 ?_
    rw [List.Nodup, List.pairwise_map]
    exact hn.imp fun h e => h (bytes_ext e)
  refine Asc.eq ?_ (wordsN_asc vs) fun x => ?_
  · show List.Pairwise SLt _
    rw [List.pairwise_map]
    refine (hs.and hnd).imp fun {a b} h => ?_
    obtain ⟨h1, h2⟩ := h
    show a < b
    simp at h1
    rcases Decidable.em (a < b) with h3 | h3
    · exact h3
    · exact absurd (List.le_antisymm h1 (List.not_lt.1 h3)) h2
  · rw [wordsN_mem, ← hm, List.mem_map]
    constructor
    · rintro ⟨l, hl, rfl⟩
      obtain ⟨s, hs', rfl⟩ := List.mem_map.1 (hp.mem_iff.1 hl)
      have : (⟨s.data.toList.toArray⟩ : ByteArray) = s := by simp
      rw [this]; exact hs'
    · intro hx
      exact ⟨x.data.toList, hp.mem_iff.2 (List.mem_map.2 ⟨x, hx, rfl⟩), by simp⟩

/-! ### Prefixes -/
def preB (p w : ByteArray) : Bool := p.data.toList.isPrefixOf w.data.toList
def sufB (p w : ByteArray) : Bool := p.data.toList.isSuffixOf w.data.toList
theorem pre_between : ∀ (p x y : List UInt8), ¬ x < p → ¬ y < x → p.isPrefixOf y = true → p.isPrefixOf x = true
  | [], _, _, _, _, _ => by simp
  | a :: p, [], _, h, _, _ => by simp at h
  | a :: p, b :: x, [], _, _, h => by simp at h
  | a :: p, b :: x, c :: y, h1, h2, h3 => by
    simp only [List.isPrefixOf, Bool.and_eq_true, beq_iff_eq] at h3 ⊢
    obtain ⟨rfl, h3⟩ := h3
    rw [List.cons_lt_cons_iff] at h1 h2
    simp only [not_or, not_and] at h1 h2
    have hab : b = a := by
      have e1 := UInt8.not_lt.1 h1.1
      have e2 := UInt8.not_lt.1 h2.1
      exact UInt8.le_antisymm e2 e1
    subst hab
    exact ⟨rfl, pre_between p x y (h1.2 rfl) (h2.2 rfl) h3⟩
theorem pre_le : ∀ (p y : List UInt8), p.isPrefixOf y = true → ¬ y < p
  | [], y, _ => by simp
  | a :: p, [], h => by simp at h
  | a :: p, b :: y, h => by
    simp only [List.isPrefixOf, Bool.and_eq_true, beq_iff_eq] at h
    obtain ⟨rfl, h⟩ := h
    rw [List.cons_lt_cons_iff]
    rintro (h1 | ⟨_, h1⟩)
    · exact UInt8.lt_irrefl _ h1
    · exact pre_le p y h h1
/-- How many words from the first one on that is not below p begin with p. -/
def preN (W : List ByteArray) (p : ByteArray) : Nat := ((W.drop (lbW W p)).takeWhile (preB p)).length
theorem preN_le (W : List ByteArray) (p : ByteArray) : lbW W p + preN W p ≤ W.length := by
  have h1 : preN W p ≤ (W.drop (lbW W p)).length := (List.takeWhile_sublist _).length_le
  have h2 : lbW W p ≤ W.length := lbR_le W p
  rw [List.length_drop] at h1; omega
theorem takeWhile_get {α : Type} {p : α → Bool} : ∀ {l : List α} {k : Nat} {x : α}, l[k]? = some x → k < (l.takeWhile p).length → p x = true
  | [], k, x, h, _ => by simp at h
  | y :: r, k, x, h, hk => by
    by_cases hy : p y = true
    · rw [List.takeWhile_cons, if_pos hy, List.length_cons] at hk
      cases k with
      | zero => simp at h; exact h ▸ hy
      | succ k => exact takeWhile_get (l := r) (by simpa using h) (by omega)
    · rw [List.takeWhile_cons, if_neg hy] at hk; simp at hk
theorem takeWhile_end {α : Type} {p : α → Bool} : ∀ {l : List α} {x : α}, l[(l.takeWhile p).length]? = some x → p x = false
  | [], x, h => by simp at h
  | y :: r, x, h => by
    by_cases hy : p y = true
    · rw [List.takeWhile_cons, if_pos hy, List.length_cons] at h
      exact takeWhile_end (l := r) (by simpa using h)
    · rw [List.takeWhile_cons, if_neg hy] at h; simp at h; subst h; simpa using hy
/-- The words that begin with p stand side by side. -/
theorem pre_iff {W : List ByteArray} (h : Asc W) (p : ByteArray) {i : Nat} {x : ByteArray} (hx : W[i]? = some x) : preB p x = true ↔ lbW W p ≤ i ∧ i < lbW W p + preN W p := by
  have hlb := h.lb_iff (w := p) hx
  have hd : ∀ k, (W.drop (lbW W p))[k]? = W[lbW W p + k]? := fun k => List.getElem?_drop
  constructor
  · intro hp
    have h1 : lbW W p ≤ i := by
      have := pre_le _ _ hp
      rcases Nat.lt_or_ge i (lbW W p) with e | e
      · exact absurd (hlb.2 e) this
      · exact e
    refine ⟨h1, ?_⟩
    rcases Nat.lt_or_ge i (lbW W p + preN W p) with e | e
    · exact e
    · exfalso
      have hi := (List.getElem?_eq_some_iff.1 hx).1
      have hlt : lbW W p + preN W p < W.length := by omega
      obtain ⟨y, hy⟩ : ∃ y, W[lbW W p + preN W p]? = some y := ⟨_, List.getElem?_eq_getElem hlt⟩
      have h2 := takeWhile_end (p := preB p) (l := W.drop (lbW W p)) (x := y) (by rw [hd]; exact hy)
      have h3 : ¬ SLt y p := fun hh => by have := (h.lb_iff (w := p) hy).1 hh; omega
      have h4 : ¬ SLt x y := by
        rcases Nat.lt_or_ge (lbW W p + preN W p) i with e' | e'
        · exact (h.lt hy hx e').asy
        · have : lbW W p + preN W p = i := by omega
          rw [this, hx] at hy; cases hy; exact SLt.irr _
      have := pre_between _ _ _ h3 h4 hp
      rw [show preB p y = true from this] at h2; cases h2
  · rintro ⟨h1, h2⟩
    have := takeWhile_get (p := preB p) (l := W.drop (lbW W p)) (k := i - lbW W p) (x := x) (by rw [hd, show lbW W p + (i - lbW W p) = i by omega]; exact hx) (by show _ < preN W p; omega)
    exact this

/-! ### The order of the reverses -/
/-- Word i's reverse. -/
def rvN (W : List ByteArray) (i : Nat) : ByteArray := revN (W.getD i ByteArray.empty)
def RLt (W : List ByteArray) (i j : Nat) : Prop := SLt (rvN W i) (rvN W j)
instance (W : List ByteArray) : DecidableRel (RLt W) := fun i j => inferInstanceAs (Decidable (SLt _ _))
def okW (W : List ByteArray) : Prop := Asc W ∧ ∀ w ∈ W, validN w = true
theorem okW.rv_inj {W : List ByteArray} (h : okW W) {i j : Nat} (hi : i < W.length) (hj : j < W.length) (e : rvN W i = rvN W j) : i = j := by
  have hi' : W[i]? = some W[i] := List.getElem?_eq_getElem hi
  have hj' : W[j]? = some W[j] := List.getElem?_eq_getElem hj
  have e1 : W.getD i ByteArray.empty = W[i] := by simp [List.getD_eq_getElem?_getD, hi']
  have e2 : W.getD j ByteArray.empty = W[j] := by simp [List.getD_eq_getElem?_getD, hj']
  unfold rvN at e
  rw [e1, e2] at e
  have := revN_inj (h.2 _ (List.getElem_mem hi)) (h.2 _ (List.getElem_mem hj)) e
  exact h.1.inj hi' (by rw [hj', ← this])
theorem okW.tri {W : List ByteArray} (h : okW W) {i j : Nat} (hi : i < W.length) (hj : j < W.length) (hne : i ≠ j) (hn : ¬ RLt W i j) : RLt W j i := SLt.tri hn fun e => hne (h.rv_inj hi hj e)
/-- The numbers of the words in the order of their reverses. -/
def ordF (W : List ByteArray) (n : Nat) : List Nat := (List.range n).foldl (insR (RLt W)) []
def ordN (W : List ByteArray) : List Nat := ordF W W.length
theorem ordF_succ (W : List ByteArray) (n : Nat) : ordF W (n + 1) = insR (RLt W) (ordF W n) n := by simp [ordF, List.range_succ]
theorem ordF_perm (W : List ByteArray) : ∀ n, (ordF W n).Perm (List.range n)
  | 0 => by simp [ordF]
  | n + 1 => by
    rw [ordF_succ, List.range_succ]
    exact (insR_perm _ _).trans (((ordF_perm W n).cons n).trans (List.perm_append_singleton n (List.range n)).symm)
theorem ordF_asc {W : List ByteArray} (h : okW W) : ∀ n, n ≤ W.length → (ordF W n).Pairwise (RLt W)
  | 0, _ => by simp [ordF]
  | n + 1, hn => by
    rw [ordF_succ]
    refine insR_asc (R := RLt W) (fun h1 h2 => SLt.tr h1 h2) (ordF_asc h n (by omega)) fun y hy hny => ?_
    have := List.mem_range.1 ((ordF_perm W n).mem_iff.1 hy)
    exact h.tri (by omega) (by omega) (by omega) hny
theorem ordN_perm (W : List ByteArray) : (ordN W).Perm (List.range W.length) := ordF_perm W _
theorem ordN_length (W : List ByteArray) : (ordN W).length = W.length := by simpa using (ordN_perm W).length_eq
theorem ordN_mem {W : List ByteArray} {i : Nat} : i ∈ ordN W ↔ i < W.length := by rw [(ordN_perm W).mem_iff, List.mem_range]
/-- Whatever way the numbers are sorted by the reverses, they come to this. -/
theorem ordN_unique {W : List ByteArray} (h : okW W) {l : List Nat} (hp : l.Perm (List.range W.length)) (hs : l.Pairwise fun i j => ¬ RLt W j i) : l = ordN W := by
  have hnd : l.Nodup := hp.nodup_iff.2 List.nodup_range
  refine asc_unique (R := RLt W) (fun a => SLt.irr _) (fun h1 h2 => SLt.tr h1 h2) ?_ (ordF_asc h _ (Nat.le_refl _)) fun x => ?_
  · have hm : ∀ x ∈ l, x < W.length := fun x hx => List.mem_range.1 (hp.mem_iff.1 hx)
    rw [List.pairwise_iff_getElem] at hs ⊢
    intro i j hi hj hij
    refine h.tri (hm _ (List.getElem_mem hj)) (hm _ (List.getElem_mem hi)) (fun e => ?_) (hs i j hi hj hij)
    have := (List.getElem?_inj hj hnd (j := i)).1 (by rw [List.getElem?_eq_getElem hj, List.getElem?_eq_getElem hi, e])
    omega
  · rw [hp.mem_iff, List.mem_range, ordN_mem]
end Go.Kw
