/-
  M01: plain facts on strings as units (layer 1): what 'range' over a string meets, valid strings, strings in reverse. No program in sight.
-/
import Derived.WalkKit
import Derived.Lib.DecodeN
set_option linter.unusedVariables false
set_option linter.unusedSimpArgs false
set_option linter.unusedSectionVars false
namespace Go.Kw
open Go.Lib
def gb (l : List UInt8) (k : Nat) : Nat := (l.getD k 0).toNat
def dec (l : List UInt8) : Nat × Nat := decodeN l.length (gb l 0) (gb l 1) (gb l 2) (gb l 3)
theorem get_data (s : ByteArray) (i : Nat) : (s.get! i).toNat = gb s.data.toList i := by
  unfold gb
  show (s.data[i]!).toNat = _
  rw [List.getD_eq_getElem?_getD, Array.getElem?_toList]
  by_cases h : i < s.data.size
  · rw [getElem!_pos s.data i h, Array.getElem?_eq_getElem h]; rfl
  · rw [getElem!_neg s.data i h, Array.getElem?_eq_none (by omega)]; rfl
theorem gb_drop (l : List UInt8) (i k : Nat) : gb (l.drop i) k = gb l (i + k) := by
  unfold gb; simp [List.getD_eq_getElem?_getD]
theorem decode_dec (s : ByteArray) (i : Nat) : Utf8.decode s i = dec (s.data.toList.drop i) := by
  rw [decode_at]
  unfold dec
  rw [gb_drop, gb_drop, gb_drop, gb_drop, get_data, get_data, get_data, get_data]
  have : s.size - i = (s.data.toList.drop i).length := by rw [List.length_drop, Array.length_toList]; rfl
  rw [this]; rfl
theorem decodeN_pos (n b0 b1 b2 b3 : Nat) : 1 ≤ (decodeN n b0 b1 b2 b3).2 ∧ (decodeN n b0 b1 b2 b3).2 ≤ 4 := by
  unfold decodeN
  repeat' split
  all_goals exact ⟨by simp, by simp⟩
theorem decodeN_le (n b0 b1 b2 b3 : Nat) (hn : 1 ≤ n) : (decodeN n b0 b1 b2 b3).2 ≤ n := by
  unfold decodeN
  repeat' split
  all_goals simp only [] at *
  all_goals omega
theorem decodeN_r (n b0 b1 b2 b3 : Nat) : (decodeN n b0 b1 b2 b3).1 < 2097152 := by
  unfold decodeN
  repeat' split
  all_goals simp only []
  all_goals omega
theorem decodeN_cut {n m b0 b1 b2 b3 c1 c2 c3 : Nat} {p : Nat × Nat} (hp : decodeN n b0 b1 b2 b3 = p) (hg : p.1 ≠ 65533 ∨ p.2 = 3) (hm : p.2 ≤ m) (e1 : 1 < p.2 → c1 = b1) (e2 : 2 < p.2 → c2 = b2) (e3 : 3 < p.2 → c3 = b3) :
    decodeN m b0 c1 c2 c3 = p := by
  unfold decodeN at hp
  split at hp
  · subst hp; unfold decodeN; rename_i h; rw [if_pos h]
  rename_i h0
  split at hp
  · rename_i h1
    split at hp
    · rename_i h2
      subst hp
      have := e1 (by simp); subst this
      unfold decodeN
      rw [if_neg h0, if_pos ⟨h1.1, by simp at hm; omega, h1.2.2⟩, if_pos h2]
    · subst hp; simp at hg
  rename_i h1
  split at hp
  · rename_i h2
    split at hp
    · rename_i h3
      subst hp
      have := e1 (by simp); subst this
      have := e2 (by simp); subst this
      unfold decodeN
      rw [if_neg h0, if_neg (fun h => by omega), if_pos ⟨h2.1, ⟨by simp at hm; omega, h2.2.1.2⟩, ⟨by simp at hm; omega, h2.2.2.2⟩⟩, if_pos h3]
    · subst hp; simp at hg
  rename_i h2
  split at hp
  · rename_i h3
    split at hp
    · rename_i h4
      subst hp
      have := e1 (by simp); subst this
      have := e2 (by simp); subst this
      have := e3 (by simp); subst this
      unfold decodeN
      rw [if_neg h0, if_neg (fun h => by omega), if_neg (fun h => by omega), if_pos ⟨h3.1, ⟨by simp at hm; omega, h3.2.1.2⟩, ⟨by simp at hm; omega, h3.2.2.1.2⟩, ⟨by simp at hm; omega, h3.2.2.2.2⟩⟩, if_pos h4]
    · subst hp; simp at hg
  · subst hp; simp at hg
theorem dec_pos (l : List UInt8) : 1 ≤ (dec l).2 := (decodeN_pos ..).1
theorem dec_le {l : List UInt8} (h : l ≠ []) : (dec l).2 ≤ l.length := decodeN_le _ _ _ _ _ (List.length_pos_iff.2 h)
theorem dec_r (l : List UInt8) : (dec l).1 < 2097152 := decodeN_r ..
theorem gb_append {u t : List UInt8} {k : Nat} (h : k < u.length) : gb (u ++ t) k = gb u k := by
  unfold gb; simp [List.getD_eq_getElem?_getD, List.getElem?_append, h]
theorem gb_take {l : List UInt8} {w k : Nat} (h : k < w) : gb (l.take w) k = gb l k := by
  unfold gb; simp [List.getD_eq_getElem?_getD, List.getElem?_take, h]
def okU (p : Nat × Nat) : Prop := p.1 ≠ 65533 ∨ p.2 = 3
theorem dec_append {u t : List UInt8} (h : okU (dec u)) (hl : (dec u).2 = u.length) : dec (u ++ t) = dec u := by
  have h1 := dec_pos u
  have hl' : (decodeN u.length (gb u 0) (gb u 1) (gb u 2) (gb u 3)).2 = u.length := hl
  unfold dec
  rw [gb_append (k := 0) (by omega)]
  exact decodeN_cut (n := u.length) (b1 := gb u 1) (b2 := gb u 2) (b3 := gb u 3) rfl h (by show (dec u).2 ≤ _; rw [hl]; simp) (fun hk => gb_append (by rw [hl'] at hk; exact hk)) (fun hk => gb_append (by rw [hl'] at hk; exact hk)) (fun hk => gb_append (by rw [hl'] at hk; exact hk))
theorem dec_take {l : List UInt8} (hne : l ≠ []) (h : okU (dec l)) : dec (l.take (dec l).2) = dec l := by
  have h1 := dec_pos l
  have h2 := dec_le hne
  have e0 : gb (l.take (dec l).2) 0 = gb l 0 := gb_take (by omega)
  have hlen : (l.take (dec l).2).length = (dec l).2 := by rw [List.length_take]; omega
  show decodeN _ _ _ _ _ = _
  rw [e0, hlen]
  exact decodeN_cut (n := l.length) (b1 := gb l 1) (b2 := gb l 2) (b3 := gb l 3) rfl h (Nat.le_refl _) (fun hk => gb_take hk) (fun hk => gb_take hk) (fun hk => gb_take hk)
def chop (l : List UInt8) : List (Nat × List UInt8) :=
  if h : l = [] then [] else ((dec l).1, l.take (dec l).2) :: chop (l.drop (dec l).2)
termination_by l.length
decreasing_by
  have := dec_pos l
  have := List.length_pos_iff.2 h
  simp only [List.length_drop]; omega
theorem chop_nil : chop [] = [] := by rw [chop]; simp
theorem chop_cons {l : List UInt8} (h : l ≠ []) : chop l = ((dec l).1, l.take (dec l).2) :: chop (l.drop (dec l).2) := by rw [chop, dif_neg h]
theorem chop_ind {M : List UInt8 → Prop} (h0 : M []) (h1 : ∀ l, l ≠ [] → M (l.drop (dec l).2) → M l) : ∀ l, M l := fun l => by
  generalize hn : l.length = n
  induction n using Nat.strongRecOn generalizing l with
  | _ n ih =>
    by_cases h : l = []
    · rw [h]; exact h0
    · have := dec_pos l
      have := List.length_pos_iff.2 h
      exact h1 l h (ih _ (by simp only [List.length_drop]; omega) _ rfl)
theorem chop_concat (l : List UInt8) : (chop l).flatMap (·.2) = l := by
  induction l using chop_ind with
  | h0 => rw [chop_nil]; rfl
  | h1 l h ih => rw [chop_cons h, List.flatMap_cons, ih]; exact List.take_append_drop ..
def okP (p : Nat × List UInt8) : Prop := dec p.2 = (p.1, p.2.length) ∧ okU (p.1, p.2.length) ∧ p.2 ≠ []
def okB (p : Nat × List UInt8) : Prop := p.1 ≠ 65533 ∨ p.2.length = 3
theorem chop_ok (l : List UInt8) (h : ∀ p ∈ chop l, okB p) : ∀ p ∈ chop l, okP p := by
  induction l using chop_ind with
  | h0 => rw [chop_nil]; simp
  | h1 l hne ih =>
    rw [chop_cons hne] at h ⊢
    have h2 := dec_le hne
    have h1 := dec_pos l
    have hlen : (l.take (dec l).2).length = (dec l).2 := by rw [List.length_take]; omega
    intro p hp
    rcases List.mem_cons.1 hp with rfl | hp
    · have hb := h _ (List.mem_cons_self ..)
      have hb' : okU (dec l) := by
        rcases hb with hb | hb
        · exact .inl hb
        · exact .inr (by rw [hlen] at hb; exact hb)
      refine ⟨?_, ?_, ?_⟩
      · show dec (l.take (dec l).2) = ((dec l).1, (l.take (dec l).2).length)
        rw [dec_take hne hb', hlen]
      · show okU ((dec l).1, (l.take (dec l).2).length)
        rw [hlen]; exact hb'
      · intro he
        have := congrArg List.length he
        simp only [List.length_nil] at this
        have h3 : (l.take (dec l).2).length = 0 := this
        omega
    · exact ih (fun q hq => h q (List.mem_cons_of_mem _ hq)) p hp
theorem chop_units : ∀ (ps : List (Nat × List UInt8)), (∀ p ∈ ps, okP p) → chop (ps.flatMap (·.2)) = ps
  | [], _ => chop_nil
  | p :: r, h => by
    obtain ⟨h1, h2, h3⟩ := h p (List.mem_cons_self ..)
    have ih := chop_units r (fun q hq => h q (List.mem_cons_of_mem _ hq))
    have hd : dec (p.2 ++ r.flatMap (·.2)) = (p.1, p.2.length) := by rw [dec_append (by rw [h1]; exact h2) (by rw [h1]), h1]
    rw [List.flatMap_cons, chop_cons (by simp [h3]), hd]
    simp only [List.take_left', List.drop_left']
    rw [ih]
def revL (l : List UInt8) : List UInt8 := (chop l).reverse.flatMap (·.2)
def okL (l : List UInt8) : Prop := ∀ p ∈ chop l, okB p
theorem chop_rev {l : List UInt8} (h : okL l) : chop (revL l) = (chop l).reverse := chop_units _ fun p hp => chop_ok l h p (List.mem_reverse.1 hp)
theorem revL_inj {l m : List UInt8} (hl : okL l) (hm : okL m) (h : revL l = revL m) : l = m := by
  have h1 := chop_rev hl
  rw [h, chop_rev hm] at h1
  rw [← chop_concat l, ← chop_concat m, List.reverse_inj.1 h1]
structure Un where
  r : Nat
  at_ : Nat
  size : Nat
def unsFrom (s : List UInt8) (i : Nat) : List Un :=
  if h : i < s.length then ⟨(dec (s.drop i)).1, i, (dec (s.drop i)).2⟩ :: unsFrom s (i + (dec (s.drop i)).2) else []
termination_by s.length - i
decreasing_by have := dec_pos (s.drop i); omega
def uns (s : List UInt8) : List Un := unsFrom s 0
theorem unsFrom_lt {s : List UInt8} {i : Nat} (h : i < s.length) : unsFrom s i = ⟨(dec (s.drop i)).1, i, (dec (s.drop i)).2⟩ :: unsFrom s (i + (dec (s.drop i)).2) := by rw [unsFrom, dif_pos h]
theorem unsFrom_ge {s : List UInt8} {i : Nat} (h : s.length ≤ i) : unsFrom s i = [] := by rw [unsFrom, dif_neg (by omega)]
theorem dec_room {s : List UInt8} {i : Nat} (h : i < s.length) : i + (dec (s.drop i)).2 ≤ s.length := by
  have := dec_le (l := s.drop i) (fun he => by have := congrArg List.length he; simp at this; omega)
  rw [List.length_drop] at this; omega
theorem unsFrom_chop (s : List UInt8) : ∀ (k i : Nat), s.length - i ≤ k → (unsFrom s i).map (fun u => (u.r, (s.drop u.at_).take u.size)) = chop (s.drop i)
  | k, i, hk => by
    by_cases h : i < s.length
    · have hne : s.drop i ≠ [] := fun he => by have := congrArg List.length he; simp at this; omega
      have := dec_pos (s.drop i)
      cases k with
      | zero => omega
      | succ k =>
        rw [unsFrom_lt h, chop_cons hne, List.map_cons, unsFrom_chop s k _ (by omega), List.drop_drop]
    · rw [unsFrom_ge (by omega), List.drop_eq_nil_of_le (by omega), chop_nil]; rfl
theorem uns_chop (s : List UInt8) : (uns s).map (fun u => (u.r, (s.drop u.at_).take u.size)) = chop s := by
  have := unsFrom_chop s s.length 0 (by omega)
  rwa [List.drop_zero] at this
theorem unsFrom_room (s : List UInt8) : ∀ (k i : Nat), s.length - i ≤ k → ∀ u ∈ unsFrom s i, u.at_ + u.size ≤ s.length ∧ 1 ≤ u.size ∧ u.r < 2097152
  | k, i, hk, u, hu => by
    by_cases h : i < s.length
    · have := dec_pos (s.drop i)
      cases k with
      | zero => omega
      | succ k =>
        rw [unsFrom_lt h] at hu
        rcases List.mem_cons.1 hu with rfl | hu
        · exact ⟨dec_room h, dec_pos _, dec_r _⟩
        · exact unsFrom_room s k _ (by omega) u hu
    · rw [unsFrom_ge (by omega)] at hu; cases hu
theorem uns_room (s : List UInt8) : ∀ u ∈ uns s, u.at_ + u.size ≤ s.length ∧ 1 ≤ u.size ∧ u.r < 2097152 := unsFrom_room s s.length 0 (by omega)
theorem unsFrom_length (s : List UInt8) : ∀ (k i : Nat), s.length - i ≤ k → (unsFrom s i).length ≤ s.length - i
  | k, i, hk => by
    by_cases h : i < s.length
    · have := dec_pos (s.drop i)
      cases k with
      | zero => omega
      | succ k =>
        rw [unsFrom_lt h, List.length_cons]
        have := unsFrom_length s k (i + (dec (s.drop i)).2) (by omega)
        omega
    · rw [unsFrom_ge (by omega)]; simp
theorem uns_length (s : List UInt8) : (uns s).length ≤ s.length := by
  have := unsFrom_length s s.length 0 (by omega)
  exact Nat.le_trans this (Nat.sub_le ..)
def Un.ok (u : Un) : Bool := u.r != 65533 || u.size == 3
def validN (s : ByteArray) : Bool := (uns s.data.toList).all Un.ok
def revN (s : ByteArray) : ByteArray := ⟨(revL s.data.toList).toArray⟩
theorem valid_okL {s : ByteArray} (h : validN s = true) : okL s.data.toList := by
  intro p hp
  rw [← uns_chop] at hp
  obtain ⟨u, hu, rfl⟩ := List.mem_map.1 hp
  have h1 := List.all_eq_true.1 h u hu
  have h2 := (uns_room _ u hu).1
  simp only [Un.ok, Bool.or_eq_true, bne_iff_ne, beq_iff_eq] at h1
  rcases h1 with h1 | h1
  · exact .inl h1
  · refine .inr ?_
    show ((s.data.toList.drop u.at_).take u.size).length = 3
    rw [List.length_take, List.length_drop, ← h1]; omega
theorem revN_inj {s t : ByteArray} (hs : validN s = true) (ht : validN t = true) (h : revN s = revN t) : s = t := by
  have h1 : revL s.data.toList = revL t.data.toList := by
    have := congrArg (fun b : ByteArray => b.data.toList) h
    simpa [revN] using this
  have h2 := revL_inj (valid_okL hs) (valid_okL ht) h1
  obtain ⟨⟨x⟩⟩ := s; obtain ⟨⟨y⟩⟩ := t
  simp at h2; rw [h2]
end Go.Kw
namespace Go.Kw
section
variable {α : Type} {R : α → α → Prop} [DecidableRel R]
def lbR (R : α → α → Prop) [DecidableRel R] (l : List α) (x : α) : Nat := (l.takeWhile fun y => decide (R y x)).length
def insR (R : α → α → Prop) [DecidableRel R] (l : List α) (x : α) : List α := l.take (lbR R l x) ++ x :: l.drop (lbR R l x)
theorem lbR_le (l : List α) (x : α) : lbR R l x ≤ l.length := (List.takeWhile_sublist _).length_le
theorem lbR_cons_pos {y x : α} {r : List α} (h : R y x) : lbR R (y :: r) x = lbR R r x + 1 := by simp [lbR, h]
theorem lbR_cons_neg {y x : α} {r : List α} (h : ¬ R y x) : lbR R (y :: r) x = 0 := by simp [lbR, h]
theorem lbR_lt {x : α} : ∀ {l : List α} {k : Nat} {y : α}, k < lbR R l x → l[k]? = some y → R y x
  | [], k, y, h, hy => by simp at hy
  | z :: r, k, y, h, hy => by
    by_cases hz : R z x
    · rw [lbR_cons_pos hz] at h
      cases k with
      | zero => simp at hy; subst hy; exact hz
      | succ k => exact lbR_lt (l := r) (k := k) (by omega) (by simpa using hy)
    · rw [lbR_cons_neg hz] at h; omega
theorem lbR_at {x : α} : ∀ {l : List α} {y : α}, l[lbR R l x]? = some y → ¬ R y x
  | [], y, hy => by simp at hy
  | z :: r, y, hy => by
    by_cases hz : R z x
    · rw [lbR_cons_pos hz] at hy
      exact lbR_at (l := r) (by simpa using hy)
    · rw [lbR_cons_neg hz] at hy
      simp at hy; subst hy; exact hz
theorem lbR_eq {l : List α} {x : α} {k : Nat} (hk : k ≤ l.length) (h1 : ∀ j y, j < k → l[j]? = some y → R y x) (h2 : ∀ y, l[k]? = some y → ¬ R y x) : lbR R l x = k := by
  rcases Nat.lt_trichotomy (lbR R l x) k with h | h | h
  · have hlt : lbR R l x < l.length := by omega
    exact absurd (h1 _ _ h (List.getElem?_eq_getElem hlt)) (lbR_at (List.getElem?_eq_getElem hlt))
  · exact h
  · have hlt : k < l.length := by have := lbR_le (R := R) l x; omega
    exact absurd (lbR_lt h (List.getElem?_eq_getElem hlt)) (h2 _ (List.getElem?_eq_getElem hlt))
theorem insR_mem {l : List α} {x y : α} : y ∈ insR R l x ↔ y = x ∨ y ∈ l := by
  unfold insR
  rw [List.mem_append, List.mem_cons]
  constructor
  · rintro (h | h | h)
    · exact .inr (List.mem_of_mem_take h)
    · exact .inl h
    · exact .inr (List.mem_of_mem_drop h)
  · rintro (h | h)
    · exact .inr (.inl h)
    · rw [← List.take_append_drop (lbR R l x) l, List.mem_append] at h
      rcases h with h | h
      · exact .inl h
      · exact .inr (.inr h)
theorem insR_perm (l : List α) (x : α) : (insR R l x).Perm (x :: l) := by
  unfold insR
  have h := List.perm_middle (a := x) (l₁ := l.take (lbR R l x)) (l₂ := l.drop (lbR R l x))
  rwa [List.take_append_drop] at h
theorem insR_length (l : List α) (x : α) : (insR R l x).length = l.length + 1 := by simpa using (insR_perm (R := R) l x).length_eq
theorem insR_cons_pos {y x : α} {r : List α} (h : R y x) : insR R (y :: r) x = y :: insR R r x := by simp [insR, lbR_cons_pos h]
theorem insR_cons_neg {y x : α} {r : List α} (h : ¬ R y x) : insR R (y :: r) x = x :: y :: r := by simp [insR, lbR_cons_neg h]
theorem insR_asc (tr : ∀ {a b c}, R a b → R b c → R a c) {x : α} : ∀ {l : List α}, l.Pairwise R → (∀ y ∈ l, ¬ R y x → R x y) → (insR R l x).Pairwise R
  | [], _, _ => by simp [insR]
  | y :: r, hl, hx => by
    obtain ⟨h1, h2⟩ := List.pairwise_cons.1 hl
    by_cases h : R y x
    · rw [insR_cons_pos h, List.pairwise_cons]
      refine ⟨fun z hz => ?_, insR_asc tr h2 fun z hz => hx z (List.mem_cons_of_mem _ hz)⟩
      rcases insR_mem.1 hz with rfl | hz
      · exact h
      · exact h1 z hz
    · have hxy := hx y (List.mem_cons_self ..) h
      rw [insR_cons_neg h, List.pairwise_cons]
      refine ⟨fun z hz => ?_, hl⟩
      rcases List.mem_cons.1 hz with rfl | hz
      · exact hxy
      · exact tr hxy (h1 z hz)
theorem asc_unique (irr : ∀ a, ¬ R a a) (tr : ∀ {a b c}, R a b → R b c → R a c) : ∀ {a b : List α}, a.Pairwise R → b.Pairwise R → (∀ x, x ∈ a ↔ x ∈ b) → a = b
  | [], [], _, _, _ => rfl
  | [], y :: r, _, _, h => by have := (h y).2 (List.mem_cons_self ..); cases this
  | x :: r, [], _, _, h => by have := (h x).1 (List.mem_cons_self ..); cases this
  | x :: r, y :: s, ha, hb, h => by
    obtain ⟨a1, a2⟩ := List.pairwise_cons.1 ha
    obtain ⟨b1, b2⟩ := List.pairwise_cons.1 hb
    have hxy : x = y := by
      rcases List.mem_cons.1 ((h x).1 (List.mem_cons_self ..)) with e | e
      · exact e
      · rcases List.mem_cons.1 ((h y).2 (List.mem_cons_self ..)) with e' | e'
        · exact e'.symm
        · exact absurd (tr (a1 y e') (b1 x e)) (irr x)
    subst hxy
    rw [asc_unique irr tr a2 b2 fun z => ?_]
    constructor
    · intro hz
      rcases List.mem_cons.1 ((h z).1 (List.mem_cons_of_mem _ hz)) with e | e
      · subst e; exact absurd (a1 z hz) (irr z)
      · exact e
    · intro hz
      rcases List.mem_cons.1 ((h z).2 (List.mem_cons_of_mem _ hz)) with e | e
      · subst e; exact absurd (b1 z hz) (irr z)
      · exact e
theorem lbR_get (irr : ∀ a, ¬ R a a) (asy : ∀ {a b}, R a b → ¬ R b a) {x : α} : ∀ {l : List α}, l.Pairwise R → x ∈ l → l[lbR R l x]? = some x
  | [], _, h => by cases h
  | y :: r, hl, h => by
    obtain ⟨h1, h2⟩ := List.pairwise_cons.1 hl
    rcases List.mem_cons.1 h with rfl | h
    · rw [lbR_cons_neg (irr _)]; rfl
    · rw [lbR_cons_pos (h1 x h)]; simpa using lbR_get irr asy h2 h
end
def SLt (a b : ByteArray) : Prop := a.data.toList < b.data.toList
instance : DecidableRel SLt := fun a b => inferInstanceAs (Decidable (a.data.toList < b.data.toList))
theorem bytes_ext {a b : ByteArray} (h : a.data.toList = b.data.toList) : a = b := by
  obtain ⟨⟨x⟩⟩ := a; obtain ⟨⟨y⟩⟩ := b
  simp at h; rw [h]
theorem SLt.irr (a : ByteArray) : ¬ SLt a a := List.lt_irrefl _
theorem SLt.tr {a b c : ByteArray} (h : SLt a b) (k : SLt b c) : SLt a c := List.lt_trans h k
theorem SLt.asy {a b : ByteArray} (h : SLt a b) : ¬ SLt b a := fun k => SLt.irr a (h.tr k)
theorem SLt.tri {a b : ByteArray} (h : ¬ SLt a b) (k : a ≠ b) : SLt b a := by
  rcases Decidable.em (SLt b a) with h' | h'
  · exact h'
  · exact absurd (bytes_ext (List.le_antisymm (List.not_lt.1 h') (List.not_lt.1 h))) k
abbrev Asc (l : List ByteArray) : Prop := l.Pairwise SLt
abbrev lbW (l : List ByteArray) (w : ByteArray) : Nat := lbR SLt l w
theorem Asc.eq {a b : List ByteArray} (ha : Asc a) (hb : Asc b) (h : ∀ x, x ∈ a ↔ x ∈ b) : a = b := asc_unique SLt.irr SLt.tr ha hb h
theorem Asc.get {l : List ByteArray} (h : Asc l) {w : ByteArray} (hw : w ∈ l) : l[lbW l w]? = some w := lbR_get SLt.irr SLt.asy h hw
theorem Asc.ins {l : List ByteArray} (h : Asc l) {w : ByteArray} (hw : w ∉ l) : Asc (insR SLt l w) := insR_asc (R := SLt) (fun h k => SLt.tr h k) h fun y hy hn => SLt.tri hn fun (e : y = w) => hw (e ▸ hy)
theorem Asc.lt {l : List ByteArray} (h : Asc l) {i j : Nat} {x y : ByteArray} (hx : l[i]? = some x) (hy : l[j]? = some y) (hij : i < j) : SLt x y := by
  obtain ⟨h1, rfl⟩ := List.getElem?_eq_some_iff.1 hx
  obtain ⟨h2, rfl⟩ := List.getElem?_eq_some_iff.1 hy
  exact List.pairwise_iff_getElem.1 h i j h1 h2 hij
theorem Asc.inj {l : List ByteArray} (h : Asc l) {i j : Nat} {x : ByteArray} (hx : l[i]? = some x) (hy : l[j]? = some x) : i = j := by
  rcases Nat.lt_trichotomy i j with e | e | e
  · exact absurd (h.lt hx hy e) (SLt.irr x)
  · exact e
  · exact absurd (h.lt hy hx e) (SLt.irr x)
theorem snoc_ind {α : Type} {M : List α → Prop} (h0 : M []) (h1 : ∀ l x, M l → M (l ++ [x])) (l : List α) : M l := by
  have : ∀ r : List α, M r.reverse := fun r => by
    induction r with
    | nil => exact h0
    | cons x r ih => rw [List.reverse_cons]; exact h1 _ _ ih
  simpa using this l.reverse
def cnt (vs : List ByteArray) (w : ByteArray) : Nat := vs.countP fun x => decide (x = w)
theorem cnt_snoc (vs : List ByteArray) (v w : ByteArray) : cnt (vs ++ [v]) w = cnt vs w + (if v = w then 1 else 0) := by
  simp only [cnt, List.countP_append, List.countP_cons, List.countP_nil, decide_eq_true_eq]; omega
theorem cnt_zero {vs : List ByteArray} {w : ByteArray} (h : w ∉ vs) : cnt vs w = 0 := List.countP_eq_zero.2 fun x hx => by simp; exact fun e => h (e ▸ hx)
theorem cnt_pos {vs : List ByteArray} {w : ByteArray} (h : w ∈ vs) : 1 ≤ cnt vs w := List.countP_pos_iff.2 ⟨w, h, by simp⟩
theorem cnt_le (vs : List ByteArray) (w : ByteArray) : cnt vs w ≤ vs.length := List.countP_le_length
def addW (W : List ByteArray) (v : ByteArray) : List ByteArray := if W[lbW W v]? = some v then W else insR SLt W v
def wordsN (vs : List ByteArray) : List ByteArray := vs.foldl addW []
def countsN (vs : List ByteArray) : List Nat := (wordsN vs).map (cnt vs)
theorem wordsN_snoc (vs : List ByteArray) (v : ByteArray) : wordsN (vs ++ [v]) = addW (wordsN vs) v := by simp [wordsN]
theorem addW_spec {W : List ByteArray} (h : Asc W) (v : ByteArray) : Asc (addW W v) ∧ ∀ x, x ∈ addW W v ↔ x = v ∨ x ∈ W := by
  unfold addW
  split
  · rename_i hk
    have hm := List.mem_of_getElem? hk
    exact ⟨h, fun x => ⟨.inr, fun hx => hx.elim (fun e => e ▸ hm) id⟩⟩
  · rename_i hk
    have hn : v ∉ W := fun hm => hk (h.get hm)
    exact ⟨h.ins hn, fun x => insR_mem⟩
theorem wordsN_spec (vs : List ByteArray) : Asc (wordsN vs) ∧ ∀ x, x ∈ wordsN vs ↔ x ∈ vs := by
  induction vs using snoc_ind with
  | h0 => exact ⟨List.Pairwise.nil, fun x => Iff.rfl⟩
  | h1 vs v ih =>
    rw [wordsN_snoc]
    obtain ⟨h1, h2⟩ := addW_spec ih.1 v
    refine ⟨h1, fun x => ?_⟩
    rw [h2, ih.2, List.mem_append, List.mem_singleton]
    exact Or.comm
theorem wordsN_asc (vs : List ByteArray) : Asc (wordsN vs) := (wordsN_spec vs).1
theorem wordsN_mem {vs : List ByteArray} {x : ByteArray} : x ∈ wordsN vs ↔ x ∈ vs := (wordsN_spec vs).2 x
theorem wordsN_get {vs : List ByteArray} {v : ByteArray} (h : v ∈ vs) : (wordsN vs)[lbW (wordsN vs) v]? = some v := (wordsN_asc vs).get (wordsN_mem.2 h)
theorem addW_length (W : List ByteArray) (v : ByteArray) : W.length ≤ (addW W v).length ∧ (addW W v).length ≤ W.length + 1 := by
  unfold addW
  split
  · omega
  · rw [insR_length]; omega
theorem wordsN_length (vs : List ByteArray) : (wordsN vs).length ≤ vs.length := by
  induction vs using snoc_ind with
  | h0 => simp [wordsN]
  | h1 vs v ih =>
    rw [wordsN_snoc, List.length_append]
    have := (addW_length (wordsN vs) v).2
    simp; omega
theorem countsN_length (vs : List ByteArray) : (countsN vs).length = (wordsN vs).length := by simp [countsN]
theorem counts_found {vs : List ByteArray} {v : ByteArray} (h : (wordsN vs)[lbW (wordsN vs) v]? = some v) :
    ∃ c, (countsN vs)[lbW (wordsN vs) v]? = some c ∧ countsN (vs ++ [v]) = (countsN vs).set (lbW (wordsN vs) v) (c + 1) := by
  refine ⟨cnt vs v, by simp [countsN, h], ?_⟩
  have e : wordsN (vs ++ [v]) = wordsN vs := by rw [wordsN_snoc, addW, if_pos h]
  unfold countsN
  rw [e]
  have hlt := (List.getElem?_eq_some_iff.1 h).1
  apply List.ext_getElem?
  intro j
  rw [List.getElem?_set]
  by_cases hj : lbW (wordsN vs) v = j
  · subst hj
    rw [if_pos rfl, List.getElem?_map, h, if_pos (by simpa using hlt)]
    simp [cnt_snoc]
  · rw [if_neg hj, List.getElem?_map, List.getElem?_map]
    cases hx : (wordsN vs)[j]? with
    | none => rfl
    | some x =>
      have : v ≠ x := fun e => hj ((wordsN_asc vs).inj h (e ▸ hx))
      simp [cnt_snoc, this]
theorem counts_new {vs : List ByteArray} {v : ByteArray} (h : ¬ (wordsN vs)[lbW (wordsN vs) v]? = some v) :
    countsN (vs ++ [v]) = (countsN vs).take (lbW (wordsN vs) v) ++ 1 :: (countsN vs).drop (lbW (wordsN vs) v) := by
  have hn : v ∉ vs := fun hm => h (wordsN_get hm)
  have e : wordsN (vs ++ [v]) = insR SLt (wordsN vs) v := by rw [wordsN_snoc, addW, if_neg h]
  unfold countsN
  rw [e, insR, List.map_append, List.map_cons, ← List.map_take, ← List.map_drop]
  have e1 : ∀ l : List ByteArray, (∀ x ∈ l, x ∈ wordsN vs) → l.map (cnt (vs ++ [v])) = l.map (cnt vs) := fun l hl => List.map_congr_left fun x hx => by
    have : v ≠ x := fun e => hn (e ▸ wordsN_mem.1 (hl x hx))
    simp [cnt_snoc, this]
  rw [e1 _ fun x hx => List.mem_of_mem_take hx, e1 _ fun x hx => List.mem_of_mem_drop hx, cnt_snoc, if_pos rfl, cnt_zero hn]
theorem words_of_sorted {vs K : List ByteArray} (hn : K.Nodup) (hm : ∀ x, x ∈ K ↔ x ∈ vs) :
    (((K.map fun s => s.data.toList).mergeSort fun x y => decide (x ≤ y)).map fun l => (⟨l.toArray⟩ : ByteArray)) = wordsN vs := by
  have hp := List.mergeSort_perm (K.map fun s => s.data.toList) (fun x y => decide (x ≤ y))
  have hs : ((K.map fun s => s.data.toList).mergeSort fun x y => decide (x ≤ y)).Pairwise fun x y => decide (x ≤ y) = true := List.pairwise_mergeSort (fun a b c h1 h2 => by simp at *; exact List.le_trans h1 h2) (fun a b => by simp; exact List.le_total a b) _
  have hnd : ((K.map fun s => s.data.toList).mergeSort fun x y => decide (x ≤ y)).Nodup := by
    refine (List.Perm.nodup_iff hp).2 ?_
    rw [List.Nodup, List.pairwise_map]
    exact hn.imp fun h e => h (bytes_ext e)
  refine Asc.eq ?_ (wordsN_asc vs) fun x => ?_
  · show List.Pairwise SLt _
    rw [List.pairwise_map]
    refine (hs.and hnd).imp fun {a b} h => ?_
    obtain ⟨h1, h2⟩ := h
    show a < b
    simp at h1
    rcases Decidable.em (a < b) with h3 | h3
    · exact h3
    · exact absurd (List.le_antisymm h1 (List.not_lt.1 h3)) h2
  · rw [wordsN_mem, ← hm, List.mem_map]
    constructor
    · rintro ⟨l, hl, rfl⟩
      obtain ⟨s, hs', rfl⟩ := List.mem_map.1 (hp.mem_iff.1 hl)
      have : (⟨s.data.toList.toArray⟩ : ByteArray) = s := by simp
      rw [this]; exact hs'
    · intro hx
      exact ⟨x.data.toList, hp.mem_iff.2 (List.mem_map.2 ⟨x, hx, rfl⟩), by simp⟩
def rvN (W : List ByteArray) (i : Nat) : ByteArray := revN (W.getD i ByteArray.empty)
def RLt (W : List ByteArray) (i j : Nat) : Prop := SLt (rvN W i) (rvN W j)
instance (W : List ByteArray) : DecidableRel (RLt W) := fun i j => inferInstanceAs (Decidable (SLt _ _))
def okW (W : List ByteArray) : Prop := Asc W ∧ ∀ w ∈ W, validN w = true
theorem okW.rv_inj {W : List ByteArray} (h : okW W) {i j : Nat} (hi : i < W.length) (hj : j < W.length) (e : rvN W i = rvN W j) : i = j := by
  have hi' : W[i]? = some W[i] := List.getElem?_eq_getElem hi
  have hj' : W[j]? = some W[j] := List.getElem?_eq_getElem hj
  have e1 : W.getD i ByteArray.empty = W[i] := by simp [List.getD_eq_getElem?_getD, hi']
  have e2 : W.getD j ByteArray.empty = W[j] := by simp [List.getD_eq_getElem?_getD, hj']
  unfold rvN at e
  rw [e1, e2] at e
  have := revN_inj (h.2 _ (List.getElem_mem hi)) (h.2 _ (List.getElem_mem hj)) e
  exact h.1.inj hi' (by rw [hj', ← this])
theorem okW.tri {W : List ByteArray} (h : okW W) {i j : Nat} (hi : i < W.length) (hj : j < W.length) (hne : i ≠ j) (hn : ¬ RLt W i j) : RLt W j i := SLt.tri hn fun e => hne (h.rv_inj hi hj e)
def ordF (W : List ByteArray) (n : Nat) : List Nat := (List.range n).foldl (insR (RLt W)) []
def ordN (W : List ByteArray) : List Nat := ordF W W.length
theorem ordF_succ (W : List ByteArray) (n : Nat) : ordF W (n + 1) = insR (RLt W) (ordF W n) n := by simp [ordF, List.range_succ]
theorem ordF_perm (W : List ByteArray) : ∀ n, (ordF W n).Perm (List.range n)
  | 0 => by simp [ordF]
  | n + 1 => by
    rw [ordF_succ, List.range_succ]
    exact (insR_perm _ _).trans (((ordF_perm W n).cons n).trans (List.perm_append_singleton n (List.range n)).symm)
theorem ordF_asc {W : List ByteArray} (h : okW W) : ∀ n, n ≤ W.length → (ordF W n).Pairwise (RLt W)
  | 0, _ => by simp [ordF]
  | n + 1, hn => by
    rw [ordF_succ]
    refine insR_asc (R := RLt W) (fun h1 h2 => SLt.tr h1 h2) (ordF_asc h n (by omega)) fun y hy hny => ?_
    have := List.mem_range.1 ((ordF_perm W n).mem_iff.1 hy)
    exact h.tri (by omega) (by omega) (by omega) hny
theorem ordN_perm (W : List ByteArray) : (ordN W).Perm (List.range W.length) := ordF_perm W _
theorem ordN_mem {W : List ByteArray} {i : Nat} : i ∈ ordN W ↔ i < W.length := by rw [(ordN_perm W).mem_iff, List.mem_range]
theorem ordN_unique {W : List ByteArray} (h : okW W) {l : List Nat} (hp : l.Perm (List.range W.length)) (hs : l.Pairwise fun i j => ¬ RLt W j i) : l = ordN W := by
  have hnd : l.Nodup := hp.nodup_iff.2 List.nodup_range
  refine asc_unique (R := RLt W) (fun a => SLt.irr _) (fun h1 h2 => SLt.tr h1 h2) ?_ (ordF_asc h _ (Nat.le_refl _)) fun x => ?_
  · have hm : ∀ x ∈ l, x < W.length := fun x hx => List.mem_range.1 (hp.mem_iff.1 hx)
    rw [List.pairwise_iff_getElem] at hs ⊢
    intro i j hi hj hij
    refine h.tri (hm _ (List.getElem_mem hj)) (hm _ (List.getElem_mem hi)) (fun e => ?_) (hs i j hi hj hij)
    have := (List.getElem?_inj hj hnd (j := i)).1 (by rw [List.getElem?_eq_getElem hj, List.getElem?_eq_getElem hi, e])
    omega
  · rw [hp.mem_iff, List.mem_range, ordN_mem]
end Go.Kw
