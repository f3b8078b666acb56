/-
  M01: plain facts on strings as units (layer 1): what 'range' over a string meets, valid strings, strings in reverse. No program in sight.
-/
import Derived.WalkKit
import Derived.Lib.DecodeN
set_option linter.unusedSimpArgs false
set_option linter.unusedVariables false
set_option linter.unusedSectionVars false
namespace Go.Kw
open Go.Lib

/-- Byte k of a list, 0 beyond its end. -/
def gb (l : List UInt8) (k : Nat) : Nat := (l.getD k 0).toNat
/-- The code point with which the bytes begin, and its width. -/
def dec (l : List UInt8) : Nat × Nat := decodeN l.length (gb l 0) (gb l 1) (gb l 2) (gb l 3)

theorem get_data (s : ByteArray) (i : Nat) : (s.get! i).toNat = gb s.data.toList i := by
  unfold gb
  show (s.data[i]!).toNat = _
  rw [List.getD_eq_getElem?_getD, Array.getElem?_toList]
  by_cases h : i < s.data.size
  · rw [getElem!_pos s.data i h, Array.getElem?_eq_getElem h]; rfl
  · rw [getElem!_neg s.data i h, Array.getElem?_eq_none (by omega)]; rfl
theorem gb_drop (l : List UInt8) (i k : Nat) : gb (l.drop i) k = gb l (i + k) := by
  unfold gb; simp [List.getD_eq_getElem?_getD]
theorem decode_dec (s : ByteArray) (i : Nat) : Utf8.decode s i = dec (s.data.toList.drop i) := by
  rw [decode_at]
  unfold dec
  rw [gb_drop, gb_drop, gb_drop, gb_drop, get_data, get_data, get_data, get_data]
  have : s.size - i = (s.data.toList.drop i).length := by rw [List.length_drop, Array.length_toList]; rfl
  rw [this]; rfl

theorem decodeN_pos (n b0 b1 b2 b3 : Nat) : 1 ≤ (decodeN n b0 b1 b2 b3).2 ∧ (decodeN n b0 b1 b2 b3).2 ≤ 4 := by
  unfold decodeN
  repeat' split
  all_goals exact ⟨by simp, by simp⟩
theorem decodeN_le (n b0 b1 b2 b3 : Nat) (hn : 1 ≤ n) : (decodeN n b0 b1 b2 b3).2 ≤ n := by
  unfold decodeN
  repeat' split
  all_goals simp only [] at *
  all_goals omega
theorem decodeN_r (n b0 b1 b2 b3 : Nat) : (decodeN n b0 b1 b2 b3).1 < 2097152 := by
  unfold decodeN
  repeat' split
  all_goals simp only []
  all_goals omega
theorem decodeN_cut {n m b0 b1 b2 b3 c1 c2 c3 : Nat} {p : Nat × Nat} (hp : decodeN n b0 b1 b2 b3 = p) (hg : p.1 ≠ 65533 ∨ p.2 = 3) (hm : p.2 ≤ m) (e1 : 1 < p.2 → c1 = b1) (e2 : 2 < p.2 → c2 = b2) (e3 : 3 < p.2 → c3 = b3) :
    decodeN m b0 c1 c2 c3 = p := by
  unfold decodeN at hp
  split at hp
  · subst hp; unfold decodeN; rename_i h; rw [if_pos h]
  rename_i h0
  split at hp
  · rename_i h1
    split at hp
    · rename_i h2
      subst hp
      have := e1 (by simp); subst this
      unfold decodeN
      rw [if_neg h0, if_pos ⟨h1.1, by simp at hm; omega, h1.2.2⟩, if_pos h2]
    · subst hp; simp at hg
  rename_i h1
  split at hp
  · rename_i h2
    split at hp
    · rename_i h3
      subst hp
      have := e1 (by simp); subst this
      have := e2 (by simp); subst this
      unfold decodeN
      rw [if_neg h0, if_neg (fun h => by omega), if_pos ⟨h2.1, ⟨by simp at hm; omega, h2.2.1.2⟩, ⟨by simp at hm; omega, h2.2.2.2⟩⟩, if_pos h3]
    · subst hp; simp at hg
  rename_i h2
  split at hp
  · rename_i h3
    split at hp
    · rename_i h4
      subst hp
      have := e1 (by simp); subst this
      have := e2 (by simp); subst this
      have := e3 (by simp); subst this
      unfold decodeN
      rw [if_neg h0, if_neg (fun h => by omega), if_neg (fun h => by omega), if_pos ⟨h3.1, ⟨by simp at hm; omega, h3.2.1.2⟩, ⟨by simp at hm; omega, h3.2.2.1.2⟩, ⟨by simp at hm; omega, h3.2.2.2.2⟩⟩, if_pos h4]
    · subst hp; simp at hg
  · subst hp; simp at hg

theorem dec_pos (l : List UInt8) : 1 ≤ (dec l).2 := (decodeN_pos ..).1
theorem dec_le4 (l : List UInt8) : (dec l).2 ≤ 4 := (decodeN_pos ..).2
theorem dec_le {l : List UInt8} (h : l ≠ []) : (dec l).2 ≤ l.length := decodeN_le _ _ _ _ _ (List.length_pos_iff.2 h)
theorem dec_r (l : List UInt8) : (dec l).1 < 2097152 := decodeN_r ..

theorem gb_append {u t : List UInt8} {k : Nat} (h : k < u.length) : gb (u ++ t) k = gb u k := by
  unfold gb; simp [List.getD_eq_getElem?_getD, List.getElem?_append, h]
theorem gb_take {l : List UInt8} {w k : Nat} (h : k < w) : gb (l.take w) k = gb l k := by
  unfold gb; simp [List.getD_eq_getElem?_getD, List.getElem?_take, h]

/-- A code point that is not a byte out of place. -/
def okU (p : Nat × Nat) : Prop := p.1 ≠ 65533 ∨ p.2 = 3
theorem dec_append {u t : List UInt8} (h : okU (dec u)) (hl : (dec u).2 = u.length) : dec (u ++ t) = dec u := by
  have h1 := dec_pos u
  have hl' : (decodeN u.length (gb u 0) (gb u 1) (gb u 2) (gb u 3)).2 = u.length := hl
  unfold dec
  rw [gb_append (k := 0) (by omega)]
  exact decodeN_cut (n := u.length) (b1 := gb u 1) (b2 := gb u 2) (b3 := gb u 3) rfl h (by show (dec u).2 ≤ _; rw [hl]; simp) (fun hk => gb_append (by rw [hl'] at hk; exact hk)) (fun hk => gb_append (by rw [hl'] at hk; exact hk)) (fun hk => gb_append (by rw [hl'] at hk; exact hk))
theorem dec_take {l : List UInt8} (hne : l ≠ []) (h : okU (dec l)) : dec (l.take (dec l).2) = dec l := by
  have h1 := dec_pos l
  have h2 := dec_le hne
  have e0 : gb (l.take (dec l).2) 0 = gb l 0 := gb_take (by omega)
  have hlen : (l.take (dec l).2).length = (dec l).2 := by rw [List.length_take]; omega
  show decodeN _ _ _ _ _ = _
  rw [e0, hlen]
  exact decodeN_cut (n := l.length) (b1 := gb l 1) (b2 := gb l 2) (b3 := gb l 3) rfl h (Nat.le_refl _) (fun hk => gb_take hk) (fun hk => gb_take hk) (fun hk => gb_take hk)

/-- The units of bytes: their code points, their bytes. -/
def chop (l : List UInt8) : List (Nat × List UInt8) :=
  if h : l = [] then [] else ((dec l).1, l.take (dec l).2) :: chop (l.drop (dec l).2)
termination_by l.length
decreasing_by
  have := dec_pos l
  have := List.length_pos_iff.2 h
  simp only [List.length_drop]; omega
theorem chop_nil : chop [] = [] := by rw [chop]; simp
theorem chop_cons {l : List UInt8} (h : l ≠ []) : chop l = ((dec l).1, l.take (dec l).2) :: chop (l.drop (dec l).2) := by rw [chop, dif_neg h]

theorem chop_ind {M : List UInt8 → Prop} (h0 : M []) (h1 : ∀ l, l ≠ [] → M (l.drop (dec l).2) → M l) : ∀ l, M l := fun l => by
  generalize hn : l.length = n
  induction n using Nat.strongRecOn generalizing l with
  | _ n ih =>
    by_cases h : l = []
    · rw [h]; exact h0
    · have := dec_pos l
      have := List.length_pos_iff.2 h
      exact h1 l h (ih _ (by simp only [List.length_drop]; omega) _ rfl)

theorem chop_concat (l : List UInt8) : (chop l).flatMap (·.2) = l := by
  induction l using chop_ind with
  | h0 => rw [chop_nil]; rfl
  | h1 l h ih => rw [chop_cons h, List.flatMap_cons, ih]; exact List.take_append_drop ..

/-- A unit as it stands alone. -/
def okP (p : Nat × List UInt8) : Prop := dec p.2 = (p.1, p.2.length) ∧ okU (p.1, p.2.length) ∧ p.2 ≠ []
def okB (p : Nat × List UInt8) : Prop := p.1 ≠ 65533 ∨ p.2.length = 3

theorem chop_ok (l : List UInt8) (h : ∀ p ∈ chop l, okB p) : ∀ p ∈ chop l, okP p := by
  induction l using chop_ind with
  | h0 => rw [chop_nil]; simp
  | h1 l hne ih =>
    rw [chop_cons hne] at h ⊢
    have h2 := dec_le hne
    have h1 := dec_pos l
    have hlen : (l.take (dec l).2).length = (dec l).2 := by rw [List.length_take]; omega
    intro p hp
    rcases List.mem_cons.1 hp with rfl | hp
    · have hb := h _ (List.mem_cons_self ..)
      have hb' : okU (dec l) := by
        rcases hb with hb | hb
        · exact .inl hb
        · exact .inr (by rw [hlen] at hb; exact hb)
      refine ⟨?_, ?_, ?_⟩
      · show dec (l.take (dec l).2) = ((dec l).1, (l.take (dec l).2).length)
        rw [dec_take hne hb', hlen]
      · show okU ((dec l).1, (l.take (dec l).2).length)
        rw [hlen]; exact hb'
      · intro he
        have := congrArg List.length he
        simp only [List.length_nil] at this
        have h3 : (l.take (dec l).2).length = 0 := this
        omega
    · exact ih (fun q hq => h q (List.mem_cons_of_mem _ hq)) p hp

theorem chop_units : ∀ (ps : List (Nat × List UInt8)), (∀ p ∈ ps, okP p) → chop (ps.flatMap (·.2)) = ps
  | [], _ => chop_nil
  | p :: r, h => by
    obtain ⟨h1, h2, h3⟩ := h p (List.mem_cons_self ..)
    have ih := chop_units r (fun q hq => h q (List.mem_cons_of_mem _ hq))
    have hd : dec (p.2 ++ r.flatMap (·.2)) = (p.1, p.2.length) := by rw [dec_append (by rw [h1]; exact h2) (by rw [h1]), h1]
    rw [List.flatMap_cons, chop_cons (by simp [h3]), hd]
    simp only [List.take_left', List.drop_left']
    rw [ih]

/-- The bytes in reverse, unit by unit. -/
def revL (l : List UInt8) : List UInt8 := (chop l).reverse.flatMap (·.2)
def okL (l : List UInt8) : Prop := ∀ p ∈ chop l, okB p
theorem chop_rev {l : List UInt8} (h : okL l) : chop (revL l) = (chop l).reverse := chop_units _ fun p hp => chop_ok l h p (List.mem_reverse.1 hp)
theorem revL_inj {l m : List UInt8} (hl : okL l) (hm : okL m) (h : revL l = revL m) : l = m := by
  have h1 := chop_rev hl
  rw [h, chop_rev hm] at h1
  rw [← chop_concat l, ← chop_concat m, List.reverse_inj.1 h1]

/-! ### The units with their places -/
structure Un where
  r : Nat
  at_ : Nat
  size : Nat
def unsFrom (s : List UInt8) (i : Nat) : List Un :=
  if h : i < s.length then ⟨(dec (s.drop i)).1, i, (dec (s.drop i)).2⟩ :: unsFrom s (i + (dec (s.drop i)).2) else []
termination_by s.length - i
decreasing_by have := dec_pos (s.drop i); omega
def uns (s : List UInt8) : List Un := unsFrom s 0
theorem unsFrom_lt {s : List UInt8} {i : Nat} (h : i < s.length) : unsFrom s i = ⟨(dec (s.drop i)).1, i, (dec (s.drop i)).2⟩ :: unsFrom s (i + (dec (s.drop i)).2) := by rw [unsFrom, dif_pos h]
theorem unsFrom_ge {s : List UInt8} {i : Nat} (h : s.length ≤ i) : unsFrom s i = [] := by rw [unsFrom, dif_neg (by omega)]
theorem dec_room {s : List UInt8} {i : Nat} (h : i < s.length) : i + (dec (s.drop i)).2 ≤ s.length := by
  have := dec_le (l := s.drop i) (fun he => by have := congrArg List.length he; simp at this; omega)
  rw [List.length_drop] at this; omega
theorem unsFrom_chop (s : List UInt8) : ∀ (k i : Nat), s.length - i ≤ k → (unsFrom s i).map (fun u => (u.r, (s.drop u.at_).take u.size)) = chop (s.drop i)
  | k, i, hk => by
    by_cases h : i < s.length
    · have hne : s.drop i ≠ [] := fun he => by have := congrArg List.length he; simp at this; omega
      have := dec_pos (s.drop i)
      cases k with
      | zero => omega
      | succ k =>
        rw [unsFrom_lt h, chop_cons hne, List.map_cons, unsFrom_chop s k _ (by omega), List.drop_drop]
    · rw [unsFrom_ge (by omega), List.drop_eq_nil_of_le (by omega), chop_nil]; rfl
theorem uns_chop (s : List UInt8) : (uns s).map (fun u => (u.r, (s.drop u.at_).take u.size)) = chop s := by
  have := unsFrom_chop s s.length 0 (by omega)
  rwa [List.drop_zero] at this
theorem unsFrom_room (s : List UInt8) : ∀ (k i : Nat), s.length - i ≤ k → ∀ u ∈ unsFrom s i, u.at_ + u.size ≤ s.length ∧ 1 ≤ u.size ∧ u.r < 2097152
  | k, i, hk, u, hu => by
    by_cases h : i < s.length
    · have := dec_pos (s.drop i)
      cases k with
      | zero => omega
      | succ k =>
        rw [unsFrom_lt h] at hu
        rcases List.mem_cons.1 hu with rfl | hu
        · exact ⟨dec_room h, dec_pos _, dec_r _⟩
        · exact unsFrom_room s k _ (by omega) u hu
    · rw [unsFrom_ge (by omega)] at hu; cases hu
theorem uns_room (s : List UInt8) : ∀ u ∈ uns s, u.at_ + u.size ≤ s.length ∧ 1 ≤ u.size ∧ u.r < 2097152 := unsFrom_room s s.length 0 (by omega)
theorem unsFrom_length (s : List UInt8) : ∀ (k i : Nat), s.length - i ≤ k → (unsFrom s i).length ≤ s.length - i
  | k, i, hk => by
    by_cases h : i < s.length
    · have := dec_pos (s.drop i)
      cases k with
      | zero => omega
      | succ k =>
        rw [unsFrom_lt h, List.length_cons]
        have := unsFrom_length s k (i + (dec (s.drop i)).2) (by omega)
        omega
    · rw [unsFrom_ge (by omega)]; simp
theorem uns_length (s : List UInt8) : (uns s).length ≤ s.length := by
  have := unsFrom_length s s.length 0 (by omega)
  exact Nat.le_trans this (Nat.sub_le ..)

def Un.ok (u : Un) : Bool := u.r != 65533 || u.size == 3
/-- The string is valid. -/
def validN (s : ByteArray) : Bool := (uns s.data.toList).all Un.ok
def revN (s : ByteArray) : ByteArray := ⟨(revL s.data.toList).toArray⟩
theorem valid_okL {s : ByteArray} (h : validN s = true) : okL s.data.toList := by
  intro p hp
  rw [← uns_chop] at hp
  obtain ⟨u, hu, rfl⟩ := List.mem_map.1 hp
  have h1 := List.all_eq_true.1 h u hu
  have h2 := (uns_room _ u hu).1
  simp only [Un.ok, Bool.or_eq_true, bne_iff_ne, beq_iff_eq] at h1
  rcases h1 with h1 | h1
  · exact .inl h1
  · refine .inr ?_
    show ((s.data.toList.drop u.at_).take u.size).length = 3
    rw [List.length_take, List.length_drop, ← h1]; omega
theorem revN_inj {s t : ByteArray} (hs : validN s = true) (ht : validN t = true) (h : revN s = revN t) : s = t := by
  have h1 : revL s.data.toList = revL t.data.toList := by
    have := congrArg (fun b : ByteArray => b.data.toList) h
    simpa [revN] using this
  have h2 := revL_inj (valid_okL hs) (valid_okL ht) h1
  obtain ⟨⟨x⟩⟩ := s; obtain ⟨⟨y⟩⟩ := t
  simp at h2; rw [h2]
end Go.Kw
