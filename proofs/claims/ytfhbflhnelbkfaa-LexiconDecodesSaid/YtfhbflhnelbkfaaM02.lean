/-
  M02: plain facts on numbers in groups of seven bits (layer 2). No program in sight.
-/
import Derived.WalkKit
import Derived.Lib.BitFns
set_option linter.unusedSimpArgs false
set_option linter.unusedVariables false
set_option linter.unusedSectionVars false
namespace Go.Kw

/-- The groups of seven bits of a number, at most f + 1 of them. -/
def uvF : Nat → Nat → List Nat
  | 0, v => [v % 256]
  | f + 1, v => if v < 128 then [v % 256] else (v % 256 ||| 128) :: uvF f (v / 128)
def uv (v : Nat) : List Nat := uvF 9 v

theorem uvF_succ : ∀ (f v : Nat), v < 128 ^ (f + 1) → uvF (f + 1) v = uvF f v
  | 0, v, h => by simp only [uvF]; rw [if_pos (by omega)]
  | f + 1, v, h => by
    have h2 : v / 128 < 128 ^ (f + 1) := by rw [Nat.pow_succ] at h; omega
    rw [uvF]
    conv => rhs; rw [uvF]
    rw [uvF_succ f (v / 128) h2]

theorem uv_step (v : Nat) (hv : v < 2 ^ 64) (h : 128 ≤ v) : uv v = (v % 2 ^ 8 ||| 128) :: uv (v / 2 ^ 7) := by
  unfold uv
  rw [uvF_succ 8 (v / 2 ^ 7) (by omega)]
  rw [uvF, if_neg (by omega)]
theorem uv_small (v : Nat) (h : v < 128) : uv v = [v % 2 ^ 8] := by unfold uv; rw [uvF, if_pos h]

theorem uvF_le : ∀ (f v : Nat), (uvF f v).length ≤ f + 1
  | 0, v => by simp [uvF]
  | f + 1, v => by
    rw [uvF]; split
    · simp
    · simp; exact uvF_le f _
theorem uv_le (v : Nat) : (uv v).length ≤ 10 := uvF_le 9 v
theorem uvF_pos : ∀ (f v : Nat), 1 ≤ (uvF f v).length
  | 0, v => by simp [uvF]
  | f + 1, v => by rw [uvF]; split <;> simp
theorem uv_pos (v : Nat) : 1 ≤ (uv v).length := uvF_pos 9 v
theorem uvF_lt : ∀ (f v : Nat), ∀ x ∈ uvF f v, x < 256
  | 0, v => by simp [uvF]; omega
  | f + 1, v => by
    rw [uvF]; split
    · simp; omega
    · intro x hx
      rcases List.mem_cons.1 hx with rfl | hx
      · exact Nat.or_lt_two_pow (n := 8) (by omega) (by omega)
      · exact uvF_lt f _ x hx
theorem uv_lt (v : Nat) : ∀ x ∈ uv v, x < 256 := uvF_lt 9 v

/-! ## Bits in bytes -/
def bitv (b : Bool) (m : Nat) : Nat := if b then m else 0
def bitAt (l : List Bool) (i : Nat) : Bool := l.getD i false
/-- Byte k of a list of bits, the first bit the most significant one. -/
def byteAt (l : List Bool) (k : Nat) : Nat :=
  bitv (bitAt l (8 * k)) 128 ||| (bitv (bitAt l (8 * k + 1)) 64 ||| (bitv (bitAt l (8 * k + 2)) 32 ||| (bitv (bitAt l (8 * k + 3)) 16 |||
    (bitv (bitAt l (8 * k + 4)) 8 ||| (bitv (bitAt l (8 * k + 5)) 4 ||| (bitv (bitAt l (8 * k + 6)) 2 ||| bitv (bitAt l (8 * k + 7)) 1))))))
def packB (l : List Bool) : List Nat := (List.range ((l.length + 7) / 8)).map (byteAt l)

theorem packB_length (l : List Bool) : (packB l).length = (l.length + 7) / 8 := by simp [packB]

theorem bitAt_snoc (l : List Bool) (x : Bool) (i : Nat) : bitAt (l ++ [x]) i = if i = l.length then x else bitAt l i := by
  unfold bitAt
  simp only [List.getD_eq_getElem?_getD]
  rcases Nat.lt_trichotomy i l.length with h | h | h
  · rw [List.getElem?_append_left h, if_neg (by omega)]
  · subst h; simp
  · rw [if_neg (by omega), List.getElem?_eq_none (by simp; omega), List.getElem?_eq_none (by omega)]
theorem bitAt_out (l : List Bool) (i : Nat) (h : l.length ≤ i) : bitAt l i = false := by
  unfold bitAt; rw [List.getD_eq_getElem?_getD, List.getElem?_eq_none h]; rfl

theorem byteAt_snoc (l : List Bool) (x : Bool) (k : Nat) : byteAt (l ++ [x]) k = if k = l.length / 8 then byteAt l k ||| bitv x (128 / 2 ^ (l.length % 8)) else byteAt l k := by
  by_cases hk : k = l.length / 8
  · rw [if_pos hk]
    have hr : l.length % 8 < 8 := Nat.mod_lt _ (by decide)
    have hn : l.length = 8 * k + l.length % 8 := by omega
    have out : ∀ j, l.length % 8 ≤ j → bitAt l (8 * k + j) = false := fun j hj => bitAt_out l _ (by omega)
    unfold byteAt
    simp only [bitAt_snoc]
    have z0 := out 0; have z1 := out 1; have z2 := out 2; have z3 := out 3; have z4 := out 4; have z5 := out 5; have z6 := out 6; have z7 := out 7
    rw [Nat.add_zero] at z0
    generalize l.length % 8 = r at *
    have hcase : r = 0 ∨ r = 1 ∨ r = 2 ∨ r = 3 ∨ r = 4 ∨ r = 5 ∨ r = 6 ∨ r = 7 := by omega
    rcases hcase with rfl | rfl | rfl | rfl | rfl | rfl | rfl | rfl <;>
      simp [hn, z0, z1, z2, z3, z4, z5, z6, z7, bitv, Nat.or_assoc]
  · rw [if_neg hk]
    have e : ∀ j, j < 8 → bitAt (l ++ [x]) (8 * k + j) = bitAt l (8 * k + j) := fun j hj => by rw [bitAt_snoc, if_neg (by omega)]
    unfold byteAt
    rw [show bitAt (l ++ [x]) (8 * k) = bitAt l (8 * k) from e 0 (by omega), e 1 (by omega), e 2 (by omega), e 3 (by omega), e 4 (by omega), e 5 (by omega), e 6 (by omega), e 7 (by omega)]

theorem byteAt_out (l : List Bool) (k : Nat) (h : l.length ≤ 8 * k) : byteAt l k = 0 := by
  unfold byteAt
  simp [bitAt_out l (8 * k) (by omega), bitAt_out l (8 * k + 1) (by omega), bitAt_out l (8 * k + 2) (by omega), bitAt_out l (8 * k + 3) (by omega), bitAt_out l (8 * k + 4) (by omega), bitAt_out l (8 * k + 5) (by omega),
    bitAt_out l (8 * k + 6) (by omega), bitAt_out l (8 * k + 7) (by omega), bitv]

theorem byteAt_lt (l : List Bool) (k : Nat) : byteAt l k < 256 := by
  have h : ∀ (b : Bool) (m : Nat), m < 256 → bitv b m < 2 ^ 8 := fun b m hm => by cases b <;> simp [bitv, hm]
  unfold byteAt
  have := fun a b (h1 : a < 2 ^ 8) (h2 : b < 2 ^ 8) => Nat.or_lt_two_pow h1 h2
  exact this _ _ (h _ _ (by decide)) (this _ _ (h _ _ (by decide)) (this _ _ (h _ _ (by decide)) (this _ _ (h _ _ (by decide)) (this _ _ (h _ _ (by decide)) (this _ _ (h _ _ (by decide)) (this _ _ (h _ _ (by decide)) (h _ _ (by decide))))))))
theorem packB_lt (l : List Bool) : ∀ x ∈ packB l, x < 256 := fun x hx => by
  obtain ⟨k, _, rfl⟩ := List.mem_map.1 hx; exact byteAt_lt l k

/-- The bytes with room for one bit more. -/
def roomB (l : List Bool) : List Nat := if l.length % 8 = 0 then packB l ++ [0] else packB l

theorem roomB_eq (l : List Bool) : roomB l = (List.range (l.length / 8 + 1)).map (byteAt l) := by
  unfold roomB packB
  split
  · rename_i h
    rw [show (l.length + 7) / 8 = l.length / 8 by omega, List.range_succ, List.map_append]
    simp only [List.map_cons, List.map_nil]
    rw [byteAt_out l _ (by omega)]
  · rw [show (l.length + 7) / 8 = l.length / 8 + 1 by omega]

theorem packB_snoc (l : List Bool) (x : Bool) : packB (l ++ [x]) = (List.range (l.length / 8 + 1)).map (byteAt (l ++ [x])) := by
  unfold packB
  rw [List.length_append, List.length_singleton, show (l.length + 1 + 7) / 8 = l.length / 8 + 1 by omega]

theorem packB_false (l : List Bool) : packB (l ++ [false]) = roomB l := by
  rw [packB_snoc, roomB_eq]
  apply List.map_congr_left
  intro k _
  rw [byteAt_snoc]; split <;> simp [bitv]

theorem roomB_length (l : List Bool) : (roomB l).length = l.length / 8 + 1 := by rw [roomB_eq]; simp
theorem roomB_get (l : List Bool) : (roomB l)[l.length / 8]? = some (byteAt l (l.length / 8)) := by rw [roomB_eq]; simp
theorem packB_true (l : List Bool) : packB (l ++ [true]) = (roomB l).set (l.length / 8) (byteAt l (l.length / 8) ||| 128 / 2 ^ (l.length % 8)) := by
  rw [packB_snoc, roomB_eq, List.range_succ, List.map_append, List.map_append, List.set_append_right _ _ (by simp)]
  simp only [List.map_cons, List.map_nil, List.length_map, List.length_range, Nat.sub_self, List.set_cons_zero]
  congr 1
  · apply List.map_congr_left
    intro k hk
    rw [byteAt_snoc, if_neg (by have := List.mem_range.1 hk; omega)]
  · rw [byteAt_snoc, if_pos rfl]; simp [bitv]

/-- The m lowest bits of x, the most significant one first. -/
def lowB (x : Nat) : Nat → List Bool
  | 0 => []
  | m + 1 => decide (x / 2 ^ m % 2 ^ 1 = 1) :: lowB x m
theorem lowB_length (x : Nat) : ∀ m, (lowB x m).length = m
  | 0 => rfl
  | m + 1 => by simp [lowB, lowB_length x m]

theorem take_succ_of {α : Type} {l : List α} {k : Nat} {x : α} (h : l[k]? = some x) : l.take (k + 1) = l.take k ++ [x] := by
  rw [List.take_add_one, h]; rfl
theorem lt_of_get {α : Type} {l : List α} {k : Nat} {x : α} (h : l[k]? = some x) : k < l.length := (List.getElem?_eq_some_iff.1 h).1
theorem mem_of_get {α : Type} {l : List α} {k : Nat} {x : α} (h : l[k]? = some x) : x ∈ l := List.mem_of_getElem? h

theorem bitLenAux_le : ∀ (f v n : Nat), v < 2 ^ n → Lib.bitLenAux f v ≤ n
  | 0, _, _, _ => Nat.zero_le _
  | f + 1, v, n, h => by
    unfold Lib.bitLenAux
    split
    · exact Nat.zero_le _
    · cases n with
      | zero => simp at h; omega
      | succ n =>
        have := bitLenAux_le f (v / 2) n (by rw [Nat.pow_succ] at h; omega)
        omega
theorem bitLen_le {v n : Nat} (h : v < 2 ^ n) : Lib.bitLen v ≤ n := bitLenAux_le 64 v n h
theorem bitLenAux_fuel_le : ∀ (f v : Nat), Lib.bitLenAux f v ≤ f
  | 0, _ => Nat.le_refl _
  | f + 1, v => by unfold Lib.bitLenAux; split; · omega
                   · have := bitLenAux_fuel_le f (v / 2); omega
theorem bitLen_le64 (v : Nat) : Lib.bitLen v ≤ 64 := bitLenAux_fuel_le 64 v
end Go.Kw
