/-
  M02r: numbers of variable length and bits read back. No program in sight.
-/
import Derived.Test.YtfhbflhnelbkfaaM03c
set_option linter.unusedSimpArgs false
set_option linter.unusedVariables false
set_option linter.unusedSectionVars false
namespace Go.Kw
theorem drop_of_get {α : Type} {l : List α} {k : Nat} {x : α} (h : l[k]? = some x) : l.drop k = x :: l.drop (k + 1) := by
  obtain ⟨hk, rfl⟩ := List.getElem?_eq_some_iff.1 h
  exact List.drop_eq_getElem_cons hk
/-- Number, bytes taken, error. -/
def uvr : Nat → Nat → List Nat → Nat × Nat × Nat
  | _, _, [] => (0, 0, 10)
  | i, v, c :: r => if i = 9 ∧ c ≠ 1 then (0, 0, 9) else if c < 128 then (if c = 0 ∧ 0 < i then (0, 0, 9) else (v + c % 2 ^ 7 * 2 ^ (7 * i), i + 1, 0)) else uvr (i + 1) (v + c % 2 ^ 7 * 2 ^ (7 * i)) r
def uvR (l : List Nat) : Nat × Nat × Nat := uvr 0 0 l
theorem uvr_le : ∀ (l : List Nat) (i v : Nat), (uvr i v l).2.1 ≤ i + l.length
  | [], i, v => by simp [uvr]
  | c :: r, i, v => by
    have ih := uvr_le r (i + 1) (v + c % 2 ^ 7 * 2 ^ (7 * i))
    rw [uvr]
    simp only [List.length_cons]
    split
    · simp
    · split
      · split
        · simp
        · simp <;> omega
      · omega
theorem uvR_le (l : List Nat) : (uvR l).2.1 ≤ l.length := by have := uvr_le l 0 0; rw [Nat.zero_add] at this; exact this
theorem or_high {v x k : Nat} (h : v < 2 ^ k) : v ||| x * 2 ^ k = v + x * 2 ^ k := by
  rw [Nat.or_comm, Nat.add_comm, ← Nat.shiftLeft_eq, Nat.shiftLeft_add_eq_or_of_lt h]
theorem pow7_le {k : Nat} (h : k ≤ 8) : 2 ^ (7 * k) ≤ 2 ^ 56 := Nat.pow_le_pow_right (by decide) (by omega)
theorem uvr_small {c k : Nat} (hk : k ≤ 9) (h9 : ¬ (k = 9 ∧ c ≠ 1)) : c % 2 ^ 7 * 2 ^ (7 * k) < 2 ^ 64 := by
  by_cases h : k = 9
  · have : c = 1 := Classical.byContradiction fun hc => h9 ⟨h, hc⟩
    subst h; subst this; decide
  · have := pow7_le (by omega : k ≤ 8)
    have h2 : c % 2 ^ 7 * 2 ^ (7 * k) ≤ c % 2 ^ 7 * 2 ^ 56 := Nat.mul_le_mul_left _ this
    omega
theorem uvr_or {v c k : Nat} (hv : v < 2 ^ (7 * k)) (hk : k ≤ 9) (h9 : ¬ (k = 9 ∧ c ≠ 1)) : v ||| (c % 2 ^ 7 * 2 ^ (7 * k) % 2 ^ 64) = v + c % 2 ^ 7 * 2 ^ (7 * k) := by
  rw [Nat.mod_eq_of_lt (uvr_small hk h9), or_high hv]
theorem uvr_bound {v c k : Nat} (hv : v < 2 ^ (7 * k)) : v + c % 2 ^ 7 * 2 ^ (7 * k) < 2 ^ (7 * (k + 1)) := by
  have e : 2 ^ (7 * (k + 1)) = 2 ^ 7 * 2 ^ (7 * k) := by rw [← Nat.pow_add]; congr 1; omega
  have h : c % 2 ^ 7 * 2 ^ (7 * k) ≤ (2 ^ 7 - 1) * 2 ^ (7 * k) := Nat.mul_le_mul_right _ (by omega)
  rw [Nat.sub_mul] at h
  have : 2 ^ (7 * k) ≤ 2 ^ 7 * 2 ^ (7 * k) := Nat.le_mul_of_pos_left _ (by decide)
  rw [e]; omega
theorem or128 : ∀ y, y < 256 → (y ||| 128) % 2 ^ 7 = y % 2 ^ 7 ∧ 128 ≤ (y ||| 128) ∧ (y ||| 128) < 256 := by decide +kernel
theorem uvr_uvF : ∀ (f i v x : Nat) (rest : List Nat), x < 128 ^ (f + 1) → i + f = 9 → x * 2 ^ (7 * i) < 2 ^ 64 → (0 < x ∨ i = 0) → uvr i v (uvF f x ++ rest) = (v + x * 2 ^ (7 * i), i + (uvF f x).length, 0)
  | 0, i, v, x, rest, hx, hi, hb, h0 => by
    have hx1 : x < 128 := by simpa using hx
    have h9 : i = 9 := by omega
    subst h9
    have hx2 : x ≤ 1 := by omega
    have hx3 : x = 1 := by omega
    subst hx3
    simp [uvF, uvr]
  | f + 1, i, v, x, rest, hx, hi, hb, h0 => by
    rw [uvF]
    by_cases hs : x < 128
    · rw [if_pos hs]
      have e1 : x % 2 ^ 8 = x := Nat.mod_eq_of_lt (by omega)
      have e2 : x % 2 ^ 7 = x := Nat.mod_eq_of_lt (by omega)
      rw [e1, List.singleton_append, uvr, if_neg (by omega), if_pos hs, if_neg (by omega), e2]
      simp
    · rw [if_neg hs, List.cons_append]
      obtain ⟨h1, h2, h3⟩ := or128 (x % 2 ^ 8) (by omega)
      rw [uvr, if_neg (by omega), if_neg (Nat.not_lt.2 h2), h1]
      have hp : 2 ^ (7 * (i + 1)) = 2 ^ 7 * 2 ^ (7 * i) := by rw [← Nat.pow_add]; congr 1; omega
      have hdiv : x / 2 ^ 7 * 2 ^ (7 * (i + 1)) + x % 2 ^ 7 * 2 ^ (7 * i) = x * 2 ^ (7 * i) := by
        rw [hp, ← Nat.mul_assoc, ← Nat.add_mul]
        congr 1
        have := Nat.div_add_mod x (2 ^ 7); omega
      have hx7 : x < 2 ^ 7 * 128 ^ (f + 1) := by rw [Nat.pow_succ, Nat.mul_comm] at hx; exact hx
      have hb2 : x / 2 ^ 7 * 2 ^ (7 * (i + 1)) < 2 ^ 64 := Nat.lt_of_le_of_lt (by rw [← hdiv]; exact Nat.le_add_right _ _) hb
      have ih := uvr_uvF f (i + 1) (v + x % 2 ^ 8 % 2 ^ 7 * 2 ^ (7 * i)) (x / 2 ^ 7) rest (Nat.div_lt_of_lt_mul hx7) (by omega) hb2 (.inl (Nat.div_pos (by omega) (by decide)))
      rw [ih]
      have e8 : x % 2 ^ 8 % 2 ^ 7 = x % 2 ^ 7 := by omega
      rw [e8]
      simp only [List.length_cons, Prod.mk.injEq, and_true]
      refine ⟨?_, by rw [Nat.add_assoc, Nat.add_comm 1]⟩
      rw [← hdiv, Nat.add_assoc, Nat.add_comm (x % 2 ^ 7 * 2 ^ (7 * i))]
theorem uvR_uv {x : Nat} (h : x < 2 ^ 64) (rest : List Nat) : uvR (uv x ++ rest) = (x, (uv x).length, 0) := by
  have := uvr_uvF 9 0 0 x rest (by have : (2 : Nat) ^ 64 ≤ 128 ^ 10 := by decide
                                   omega) rfl (by simpa using h) (.inr rfl)
  simpa [uvR, uv] using this
end Go.Kw
