/-
  M15v: the reading of a block, step by step. No program in sight.
-/
import Derived.Test.YtfhbflhnelbkfaaM15u
namespace Go.Kw
def uX (b : List Nat) : Nat × Bool × List Nat := numN true b 128
def uY (b : List Nat) : Nat × Bool × List Nat := numN (uX b).2.1 (uX b).2.2 31
def uZ (b : List Nat) : Nat × Bool × List Nat := numN (uY b).2.1 (uY b).2.2 128
def uS (b : List Nat) : Nat := ((uX b).1 * (uY b).1 + 7) / 8
def uE (b : List Nat) : Option (List Nat) := exL (uY b).1 (uX b).1 (uZ b).1 (uZ b).2.1 ((uZ b).2.2.drop (uS b)) 0 (lowsN ((uZ b).2.2.take (uS b)) (uX b).1 (uY b).1)
theorem unpk_eq (b : List Nat) : unpk b = if (uZ b).2.1 = false ∨ (uZ b).2.2.length < uS b then none else match uE b with | none => none | some vs => if packBk vs = b then some vs else none := rfl
theorem unpk_no1 {b : List Nat} (h : (uZ b).2.1 = false ∨ (uZ b).2.2.length < uS b) : unpk b = none := by rw [unpk_eq, if_pos h]
theorem unpk_no2 {b : List Nat} (h : uE b = none) : unpk b = none := by rw [unpk_eq, h]; split <;> rfl
theorem unpk_fin {b vs : List Nat} (h1 : ¬ ((uZ b).2.1 = false ∨ (uZ b).2.2.length < uS b)) (h : uE b = some vs) : unpk b = if packBk vs = b then some vs else none := by rw [unpk_eq, if_neg h1, h]
theorem uX_le (b : List Nat) : (uX b).1 ≤ 128 := numN_le _ _ _
theorem uY_le (b : List Nat) : (uY b).1 ≤ 31 := numN_le _ _ _
theorem uZ_le (b : List Nat) : (uZ b).1 ≤ 128 := numN_le _ _ _
theorem uXY_le (b : List Nat) : (uX b).1 * (uY b).1 ≤ 128 * 31 := Nat.mul_le_mul (uX_le b) (uY_le b)
theorem uZ_mem (b : List Nat) : ∀ x ∈ (uZ b).2.2, x ∈ b := fun x hx => numN_mem _ _ _ x (numN_mem _ _ _ x (numN_mem _ _ _ x hx))
theorem uX_mem (b : List Nat) : ∀ x ∈ (uX b).2.2, x ∈ b := fun x hx => numN_mem _ _ _ x hx
theorem uY_mem (b : List Nat) : ∀ x ∈ (uY b).2.2, x ∈ b := fun x hx => uX_mem b x (numN_mem _ _ _ x hx)
theorem uX_len (b : List Nat) : (uX b).2.2.length ≤ b.length := numN_len _ _ _
theorem uY_len (b : List Nat) : (uY b).2.2.length ≤ b.length := Nat.le_trans (numN_len _ _ _) (uX_len b)
theorem uZ_len (b : List Nat) : (uZ b).2.2.length ≤ b.length := Nat.le_trans (numN_len _ _ _) (uY_len b)
def lowU (l : List Nat) (n w k : Nat) : List Nat := (List.range k).map (fun i => bvN l (w * i) w) ++ List.replicate (n - k) 0
theorem lowU_zero (l : List Nat) (n w : Nat) : lowU l n w 0 = List.replicate n 0 := by simp [lowU]
theorem lowU_length {l : List Nat} {n w k : Nat} (h : k ≤ n) : (lowU l n w k).length = n := by simp [lowU]; omega
theorem lowU_all (l : List Nat) (n w : Nat) : lowU l n w n = lowsN l n w := by simp [lowU, lowsN]
theorem lowU_set {l : List Nat} {n w k : Nat} (h : k < n) : (lowU l n w k).set k (bvN l (w * k) w) = lowU l n w (k + 1) := by
  unfold lowU
  rw [List.set_append_right _ _ (by simp), show n - k = (n - (k + 1)) + 1 by omega, List.replicate_succ, List.range_succ]
  simp
theorem lowsN_lt (l : List Nat) (n w : Nat) (hw : w ≤ 31) : ∀ x ∈ lowsN l n w, x ≤ 2147483647 := fun x hx => by
  obtain ⟨i, _, rfl⟩ := List.mem_map.1 hx
  have h1 := bvN_lt l (w * i) w
  have h2 : 2 ^ w ≤ 2 ^ 31 := Nat.pow_le_pow_right (by decide) hw
  omega
theorem lowsN_length (l : List Nat) (n w : Nat) : (lowsN l n w).length = n := by simp [lowsN]
theorem or_le31 {a b : Nat} (ha : a ≤ 2147483647) (hb : b ≤ 2147483647) : a ||| b ≤ 2147483647 := by
  have := Nat.or_lt_two_pow (n := 31) (x := a) (y := b) (by omega) (by omega); omega
theorem high_le {h w : Nat} (hh : h ≤ 2147483647 / 2 ^ w) : h * 2 ^ w ≤ 2147483647 := Nat.le_trans (Nat.mul_le_mul_right _ hh) (Nat.div_mul_le_self _ _)
end Go.Kw
