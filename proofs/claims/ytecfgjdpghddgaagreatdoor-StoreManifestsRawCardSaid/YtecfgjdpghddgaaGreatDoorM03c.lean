/-
  M03: plain functions of layer 3 (checksum). No program in sight.
-/
import Derived.Test.YtecfgjdpghddgaaGreatDoorM02
import Derived.Test.YtecfgjdpghddgaaGreatDoorKp
set_option linter.unusedVariables false
set_option linter.unusedSimpArgs false
set_option linter.unusedSectionVars false
namespace Go.Kw
theorem snocInd {α : Type} {P : List α → Prop} (h0 : P []) (h1 : ∀ l x, P l → P (l ++ [x])) (l : List α) : P l := by
  rw [← List.reverse_reverse l]
  induction l.reverse with
  | nil => exact h0
  | cons x r ih => rw [List.reverse_cons]; exact h1 _ _ ih
def st1 (v : Nat) : Nat := if v % 2 ^ 1 = 1 then v / 2 ^ 1 ^^^ 2197175160 else v / 2 ^ 1
def stepN (v : Nat) : Nat → Nat
  | 0 => v
  | n + 1 => st1 (stepN v n)
def tabE (i : Nat) : Nat := stepN i 4
def crcA (v c : Nat) : Nat := v ^^^ c
def crcB (a : Nat) : Nat := a / 2 ^ 4 ^^^ tabE (a % 2 ^ 4)
def crc1 (v c : Nat) : Nat := crcB (crcB (crcA v c))
def crcF (l : List Nat) : Nat := l.foldl crc1 4294967295
theorem crcF_snoc (l : List Nat) (c : Nat) : crcF (l ++ [c]) = crc1 (crcF l) c := by simp [crcF]
def sumN (l : List Nat) : Nat := 4294967295 ^^^ crcF l
def byts (v : Nat) : List Nat := [v % 2 ^ 8, v / 2 ^ 8 % 2 ^ 8, v / 2 ^ 16 % 2 ^ 8, v / 2 ^ 24 % 2 ^ 8]
def sealN (l : List Nat) : List Nat := l ++ byts (sumN l)
theorem byts_lt (v : Nat) : ∀ x ∈ byts v, x < 256 := fun x hx => by
  simp only [byts, List.mem_cons, List.not_mem_nil, or_false] at hx
  omega
theorem sealN_length (l : List Nat) : (sealN l).length = l.length + 4 := by simp [sealN, byts]
theorem xor_lt32 {a b : Nat} (ha : a < 4294967296) (hb : b < 4294967296) : a ^^^ b < 4294967296 := by
  have := Nat.xor_lt_two_pow (n := 32) (x := a) (y := b) (by omega) (by omega); omega
theorem st1_lt {v : Nat} (h : v < 4294967296) : st1 v < 4294967296 := by
  unfold st1
  split
  · exact xor_lt32 (by omega) (by omega)
  · omega
theorem stepN_lt {v : Nat} (h : v < 4294967296) : ∀ n, stepN v n < 4294967296
  | 0 => h
  | n + 1 => st1_lt (stepN_lt h n)
theorem tabE_lt {i : Nat} (h : i < 16) : tabE i < 4294967296 := stepN_lt (by omega) 4
theorem crcB_lt {a : Nat} (h : a < 4294967296) : crcB a < 4294967296 := xor_lt32 (by omega) (tabE_lt (by omega))
theorem crcF_lt : ∀ (l : List Nat), (∀ x ∈ l, x < 256) → crcF l < 4294967296 := by
  refine snocInd (fun _ => by simp [crcF]) fun l c ih h => ?_
  rw [crcF_snoc]
  have h1 := ih fun x hx => h x (by simp [hx])
  have h2 := h c (by simp)
  exact crcB_lt (crcB_lt (xor_lt32 h1 (by omega)))
theorem sumN_lt {l : List Nat} (h : ∀ x ∈ l, x < 256) : sumN l < 4294967296 := xor_lt32 (by omega) (crcF_lt l h)
def crcTab : List Nat := (List.range 16).map tabE
def tabU (k : Nat) : List Nat := (List.range k).map tabE ++ List.replicate (16 - k) 0
theorem tabU_length {k : Nat} (h : k ≤ 16) : (tabU k).length = 16 := by simp [tabU]; omega
theorem tabU_set {k : Nat} (h : k < 16) : (tabU k).set k (tabE k) = tabU (k + 1) := by
  unfold tabU
  rw [List.set_append_right _ _ (by simp), show 16 - k = (16 - (k + 1)) + 1 by omega, List.replicate_succ, List.range_succ]
  simp
theorem tabU_all : tabU 16 = crcTab := by simp [tabU, crcTab]
theorem crcTab_get {i : Nat} (h : i < 16) : crcTab[i]? = some (tabE i) := by simp [crcTab, h]
end Go.Kw
namespace Go.Kw
theorem or_high {v x k : Nat} (h : v < 2 ^ k) : v ||| x * 2 ^ k = v + x * 2 ^ k := by
  rw [Nat.or_comm, Nat.add_comm, ← Nat.shiftLeft_eq, Nat.shiftLeft_add_eq_or_of_lt h]
end Go.Kw
namespace Go.Kw
theorem xor_mod2 (a b : Nat) : (a ^^^ b) % 2 = (a + b) % 2 := by
  have h := Nat.xor_mod_two_pow (a := a) (b := b) (n := 1)
  rw [Nat.pow_one] at h
  rw [h]
  rcases Nat.mod_two_eq_zero_or_one a with ha | ha <;> rcases Nat.mod_two_eq_zero_or_one b with hb | hb <;> (rw [ha, hb, Nat.add_mod, ha, hb]; rfl)
theorem xor_div2 (a b : Nat) : (a ^^^ b) / 2 = a / 2 ^^^ b / 2 := by
  have := Nat.xor_div_two (a := a) (b := b)
  exact this
theorem st1_xor (a b : Nat) : st1 (a ^^^ b) = st1 a ^^^ st1 b := by
  unfold st1
  have h1 := xor_mod2 a b
  have h2 := xor_div2 a b
  simp only [Nat.pow_one]
  rw [h2, h1]
  rcases Nat.mod_two_eq_zero_or_one a with ha | ha <;> rcases Nat.mod_two_eq_zero_or_one b with hb | hb
  · rw [if_neg (by omega), if_neg (by omega), if_neg (by omega)]
  · rw [if_pos (by omega), if_neg (by omega), if_pos (by omega), Nat.xor_assoc]
  · rw [if_pos (by omega), if_pos (by omega), if_neg (by omega), Nat.xor_assoc, Nat.xor_assoc, Nat.xor_comm (b / 2)]
  · rw [if_neg (by omega), if_pos (by omega), if_pos (by omega)]
    rw [Nat.xor_assoc, ← Nat.xor_assoc 2197175160, Nat.xor_comm 2197175160 (b / 2), Nat.xor_assoc, Nat.xor_self, Nat.xor_zero]
theorem stepN_xor (a b : Nat) : ∀ n, stepN (a ^^^ b) n = stepN a n ^^^ stepN b n
  | 0 => rfl
  | n + 1 => by rw [stepN, stepN, stepN, stepN_xor a b n, st1_xor]
theorem stepN_even (q : Nat) : ∀ n m, stepN (q * 2 ^ (n + m)) n = q * 2 ^ m
  | 0, m => by simp [stepN]
  | n + 1, m => by
    rw [stepN, show n + 1 + m = n + (m + 1) by omega, stepN_even q n (m + 1), st1, Nat.pow_succ, ← Nat.mul_assoc]
    rw [if_neg (by omega)]; omega
theorem split16 (v : Nat) : v = (v / 2 ^ 4) * 2 ^ 4 ^^^ v % 2 ^ 4 := by
  have h := or_high (v := v % 2 ^ 4) (x := v / 2 ^ 4) (k := 4) (Nat.mod_lt _ (by decide))
  have : v % 2 ^ 4 ^^^ (v / 2 ^ 4) * 2 ^ 4 = v % 2 ^ 4 + (v / 2 ^ 4) * 2 ^ 4 := by
    apply Nat.eq_of_testBit_eq
    intro i
    have e := congrArg (fun z => Nat.testBit z i) h
    simp only [Nat.testBit_or] at e
    rw [Nat.testBit_xor, ← e]
    rcases Nat.lt_or_ge i 4 with hi | hi
    · rw [Nat.testBit_mul_two_pow]
      simp [show ¬ (4 ≤ i) by omega]
    · rw [Nat.testBit_lt_two_pow (x := v % 2 ^ 4) (i := i) (Nat.lt_of_lt_of_le (Nat.mod_lt _ (by decide)) (Nat.pow_le_pow_right (by decide) hi))]
      simp
  rw [Nat.xor_comm, this]; omega
theorem stepN_four (v : Nat) : stepN v 4 = crcB v := by
  conv => lhs; rw [split16 v]
  rw [stepN_xor, crcB]
  have := stepN_even (v / 2 ^ 4) 4 0
  rw [Nat.add_zero, Nat.pow_zero, Nat.mul_one] at this
  rw [this]; rfl
theorem stepN_add (v a : Nat) : ∀ b, stepN v (a + b) = stepN (stepN v a) b
  | 0 => rfl
  | b + 1 => by rw [← Nat.add_assoc, stepN, stepN, stepN_add v a b]
theorem stepN_eight (v c : Nat) : stepN (v ^^^ c) 8 = crc1 v c := by
  rw [show 8 = 4 + 4 from rfl, stepN_add, stepN_four, stepN_four]; rfl
end Go.Kw
