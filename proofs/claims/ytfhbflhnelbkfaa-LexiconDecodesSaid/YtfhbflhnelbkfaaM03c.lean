/-
  M03: plain functions of layer 3 (checksum). No program in sight.
-/
import Derived.Test.YtfhbflhnelbkfaaM02
import Derived.Test.YtfhbflhnelbkfaaKn
set_option linter.unusedSimpArgs false
set_option linter.unusedVariables false
set_option linter.unusedSectionVars false
namespace Go.Kw
theorem snocInd {α : Type} {P : List α → Prop} (h0 : P []) (h1 : ∀ l x, P l → P (l ++ [x])) (l : List α) : P l := by
  rw [← List.reverse_reverse l]
  induction l.reverse with
  | nil => exact h0
  | cons x r ih => rw [List.reverse_cons]; exact h1 _ _ ih
def st1 (v : Nat) : Nat := if v % 2 ^ 1 = 1 then v / 2 ^ 1 ^^^ 2197175160 else v / 2 ^ 1
def stepN (v : Nat) : Nat → Nat
  | 0 => v
  | n + 1 => st1 (stepN v n)
def tabE (i : Nat) : Nat := stepN i 4
def crcA (v c : Nat) : Nat := v ^^^ c
def crcB (a : Nat) : Nat := a / 2 ^ 4 ^^^ tabE (a % 2 ^ 4)
def crc1 (v c : Nat) : Nat := crcB (crcB (crcA v c))
def crcF (l : List Nat) : Nat := l.foldl crc1 4294967295
theorem crcF_snoc (l : List Nat) (c : Nat) : crcF (l ++ [c]) = crc1 (crcF l) c := by simp [crcF]
def sumN (l : List Nat) : Nat := 4294967295 ^^^ crcF l
def byts (v : Nat) : List Nat := [v % 2 ^ 8, v / 2 ^ 8 % 2 ^ 8, v / 2 ^ 16 % 2 ^ 8, v / 2 ^ 24 % 2 ^ 8]
def sealN (l : List Nat) : List Nat := l ++ byts (sumN l)
theorem byts_lt (v : Nat) : ∀ x ∈ byts v, x < 256 := fun x hx => by
  simp only [byts, List.mem_cons, List.not_mem_nil, or_false] at hx
  omega
theorem sealN_length (l : List Nat) : (sealN l).length = l.length + 4 := by simp [sealN, byts]
theorem xor_lt32 {a b : Nat} (ha : a < 4294967296) (hb : b < 4294967296) : a ^^^ b < 4294967296 := by
  have := Nat.xor_lt_two_pow (n := 32) (x := a) (y := b) (by omega) (by omega); omega
theorem st1_lt {v : Nat} (h : v < 4294967296) : st1 v < 4294967296 := by
  unfold st1
  split
  · exact xor_lt32 (by omega) (by omega)
  · omega
theorem stepN_lt {v : Nat} (h : v < 4294967296) : ∀ n, stepN v n < 4294967296
  | 0 => h
  | n + 1 => st1_lt (stepN_lt h n)
theorem tabE_lt {i : Nat} (h : i < 16) : tabE i < 4294967296 := stepN_lt (by omega) 4
theorem crcB_lt {a : Nat} (h : a < 4294967296) : crcB a < 4294967296 := xor_lt32 (by omega) (tabE_lt (by omega))
theorem crcF_lt : ∀ (l : List Nat), (∀ x ∈ l, x < 256) → crcF l < 4294967296 := by
  refine snocInd (fun _ => by simp [crcF]) fun l c ih h => ?_
  rw [crcF_snoc]
  have h1 := ih fun x hx => h x (by simp [hx])
  have h2 := h c (by simp)
  exact crcB_lt (crcB_lt (xor_lt32 h1 (by omega)))
theorem sumN_lt {l : List Nat} (h : ∀ x ∈ l, x < 256) : sumN l < 4294967296 := xor_lt32 (by omega) (crcF_lt l h)
def crcTab : List Nat := (List.range 16).map tabE
def tabU (k : Nat) : List Nat := (List.range k).map tabE ++ List.replicate (16 - k) 0
theorem tabU_length {k : Nat} (h : k ≤ 16) : (tabU k).length = 16 := by simp [tabU]; omega
theorem tabU_set {k : Nat} (h : k < 16) : (tabU k).set k (tabE k) = tabU (k + 1) := by
  unfold tabU
  rw [List.set_append_right _ _ (by simp), show 16 - k = (16 - (k + 1)) + 1 by omega, List.replicate_succ, List.range_succ]
  simp
theorem tabU_all : tabU 16 = crcTab := by simp [tabU, crcTab]
theorem crcTab_get {i : Nat} (h : i < 16) : crcTab[i]? = some (tabE i) := by simp [crcTab, h]
end Go.Kw
