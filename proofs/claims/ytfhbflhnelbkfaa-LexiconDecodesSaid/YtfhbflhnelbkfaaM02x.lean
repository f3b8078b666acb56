/-
  M02s: the references of the layers 2, 3 and 15 compute what the program computes. No program in sight.
-/
import Derived.Test.YtfhbflhnelbkfaaM03c
import Derived.Test.YtfhbflhnelbkfaaM02u
set_option linter.unusedSimpArgs false
set_option linter.unusedVariables false
set_option linter.unusedSectionVars false
namespace Go.Kw
theorem uv_stepR {v : Nat} (hv : v < 2 ^ 64) (h : 128 ≤ v) : uv v = (v % 128 + 128) :: uv (v / 128) := by
  rw [uv_step v hv h]
  have := or128 (v % 2 ^ 8) (by omega)
  have e : (v % 2 ^ 8 ||| 128) = v % 128 + 128 := by
    obtain ⟨h1, h2, h3⟩ := this
    omega
  rw [e]
theorem uv_smallR {v : Nat} (h : v < 128) : uv v = [v] := by rw [uv_small v h, Nat.mod_eq_of_lt (by omega)]
theorem lowB_mod (x w : Nat) : ∀ m, m ≤ w → lowB (x % 2 ^ w) m = lowB x m
  | 0, _ => rfl
  | m + 1, h => by
    rw [lowB, lowB, lowB_mod x w m (by omega)]
    congr 2
    have e : 2 ^ w = 2 ^ m * 2 ^ (w - m) := by rw [← Nat.pow_add]; congr 1; omega
    rw [e, Nat.mod_mul_right_div_self, Nat.mod_mod_of_dvd _ (Nat.pow_dvd_pow 2 (by omega))]
/-- The bytes of the first k bits, the rest 0. -/
def pkT (l : List Bool) (k : Nat) : List Nat := (List.range ((l.length + 7) / 8)).map (byteAt (l.take k))
theorem pkT_length (l : List Bool) (k : Nat) : (pkT l k).length = (l.length + 7) / 8 := by simp [pkT]
theorem pkT_zero (l : List Bool) : pkT l 0 = List.replicate ((l.length + 7) / 8) 0 := by
  rw [pkT, List.eq_replicate_iff]
  refine ⟨by simp, fun b hb => ?_⟩
  obtain ⟨k, _, rfl⟩ := List.mem_map.1 hb
  rw [List.take_zero]; exact byteAt_out [] k (by simp)
theorem pkT_all (l : List Bool) : pkT l l.length = packB l := by rw [pkT, List.take_length]; rfl
theorem pkT_get {l : List Bool} {k : Nat} (h : k < l.length) : (pkT l k)[k / 8]? = some (byteAt (l.take k) (k / 8)) := by
  rw [pkT, List.getElem?_map, List.getElem?_range (by omega)]; rfl
theorem pkT_lt (l : List Bool) (k : Nat) : ∀ x ∈ pkT l k, x < 256 := fun x hx => by
  obtain ⟨j, _, rfl⟩ := List.mem_map.1 hx; exact byteAt_lt _ _
theorem pkT_false {l : List Bool} {k : Nat} (h : l[k]? = some false) : pkT l (k + 1) = pkT l k := by
  have hk := lt_of_get h
  refine List.map_congr_left fun j _ => ?_
  rw [take_succ_of h, byteAt_snoc]
  split
  · simp [bitv]
  · rfl
theorem pkT_true {l : List Bool} {k : Nat} (h : l[k]? = some true) : pkT l (k + 1) = (pkT l k).set (k / 8) (byteAt (l.take k) (k / 8) ||| 128 / 2 ^ (k % 8)) := by
  have hk := lt_of_get h
  have ht : (l.take k).length = k := by simp; omega
  apply List.ext_getElem?
  intro j
  rcases Nat.lt_or_ge j ((l.length + 7) / 8) with hj | hj
  · rw [List.getElem?_set, pkT, List.getElem?_map, List.getElem?_range hj, pkT, List.getElem?_map, List.getElem?_range hj]
    simp only [Option.map_some, List.length_map, List.length_range]
    rw [take_succ_of h, byteAt_snoc, ht]
    by_cases e : k / 8 = j
    · rw [if_pos e.symm, if_pos e, if_pos (by omega), e]; simp [bitv]
    · rw [if_neg (fun q => e q.symm), if_neg e]
  · rw [List.getElem?_eq_none (by simp [pkT]; omega), List.getElem?_eq_none (by simp [pkT]; omega)]
/-! ## Checksum -/
theorem xor_mod2 (a b : Nat) : (a ^^^ b) % 2 = (a + b) % 2 := by
  have h := Nat.xor_mod_two_pow (a := a) (b := b) (n := 1)
  rw [Nat.pow_one] at h
  rw [h]
  rcases Nat.mod_two_eq_zero_or_one a with ha | ha <;> rcases Nat.mod_two_eq_zero_or_one b with hb | hb <;> (rw [ha, hb, Nat.add_mod, ha, hb]; rfl)
theorem xor_div2 (a b : Nat) : (a ^^^ b) / 2 = a / 2 ^^^ b / 2 := by
  have := Nat.xor_div_two (a := a) (b := b)
  exact this
theorem st1_xor (a b : Nat) : st1 (a ^^^ b) = st1 a ^^^ st1 b := by
  unfold st1
  have h1 := xor_mod2 a b
  have h2 := xor_div2 a b
  simp only [Nat.pow_one]
  rw [h2, h1]
  rcases Nat.mod_two_eq_zero_or_one a with ha | ha <;> rcases Nat.mod_two_eq_zero_or_one b with hb | hb
  · rw [if_neg (by omega), if_neg (by omega), if_neg (by omega)]
  · rw [if_pos (by omega), if_neg (by omega), if_pos (by omega), Nat.xor_assoc]
  · rw [if_pos (by omega), if_pos (by omega), if_neg (by omega), Nat.xor_assoc, Nat.xor_assoc, Nat.xor_comm (b / 2)]
  · rw [if_neg (by omega), if_pos (by omega), if_pos (by omega)]
    rw [Nat.xor_assoc, ← Nat.xor_assoc 2197175160, Nat.xor_comm 2197175160 (b / 2), Nat.xor_assoc, Nat.xor_self, Nat.xor_zero]
theorem stepN_xor (a b : Nat) : ∀ n, stepN (a ^^^ b) n = stepN a n ^^^ stepN b n
  | 0 => rfl
  | n + 1 => by rw [stepN, stepN, stepN, stepN_xor a b n, st1_xor]
theorem stepN_even (q : Nat) : ∀ n m, stepN (q * 2 ^ (n + m)) n = q * 2 ^ m
  | 0, m => by simp [stepN]
  | n + 1, m => by
    rw [stepN, show n + 1 + m = n + (m + 1) by omega, stepN_even q n (m + 1), st1, Nat.pow_succ, ← Nat.mul_assoc]
    rw [if_neg (by omega)]; omega
theorem split16 (v : Nat) : v = (v / 2 ^ 4) * 2 ^ 4 ^^^ v % 2 ^ 4 := by
  have h := or_high (v := v % 2 ^ 4) (x := v / 2 ^ 4) (k := 4) (Nat.mod_lt _ (by decide))
  have : v % 2 ^ 4 ^^^ (v / 2 ^ 4) * 2 ^ 4 = v % 2 ^ 4 + (v / 2 ^ 4) * 2 ^ 4 := by
    apply Nat.eq_of_testBit_eq
    intro i
    have e := congrArg (fun z => Nat.testBit z i) h
    simp only [Nat.testBit_or] at e
    rw [Nat.testBit_xor, ← e]
    rcases Nat.lt_or_ge i 4 with hi | hi
    · rw [Nat.testBit_mul_two_pow]
      simp [show ¬ (4 ≤ i) by omega]
    · rw [Nat.testBit_lt_two_pow (x := v % 2 ^ 4) (i := i) (Nat.lt_of_lt_of_le (Nat.mod_lt _ (by decide)) (Nat.pow_le_pow_right (by decide) hi))]
      simp
  rw [Nat.xor_comm, this]; omega
theorem stepN_four (v : Nat) : stepN v 4 = crcB v := by
  conv => lhs; rw [split16 v]
  rw [stepN_xor, crcB]
  have := stepN_even (v / 2 ^ 4) 4 0
  rw [Nat.add_zero, Nat.pow_zero, Nat.mul_one] at this
  rw [this]; rfl
theorem stepN_add (v a : Nat) : ∀ b, stepN v (a + b) = stepN (stepN v a) b
  | 0 => rfl
  | b + 1 => by rw [← Nat.add_assoc, stepN, stepN, stepN_add v a b]
theorem stepN_eight (v c : Nat) : stepN (v ^^^ c) 8 = crc1 v c := by
  rw [show 8 = 4 + 4 from rfl, stepN_add, stepN_four, stepN_four]; rfl
end Go.Kw
