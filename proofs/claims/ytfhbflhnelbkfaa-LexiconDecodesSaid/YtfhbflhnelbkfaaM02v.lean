/-
  M02V: what is read as a number with no error is the number's encoding. No program in sight.
-/
import Derived.Test.YtfhbflhnelbkfaaM02u
set_option linter.unusedSimpArgs false
set_option linter.unusedVariables false
set_option linter.unusedSectionVars false
namespace Go.Kw
theorem or128b : ∀ c, c < 128 → ∀ b, b < 2 → ((c + 128 * b) ||| 128) = c + 128 := by decide +kernel
theorem uvr_inv : ∀ (l : List Nat) (i v x k : Nat), (∀ y ∈ l, y < 256) → i ≤ 9 → uvr i v l = (x, k, 0) → ∃ y rest, l = uvF (9 - i) y ++ rest ∧ x = v + y * 2 ^ (7 * i) ∧ k = i + (uvF (9 - i) y).length ∧ (0 < i → 0 < y) ∧ (y < 2 ^ (64 - 7 * i))
  | [], i, v, x, k, _, _, h => by simp [uvr] at h
  | c :: r, i, v, x, k, hb, hi, h => by
    have hc : c < 256 := hb c (List.mem_cons_self ..)
    rw [uvr] at h
    split at h
    · simp at h
    · rename_i h9
      split at h
      · rename_i h128
        split at h
        · simp at h
        · rename_i h0
          simp only [Prod.mk.injEq, and_true] at h
          have hm : c % 2 ^ 7 = c := Nat.mod_eq_of_lt (by omega)
          have hf : ∀ f, uvF f c = [c % 2 ^ 8] := fun f => by unfold uvF; cases f <;> simp [h128]
          have h8 : c % 2 ^ 8 = c := Nat.mod_eq_of_lt (by omega)
          refine ⟨c, r, by rw [hf, h8]; rfl, by rw [← h.1, hm], by rw [hf, ← h.2]; rfl, fun hp => by omega, ?_⟩
          by_cases e : i = 9
          · have : c = 1 := Classical.byContradiction fun hne => h9 ⟨e, hne⟩
            subst e; subst this; decide
          · have h2 : 2 ^ 7 ≤ 2 ^ (64 - 7 * i) := Nat.pow_le_pow_right (by decide) (by omega)
            omega
      · rename_i h128
        have hi9 : i < 9 := by
          rcases Nat.lt_or_ge i 9 with h' | h'
          · exact h'
          · exact absurd ⟨by omega, by omega⟩ h9
        obtain ⟨y, rest, e1, e2, e3, e4, e5⟩ := uvr_inv r (i + 1) _ x k (fun y hy => hb y (List.mem_cons_of_mem _ hy)) (by omega) h
        have hy0 := e4 (by omega)
        have hcm : c % 2 ^ 7 = c - 128 := by omega
        have hbig : ¬ (c - 128 + 128 * y) < 128 := by omega
        have hfu : uvF (9 - i) (c - 128 + 128 * y) = c :: uvF (9 - (i + 1)) y := by
          rw [show 9 - i = (9 - (i + 1)) + 1 by omega, uvF, if_neg hbig]
          have hd : (c - 128 + 128 * y) / 2 ^ 7 = y := by omega
          have hmo : (c - 128 + 128 * y) % 2 ^ 8 = (c - 128) + 128 * (y % 2) := by omega
          rw [hd, hmo, or128b (c - 128) (by omega) (y % 2) (by omega), Nat.sub_add_cancel (by omega)]
        refine ⟨c - 128 + 128 * y, rest, by rw [hfu, e1]; rfl, ?_, by rw [hfu, e3, List.length_cons]; omega, fun _ => by omega, ?_⟩
        · rw [e2, hcm, Nat.add_mul, Nat.add_assoc]
          congr 2
          rw [show 7 * (i + 1) = 7 + 7 * i by omega, Nat.pow_add, Nat.mul_comm 128 y, Nat.mul_assoc]
        · have hp : 2 ^ (64 - 7 * i) = 2 ^ 7 * 2 ^ (64 - 7 * (i + 1)) := by rw [← Nat.pow_add]; congr 1; omega
          omega
theorem uvR_inv {l : List Nat} (hb : ∀ y ∈ l, y < 256) (h : (uvR l).2.2 = 0) : l = uv (uvR l).1 ++ l.drop (uvR l).2.1 ∧ (uvR l).1 < 2 ^ 64 := by
  obtain ⟨y, rest, e1, e2, e3, _, e5⟩ := uvr_inv l 0 0 (uvR l).1 (uvR l).2.1 hb (by decide) (Prod.ext rfl (Prod.ext rfl h))
  have hx : (uvR l).1 = y := by rw [e2]; simp
  have hk : (uvR l).2.1 = (uv y).length := by rw [e3, Nat.zero_add]; rfl
  refine ⟨?_, by rw [hx]; exact e5⟩
  rw [hx, hk]
  have e6 : l = uv y ++ rest := e1
  conv => lhs; rw [e6]
  rw [e6, List.drop_left]
end Go.Kw
