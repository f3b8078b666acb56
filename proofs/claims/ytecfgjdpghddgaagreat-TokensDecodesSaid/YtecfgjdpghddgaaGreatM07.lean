/-
  M07: what the references of the layers 2, 14, 15 read back. No program in sight.
-/
import Derived.Test.YtecfgjdpghddgaaGreatM15u
set_option linter.unusedVariables false
set_option linter.unusedSimpArgs false
set_option linter.unusedSectionVars false
namespace Go.Kw
def bitsN (b : List Nat) (n : Nat) : List Bool := (List.range n).map fun i => decide (rb b i = 1)
theorem bitsN_succ (b : List Nat) (n : Nat) : bitsN b (n + 1) = bitsN b n ++ [decide (rb b n = 1)] := by simp [bitsN, List.range_succ]
theorem bitsN_length (b : List Nat) (n : Nat) : (bitsN b n).length = n := by simp [bitsN]
theorem bitsN_get {b : List Nat} {n i : Nat} (h : i < n) : (bitsN b n)[i]? = some (decide (rb b i = 1)) := by simp [bitsN, h]
theorem and_bit : ∀ x, x < 256 → ∀ j, j < 8 → ((x &&& (128 / 2 ^ j) ≠ 0) ↔ x / 2 ^ (7 - j) % 2 = 1) := by decide +kernel
theorem bit_dec {b : List Nat} {i x : Nat} (hx : b[i / 8]? = some x) (h : x < 256) : decide (rb b i = 1) = decide ((x &&& (128 / 2 ^ (i % 8))) ≠ 0) := by
  have hd : b.getD (i / 8) 0 = x := by rw [List.getD_eq_getElem?_getD, hx]; rfl
  have h1 := and_bit x h (i % 8) (Nat.mod_lt _ (by decide))
  rw [rb, hd]
  exact decide_eq_decide.2 h1.symm
def PkOf (b l0 : List Nat) : Prop := l0.length ≤ 128 ∧ (∀ x ∈ l0, x ≤ 2147483647) ∧ b = packBk l0
def pqW (l0 : List Nat) : Nat := bestW l0 32
def pqT (l0 : List Nat) : List Nat := packB (l0.flatMap fun x => lowB (x % 2 ^ pqW l0) (pqW l0)) ++ exB (pqW l0) 0 0 l0
def pqV (l0 : List Nat) (q : Nat) : Nat := if q = 0 then l0.length else if q = 1 then pqW l0 else exC (pqW l0) l0
def pqS (l0 : List Nat) (q : Nat) : List Nat := if q = 0 then packBk l0 else if q = 1 then uv (pqW l0) ++ (uv (exC (pqW l0) l0) ++ pqT l0) else if q = 2 then uv (exC (pqW l0) l0) ++ pqT l0 else pqT l0
theorem pqW_le (l0 : List Nat) : pqW l0 ≤ 31 := by have := bestW_le l0 32; unfold pqW; omega
theorem exC_le (w : Nat) (l0 : List Nat) : exC w l0 ≤ l0.length := List.countP_le_length
theorem pqS_step {l0 : List Nat} {q : Nat} (hq : q < 3) : pqS l0 q = uv (pqV l0 q) ++ pqS l0 (q + 1) := by
  rcases (show q = 0 ∨ q = 1 ∨ q = 2 by omega) with rfl | rfl | rfl
  · show packBk l0 = uv l0.length ++ (uv (pqW l0) ++ (uv (exC (pqW l0) l0) ++ pqT l0))
    unfold packBk; rw [encBk_eq]; simp [pqT, pqW]
  · rfl
  · rfl
theorem pqV_le {b l0 : List Nat} (h : PkOf b l0) (q : Nat) : pqV l0 q ≤ 128 := by
  have h1 := h.1; have h2 := pqW_le l0; have h3 := exC_le (pqW l0) l0
  unfold pqV; split
  · exact h1
  · split <;> omega
theorem pq_take {b l0 l2 : List Nat} {q : Nat} (h : PkOf b l0) (hq : q < 3) (e : l2 = pqS l0 q) : (uvR l2).2.2 = 0 ∧ (uvR l2).1 = pqV l0 q ∧ (uvR l2).1 ≤ 128 ∧ l2.drop (uvR l2).2.1 = pqS l0 (q + 1) := by
  have hv := pqV_le h q
  have hu := uvR_uv (show pqV l0 q < 2 ^ 64 by omega) (pqS l0 (q + 1))
  rw [← pqS_step hq, ← e] at hu
  rw [hu]
  refine ⟨rfl, rfl, hv, ?_⟩
  rw [e, pqS_step hq]; simp
theorem pqT_len (l0 : List Nat) : (l0.length * pqW l0 + 7) / 8 ≤ (pqT l0).length := by
  unfold pqT; rw [List.length_append, packB_length, flat_low]; omega
theorem pq_ex {b l0 : List Nat} (h : PkOf b l0) : exL (pqW l0) l0.length (exC (pqW l0) l0) true ((pqT l0).drop ((l0.length * pqW l0 + 7) / 8)) 0 (lowsN (pqT l0) l0.length (pqW l0)) = some l0 := by
  have hsz : (packB (l0.flatMap fun x => lowB (x % 2 ^ pqW l0) (pqW l0))).length = (l0.length * pqW l0 + 7) / 8 := by rw [packB_length, flat_low]
  have h1 : (pqT l0).drop ((l0.length * pqW l0 + 7) / 8) = exB (pqW l0) 0 0 l0 := by unfold pqT; rw [← hsz, List.drop_left]
  have h2 : lowsN (pqT l0) l0.length (pqW l0) = l0.map (· % 2 ^ pqW l0) := by
    have h3 := lowsN_packB (pqW l0) l0
    rw [← h3]
    unfold lowsN
    refine List.map_congr_left fun i hi => ?_
    have hi2 : i < l0.length := by simpa using hi
    have h4 : ∀ m, pqW l0 * i + m ≤ l0.length * pqW l0 → bvN (pqT l0) (pqW l0 * i) m = bvN (packB (l0.flatMap fun x => lowB (x % 2 ^ pqW l0) (pqW l0))) (pqW l0 * i) m := fun m => by
      induction m with
      | zero => intro _; rfl
      | succ m ih =>
        intro hm
        rw [bvN, bvN, ih (by omega)]
        congr 1
        unfold rb pqT
        rw [List.getD_eq_getElem?_getD, List.getD_eq_getElem?_getD, List.getElem?_append_left (by rw [hsz]; omega)]
    refine h4 _ ?_
    have := Nat.mul_le_mul_left (pqW l0) (show i + 1 ≤ l0.length by omega)
    rw [Nat.mul_succ, Nat.mul_comm (pqW l0) l0.length] at this; exact this
  rw [h1, h2]
  have := exL_exB (pqW l0) l0.length l0 [] 0 [] (by simp) h.1 (Nat.le_refl _) h.2.1
  simpa using this
theorem numN_true {ok : Bool} {l : List Nat} {lim : Nat} (h : (numN ok l lim).2.1 = true) : ok = true ∧ (uvR l).2.2 = 0 ∧ (uvR l).1 ≤ lim ∧ numN ok l lim = ((uvR l).1, true, l.drop (uvR l).2.1) := by
  unfold numN at h ⊢
  split at h
  · simp at h
  · rename_i hc
    rw [if_neg hc]
    simp only [not_or] at hc
    exact ⟨by cases ok <;> simp_all, by omega, by omega, rfl⟩
theorem ex_step {w n c a : Nat} {l vs l0 : List Nat} (h : exL w n (c + 1) true l a vs = some l0) :
    (uvR l).2.2 = 0 ∧ (uvR l).1 ≤ 128 ∧ (uvR (l.drop (uvR l).2.1)).2.2 = 0 ∧ (uvR (l.drop (uvR l).2.1)).1 ≤ 2147483647 / 2 ^ w ∧ a + (uvR l).1 ≠ 0 ∧ a + (uvR l).1 ≤ n ∧
    exL w n c true ((l.drop (uvR l).2.1).drop (uvR (l.drop (uvR l).2.1)).2.1) (a + (uvR l).1) (vs.set (a + (uvR l).1 - 1) (vs.getD (a + (uvR l).1 - 1) 0 ||| (uvR (l.drop (uvR l).2.1)).1 * 2 ^ w)) = some l0 := by
  rw [exL] at h
  split at h
  · cases h
  · rename_i hc
    simp only [not_or, Bool.not_eq_false] at hc
    obtain ⟨h1, h2, h3⟩ := hc
    obtain ⟨h4, h5, h6, h7⟩ := numN_true h1
    obtain ⟨_, h8, h9, h10⟩ := numN_true h4
    rw [h10] at h5 h6 h7 h2 h3 h
    rw [h7] at h
    exact ⟨h8, h9, h5, h6, h2, by omega, h⟩
theorem low_set0 {l : List Nat} {n w k : Nat} (h : k < n) : (lowU l n w k).set k (bvN l (w * k) 0) = lowU l n w k := by
  unfold lowU
  rw [List.set_append_right _ _ (by simp), show n - k = (n - (k + 1)) + 1 by omega, List.replicate_succ]
  simp [bvN]
theorem or_le63 {a h w : Nat} (ha : a < 2 ^ 63) (hh : h ≤ 2147483648) (hw : w ≤ 31) : a ||| h * 2 ^ w < 2 ^ 63 := by
  refine Nat.or_lt_two_pow ha ?_
  have h1 : 2 ^ w ≤ 2 ^ 31 := Nat.pow_le_pow_right (by decide) hw
  have h2 := Nat.mul_le_mul hh h1
  omega
end Go.Kw
