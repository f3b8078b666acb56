/-
  M14s: the reference of layer 14 gives out codes in the order of the program. No program in sight.
-/
import Derived.Test.YtecfgjdpghddgaaGreatM14d
set_option linter.unusedVariables false
set_option linter.unusedSimpArgs false
set_option linter.unusedSectionVars false
namespace Go.Kw
theorem filter_lt_succ {L : List Nat} (h : L.Pairwise (· < ·)) (k : Nat) : L.filter (fun x => decide (x < k + 1)) = L.filter (fun x => decide (x < k)) ++ (if k ∈ L then [k] else []) := by
  induction L with
  | nil => simp
  | cons a L ih =>
    have hp := List.pairwise_cons.1 h
    have ih := ih hp.2
    rcases Nat.lt_trichotomy a k with hk | hk | hk
    · rw [List.filter_cons_of_pos (by simp; omega), List.filter_cons_of_pos (by simpa using hk), ih]
      simp [show ¬ k = a by omega]
    · subst hk
      have e : ∀ j, j ≤ a + 1 → L.filter (fun x => decide (x < j)) = [] := fun j hj => List.filter_eq_nil_iff.2 fun x hx => by have := hp.1 x hx; simp; omega
      rw [List.filter_cons_of_pos (by simp), List.filter_cons_of_neg (by simp), e _ (Nat.le_refl _), e a (by omega)]
      simp
    · have e : ∀ j, j ≤ k + 1 → L.filter (fun x => decide (x < j)) = [] := fun j hj => List.filter_eq_nil_iff.2 fun x hx => by have := hp.1 x hx; simp; omega
      have hn : k ∉ L := fun hm => by have := hp.1 k hm; omega
      rw [List.filter_cons_of_neg (by simp; omega), List.filter_cons_of_neg (by simp; omega), e _ (Nat.le_refl _), e k (by omega), if_neg (by simp [hn]; omega)]
      rfl
theorem grp_lt (l : List Nat) (n : Nat) : (grp l n).Pairwise (· < ·) := by
  have h := ssort_stb (key := lenKey l) (presAt 0 l) n
  have e : grp l n = (presAt 0 l).filter fun x => lenKey l x == n := h.symm
  rw [e]; exact List.Pairwise.sublist List.filter_sublist (presAt_lt l 0)
theorem grp_mem {l : List Nat} {n k : Nat} (hn : 0 < n) : k ∈ grp l n ↔ lenKey l k = n := by
  constructor
  · exact grp_len
  · intro h; exact List.mem_filter.2 ⟨inOrd_mem_iff l k (by omega), by simpa using h⟩
def ordR (l : List Nat) (n k : Nat) : List Nat := low l n ++ (grp l n).filter fun x => decide (x < k)
theorem ordR_skip {l : List Nat} {n k x : Nat} (hn : 0 < n) (hx : l[k]? = some x) (h : x ≠ n) : ordR l n (k + 1) = ordR l n k := by
  have e : lenKey l k = x := by simp [lenKey, List.getD_eq_getElem?_getD, hx]
  rw [ordR, ordR, filter_lt_succ (grp_lt l n), if_neg (by rw [grp_mem hn, e]; exact h), List.append_nil]
theorem ordR_take {l : List Nat} {n k : Nat} (hn : 0 < n) (hx : l[k]? = some n) : ordR l n (k + 1) = ordR l n k ++ [k] := by
  have e : lenKey l k = n := by simp [lenKey, List.getD_eq_getElem?_getD, hx]
  rw [ordR, ordR, filter_lt_succ (grp_lt l n), if_pos (by rw [grp_mem hn, e]), List.append_assoc]
theorem ordR_zero (l : List Nat) (n : Nat) : ordR l n 0 = low l n := by simp [ordR]
theorem ordR_next (l : List Nat) (n : Nat) : ordR l n l.length = ordR l (n + 1) 0 := by
  rw [ordR_zero, ordR, List.filter_eq_self.2 fun x hx => by have := inOrd_mem l x (List.mem_filter.1 hx).1; simpa using this.1]
  conv => rhs; rw [low, inOrd_three l n]
  rw [List.filter_append, List.filter_append, List.filter_eq_self.2, List.filter_eq_self.2, List.filter_eq_nil_iff.2, List.append_nil]
  · intro x hx; have := (List.mem_filter.1 hx).2; simp at this ⊢; omega
  · intro x hx; have := grp_len hx; simp; omega
  · intro x hx; have := (List.mem_filter.1 hx).2; simp at this ⊢; omega
theorem ordR_first (l : List Nat) : ordR l 1 0 = [] := by
  rw [ordR_zero, low]; exact List.filter_eq_nil_iff.2 fun x hx => by have := (inOrd_mem l x hx).2; simp; omega
theorem ordR_last {l : List Nat} (h : ∀ i, lenKey l i ≤ 15) : ordR l 16 0 = inOrd l := by
  rw [ordR_zero, low]; exact List.filter_eq_self.2 fun x _ => by have := h x; simp; omega
theorem cdStep_first {l cds : List Nat} {cnt code bef i : Nat} (h0 : cnt = 0) (h1 : code = 0) : cdStep l (cnt, code, bef, cds) i = (cnt + 1, 0, lenKey l i, cds.set i 0) := by subst h0 h1; rfl
theorem cdStep_next {l cds : List Nat} {cnt code bef i : Nat} (h : cnt ≠ 0) : cdStep l (cnt, code, bef, cds) i = (cnt + 1, (code + 1) % 2 ^ 64 * 2 ^ (lenKey l i - bef) % 2 ^ 64, lenKey l i, cds.set i ((code + 1) % 2 ^ 64 * 2 ^ (lenKey l i - bef) % 2 ^ 64)) := by
  have hp : 0 < cnt := by omega
  simp only [cdStep, hp, if_true]
end Go.Kw
