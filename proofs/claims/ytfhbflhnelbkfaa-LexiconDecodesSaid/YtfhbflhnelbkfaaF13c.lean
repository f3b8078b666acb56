/- The walks of the functions of F13c, printed by our own program (kwgen.py) out of our descriptions (base.py). -/
import Derived.Test.YtfhbflhnelbkfaaF13l
import Derived.Test.YtfhbflhnelbkfaaTab
namespace Go.Proofs.Ytfhbflhnelbkfaa
open Go.RowKit Go.Kw
set_option maxRecDepth 100000
set_option linter.unusedVariables false
set_option linter.unusedSimpArgs false
theorem numN_idx {W : List ByteArray} (h : Asc W) {k : Nat} {x : ByteArray} (hx : W[k]? = some x) : numN W x = (k, true) := by
  have hm := List.mem_of_getElem? hx
  rw [numN_mem h hm, show lbW W x = k from h.inj (h.get hm) hx]
theorem counts_pos {l : List ByteArray} {i c : Nat} (h : (countsN l)[i]? = some c) : 1 ≤ c := by
  unfold countsN at h
  rw [List.getElem?_map] at h
  obtain ⟨y, hy, rfl⟩ := Option.map_eq_some_iff.1 h
  exact cnt_pos (wordsN_mem.1 (List.mem_of_getElem? hy))
theorem sum_set {l : List Nat} {i c : Nat} (h : l[i]? = some c) : (l.set i (c + 1)).sum = l.sum + 1 := by
  induction l generalizing i with
  | nil => simp at h
  | cons x r ih =>
    cases i with
    | zero => simp at h; subst h; simp; omega
    | succ i => simp at h; simp [ih h]; omega
theorem counts_sum (vs : List ByteArray) : (countsN vs).sum = vs.length := by
  induction vs using snoc_ind with
  | h0 => rfl
  | h1 vs v ih =>
    rcases Decidable.em ((wordsN vs)[lbW (wordsN vs) v]? = some v) with h | h
    · obtain ⟨c, h1, h2⟩ := counts_found h
      rw [h2, sum_set h1, ih]; simp
    · rw [counts_new h, List.sum_append, List.sum_cons, List.length_append, ← ih]
      have := congrArg List.sum (List.take_append_drop (lbW (wordsN vs) v) (countsN vs))
      rw [List.sum_append] at this
      simp; omega
theorem sum_take_le (l : List Nat) (k : Nat) : (l.take k).sum ≤ l.sum := by
  have := congrArg List.sum (List.take_append_drop k l)
  rw [List.sum_append] at this; omega
theorem sum_take_snoc {l : List Nat} {k c : Nat} (h : l[k]? = some c) : (l.take (k + 1)).sum = (l.take k).sum + c := by
  rw [take_snoc h, List.sum_append]; simp

theorem bld_chk {vs : List ByteArray} (h : bldE vs = 0) : chkN vs = 0 := by
  unfold bldE at h
  split at h
  · cases h
  · split at h
    · rename_i h1 h2; exact absurd h h2
    · rename_i h1 h2; exact Decidable.not_not.1 h2
theorem bld_sz {vs : List ByteArray} (h : bldE vs = 0) : ∀ x ∈ wordsN vs, x.size ≤ 1000000 := fun x hx => Nat.le_trans (chk_all (bld_chk h) x (wordsN_mem.1 hx)).1 (by decide)
theorem bld_ord {vs : List ByteArray} : ∀ x ∈ ordN (wordsN vs), x < (wordsN vs).length := fun x hx => ordN_mem.1 hx
theorem ord_len {vs : List ByteArray} (h : bldE vs = 0) : (ordN (wordsN vs)).length ≤ 1000000 := by rw [ordN_length]; exact bld_len h

end Go.Proofs.Ytfhbflhnelbkfaa
