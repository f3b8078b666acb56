/-
  M14p: items of the reference of layer 14, and how two lists of them are merged. No program in sight.
-/
import Derived.Test.YtecfgjdpghddgaaGreatKp
import Derived.Test.YtecfgjdpghddgaaGreatM14s
set_option linter.unusedVariables false
set_option linter.unusedSimpArgs false
set_option linter.unusedSectionVars false
namespace Go.Kw
open Go.RowKit
structure RI where
  w : Nat
  leaf : Bool
  sv : SV
  occ : List Nat
def encRI : Enc RI := ⟨3, fun x => [.int .i64 (x.w : Int), .bool x.leaf, x.sv.val], fun _ => rfl, fun x u h => by simp at h; rcases h with rfl | rfl | rfl <;> rfl⟩
def cPool (ps : List RI) : Chunk := cAll (ps.map fun p => cL p.sv.val 3 (encN .i64) p.occ)
section
variable {w0 w : World} {cs : List Chunk}
theorem Sat.newPool (h : Sat w0 cs w) : Sat w0 (cs ++ [cPool []]) w := by
  have : Sat w0 (cs ++ cAll [] :: []) w := Sat.all_iff.2 (by simpa using h)
  exact this
theorem Sat.pushPool {A : List Chunk} {s : SV} {n : Nat} {b : Bool} {l : List Nat} {ps : List RI} (h : Sat w0 (A ++ [cL s.val 3 (encN .i64) l]) w) (i : Nat) (hi : A[i]? = some (cPool ps)) : Sat w0 (A.set i (cPool (ps ++ [⟨n, b, s, l⟩]))) w := by
  have := h.push i hi
  rw [cPool, List.map_append]; exact this
theorem Sat.rdPool (h : Sat w0 cs w) (i : Nat) {ps : List RI} (hi : cs[i]? = some (cPool ps)) : ∀ p ∈ ps, RdL w p.sv.val (encN .i64) p.occ := fun p hp =>
  Rd.of_own ((h.get hi).1 (cL p.sv.val 3 (encN .i64) p.occ) (List.mem_map_of_mem hp))
end
def leR (x y : RI) : Bool := decide (x.w ≤ y.w)
def mrgR (a b : List RI) : List RI := a.merge b leR
theorem drop_get {α : Type} {l : List α} {k : Nat} {x : α} (h : l[k]? = some x) : l.drop k = x :: l.drop (k + 1) := by
  obtain ⟨hk, rfl⟩ := List.getElem?_eq_some_iff.1 h
  exact List.drop_eq_getElem_cons hk
theorem mrgR_left {a b : List RI} {i k : Nat} {x y : RI} (hx : a[i]? = some x) (hy : b[k]? = some y) (h : x.w ≤ y.w) : mrgR (a.drop i) (b.drop k) = x :: mrgR (a.drop (i + 1)) (b.drop k) := by
  have e : leR x y = true := decide_eq_true h
  rw [mrgR, mrgR, drop_get hx, drop_get hy, List.cons_merge_cons_pos (h := e)]
theorem mrgR_right {a b : List RI} {i k : Nat} {y : RI} (hy : b[k]? = some y) (h : ∀ x, a[i]? = some x → ¬ x.w ≤ y.w) : mrgR (a.drop i) (b.drop k) = y :: mrgR (a.drop i) (b.drop (k + 1)) := by
  cases hx : a[i]? with
  | none => 
    have : a.drop i = [] := List.drop_of_length_le (by simpa using hx)
    rw [this, drop_get hy]; simp [mrgR]
  | some x =>
    have e : ¬ leR x y = true := by have := h x hx; simp [leR]; omega
    rw [mrgR, mrgR, drop_get hx, drop_get hy, List.cons_merge_cons_neg (h := e)]
theorem mrgR_nil (a : List RI) : mrgR a [] = a := by simp [mrgR]
theorem mrgR_mem {a b : List RI} {x : RI} : x ∈ mrgR a b ↔ x ∈ a ∨ x ∈ b := by rw [mrgR, (List.merge_perm_append leR).mem_iff, List.mem_append]
end Go.Kw
