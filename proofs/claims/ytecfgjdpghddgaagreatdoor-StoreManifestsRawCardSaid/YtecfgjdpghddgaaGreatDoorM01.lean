/-
  M01: plain facts on strings as units (layer 1): what 'range' over a string meets, valid strings, strings in reverse. No program in sight.
-/
import Derived.WalkKit
import Derived.Lib.DecodeN
set_option linter.unusedVariables false
set_option linter.unusedSimpArgs false
set_option linter.unusedSectionVars false
namespace Go.Kw
open Go.Lib
def gb (l : List UInt8) (k : Nat) : Nat := (l.getD k 0).toNat
def dec (l : List UInt8) : Nat × Nat := decodeN l.length (gb l 0) (gb l 1) (gb l 2) (gb l 3)
theorem decodeN_pos (n b0 b1 b2 b3 : Nat) : 1 ≤ (decodeN n b0 b1 b2 b3).2 ∧ (decodeN n b0 b1 b2 b3).2 ≤ 4 := by
  unfold decodeN
  repeat' split
  all_goals exact ⟨by simp, by simp⟩
theorem dec_pos (l : List UInt8) : 1 ≤ (dec l).2 := (decodeN_pos ..).1
def chop (l : List UInt8) : List (Nat × List UInt8) :=
  if h : l = [] then [] else ((dec l).1, l.take (dec l).2) :: chop (l.drop (dec l).2)
  termination_by l.length
  decreasing_by
  have := dec_pos l
  have := List.length_pos_iff.2 h
  simp only [List.length_drop]; omega
def revL (l : List UInt8) : List UInt8 := (chop l).reverse.flatMap (·.2)
structure Un where
  r : Nat
  at_ : Nat
  size : Nat
def Un.ok (u : Un) : Bool := u.r != 65533 || u.size == 3
def revN (s : ByteArray) : ByteArray := ⟨(revL s.data.toList).toArray⟩
end Go.Kw
namespace Go.Kw
section
variable {α : Type} {R : α → α → Prop} [DecidableRel R]
def lbR (R : α → α → Prop) [DecidableRel R] (l : List α) (x : α) : Nat := (l.takeWhile fun y => decide (R y x)).length
theorem lbR_cons_pos {y x : α} {r : List α} (h : R y x) : lbR R (y :: r) x = lbR R r x + 1 := by simp [lbR, h]
theorem lbR_cons_neg {y x : α} {r : List α} (h : ¬ R y x) : lbR R (y :: r) x = 0 := by simp [lbR, h]
theorem lbR_get (irr : ∀ a, ¬ R a a) (asy : ∀ {a b}, R a b → ¬ R b a) {x : α} : ∀ {l : List α}, l.Pairwise R → x ∈ l → l[lbR R l x]? = some x
  | [], _, h => by cases h
  | y :: r, hl, h => by
    obtain ⟨h1, h2⟩ := List.pairwise_cons.1 hl
    rcases List.mem_cons.1 h with rfl | h
    · rw [lbR_cons_neg (irr _)]; rfl
    · rw [lbR_cons_pos (h1 x h)]; simpa using lbR_get irr asy h2 h
end
def SLt (a b : ByteArray) : Prop := a.data.toList < b.data.toList
instance : DecidableRel SLt := fun a b => inferInstanceAs (Decidable (a.data.toList < b.data.toList))
theorem bytes_ext {a b : ByteArray} (h : a.data.toList = b.data.toList) : a = b := by
  obtain ⟨⟨x⟩⟩ := a; obtain ⟨⟨y⟩⟩ := b
  simp at h; rw [h]
theorem SLt.irr (a : ByteArray) : ¬ SLt a a := List.lt_irrefl _
theorem SLt.tr {a b c : ByteArray} (h : SLt a b) (k : SLt b c) : SLt a c := List.lt_trans h k
theorem SLt.asy {a b : ByteArray} (h : SLt a b) : ¬ SLt b a := fun k => SLt.irr a (h.tr k)
abbrev Asc (l : List ByteArray) : Prop := l.Pairwise SLt
abbrev lbW (l : List ByteArray) (w : ByteArray) : Nat := lbR SLt l w
theorem Asc.get {l : List ByteArray} (h : Asc l) {w : ByteArray} (hw : w ∈ l) : l[lbW l w]? = some w := lbR_get SLt.irr SLt.asy h hw
theorem Asc.lt {l : List ByteArray} (h : Asc l) {i j : Nat} {x y : ByteArray} (hx : l[i]? = some x) (hy : l[j]? = some y) (hij : i < j) : SLt x y := by
  obtain ⟨h1, rfl⟩ := List.getElem?_eq_some_iff.1 hx
  obtain ⟨h2, rfl⟩ := List.getElem?_eq_some_iff.1 hy
  exact List.pairwise_iff_getElem.1 h i j h1 h2 hij
theorem Asc.inj {l : List ByteArray} (h : Asc l) {i j : Nat} {x : ByteArray} (hx : l[i]? = some x) (hy : l[j]? = some x) : i = j := by
  rcases Nat.lt_trichotomy i j with e | e | e
  · exact absurd (h.lt hx hy e) (SLt.irr x)
  · exact e
  · exact absurd (h.lt hy hx e) (SLt.irr x)
def rvN (W : List ByteArray) (i : Nat) : ByteArray := revN (W.getD i ByteArray.empty)
def RLt (W : List ByteArray) (i j : Nat) : Prop := SLt (rvN W i) (rvN W j)
instance (W : List ByteArray) : DecidableRel (RLt W) := fun i j => inferInstanceAs (Decidable (SLt _ _))
end Go.Kw
