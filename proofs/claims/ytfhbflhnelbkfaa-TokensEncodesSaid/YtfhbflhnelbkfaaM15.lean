/-
  M15: plain functions of layer 15 (block). No program in sight.
-/
import Derived.Test.YtfhbflhnelbkfaaM02
namespace Go.Kw

/-- How many groups of seven bits a number has. -/
def sizeN (v : Nat) : Nat := (max (Lib.bitLen v) 1 + 6) / 7
theorem sizeN_le (v : Nat) : sizeN v ≤ 10 := by have := bitLen_le64 v; unfold sizeN; omega

/-- Index, bytes of the exceptions, their number, 1 plus the index of the last one. -/
def costStep (width : Nat) (s : Nat × Nat × Nat × Nat) (x : Nat) : Nat × Nat × Nat × Nat :=
  if 0 < x / 2 ^ width then (s.1 + 1, s.2.1 + (sizeN (s.1 + 1 - s.2.2.2) + sizeN (x / 2 ^ width)), s.2.2.1 + 1, s.1 + 1) else (s.1 + 1, s.2.1, s.2.2.1, s.2.2.2)
def costSt (width : Nat) (l : List Nat) : Nat × Nat × Nat × Nat := l.foldl (costStep width) (0, 0, 0, 0)
def costB (width : Nat) (l : List Nat) : Nat :=
  (costSt width l).2.1 + sizeN l.length + sizeN width + sizeN (costSt width l).2.2.1 + (l.length * width + 7) / 8
theorem costSt_snoc (width : Nat) (l : List Nat) (x : Nat) : costSt width (l ++ [x]) = costStep width (costSt width l) x := by simp [costSt]

/-- Index, the low bits, the exceptions' bytes, their number, 1 plus the index of the last one. -/
def encStep (width : Nat) (s : Nat × List Bool × List Nat × Nat × Nat) (x : Nat) : Nat × List Bool × List Nat × Nat × Nat :=
  if 0 < x / 2 ^ width then (s.1 + 1, s.2.1 ++ lowB (x % 2 ^ width) width, s.2.2.1 ++ uv (s.1 + 1 - s.2.2.2.2) ++ uv (x / 2 ^ width), s.2.2.2.1 + 1, s.1 + 1)
  else (s.1 + 1, s.2.1 ++ lowB (x % 2 ^ width) width, s.2.2.1, s.2.2.2.1, s.2.2.2.2)
def encSt (width : Nat) (l : List Nat) : Nat × List Bool × List Nat × Nat × Nat := l.foldl (encStep width) (0, [], [], 0, 0)
def encBk (width : Nat) (l : List Nat) : List Nat :=
  uv l.length ++ uv width ++ uv (encSt width l).2.2.2.1 ++ packB (encSt width l).2.1 ++ (encSt width l).2.2.1
theorem encSt_snoc (width : Nat) (l : List Nat) (x : Nat) : encSt width (l ++ [x]) = encStep width (encSt width l) x := by simp [encSt]

/-- The first width, below m, of the least cost. -/
def bestW (l : List Nat) : Nat → Nat
  | 0 => 0
  | m + 1 => if costB m l < costB (bestW l m) l then m else bestW l m
def packBk (l : List Nat) : List Nat := encBk (bestW l 32) l
theorem bestW_le (l : List Nat) : ∀ m, bestW l m ≤ m - 1
  | 0 => Nat.le_refl _
  | m + 1 => by unfold bestW; split; · omega
                · have := bestW_le l m; omega
end Go.Kw
