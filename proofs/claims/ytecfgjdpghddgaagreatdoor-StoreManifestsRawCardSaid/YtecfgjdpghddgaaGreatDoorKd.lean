/-
  KD: slices of our own, sorted by the library, for the program logic of Kw. Our own text; it names no program.
-/
import Derived.Test.YtecfgjdpghddgaaGreatDoorKc
import Derived.Shelf.SlSortCmp.Kit1
import Derived.Sort.EncStr
import Derived.Lib.Bytealg
import Derived.Lib.Strings
import Derived.Shelf.Slices.In.SortNone
set_option linter.unusedVariables false
set_option linter.unusedSimpArgs false
set_option linter.unusedSectionVars false
namespace Go.Kw
open Go.RowKit Go.Sort Go.Proofs Go.Shelf
section
variable {α : Type} [Inhabited α] {enc : α → Value} {w w0 : World} {cs : List Chunk}
end
structure LexAt (w : World) (g : Nat) (vw vc vo : Value) (W : List ByteArray) (C O : List Nat) : Prop where
  c0 : w.cell? ⟨g, 0, none⟩ = some vw
  c1 : w.cell? ⟨g, 1, none⟩ = some vc
  c2 : w.cell? ⟨g, 2, none⟩ = some vo
  hW : RdL w vw encTx W
  hC : RdL w vc (encN .i64) C
  hO : RdL w vo (encN .i64) O
theorem LexAt.ext {w w' : World} {g : Nat} {vw vc vo : Value} {W : List ByteArray} {C O : List Nat} (h : LexAt w g vw vc vo W C O) (he : Ext w w') : LexAt w' g vw vc vo W C O :=
  ⟨he _ _ h.c0, he _ _ h.c1, he _ _ h.c2, h.hW.ext he, h.hC.ext he, h.hO.ext he⟩
theorem Sat.of_own {w w' : World} {v : Value} {E n : Nat} {cells : List Value} (ho : w'.ownsRow w.heap.size E 1 v n cells) (hb : RowKit.Below w.heap.size w w') : Sat w [cSl v E 1 n cells] w' := by
  obtain ⟨hl, h⟩ := ho
  refine ⟨hb, fun c hc => ?_, by simp⟩
  have hc' : c = cSl v E 1 n cells := by simpa using hc
  subst hc'
  rcases h with ⟨rfl, h0⟩ | ⟨g, cap, cur, rfl, hg, hh, h1, h2, h3, h4⟩
  · exact ⟨⟨hl, .inl ⟨rfl, h0⟩⟩, fun k hk => by simp [cSl, slFoot] at hk⟩
  · exact ⟨⟨hl, .inr ⟨g, cap, cur, rfl, Nat.zero_le _, hh, h1, h2, h3, h4⟩⟩, fun k hk => by
      have : k = g := by simpa [cSl, slFoot] using hk
      subst this; exact ⟨hg, (Array.getElem?_eq_some_iff.1 hh).1⟩⟩
theorem Sat.reL {α : Type} {w0 w : World} {cs : List Chunk} (h : Sat w0 cs w) (i : Nat) {v : Value} {e : Nat} {E : Enc α} {l l' : List α} (hi : cs[i]? = some (cL v e E l)) (hq : l = l') : Sat w0 (cs.set i (cL v e E l')) w := by
  subst hq
  obtain ⟨hil, hci⟩ := List.getElem?_eq_some_iff.1 hi
  rw [← hci, List.set_getElem_self hil]; exact h
end Go.Kw
