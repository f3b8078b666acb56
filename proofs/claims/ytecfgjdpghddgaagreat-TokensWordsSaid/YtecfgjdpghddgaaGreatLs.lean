/-
  LS: how arguments that are strings or rows of strings read. Our own text.
-/
import Derived.Test.YtecfgjdpghddgaaGreatLw
import Derived.Test.YtecfgjdpghddgaaGreatKc
import Derived.SliceStrings
import Derived.ChangeMaps5
set_option linter.unusedVariables false
set_option linter.unusedSimpArgs false
set_option linter.unusedSectionVars false
namespace Go.Proofs.YtecfgjdpghddgaaGreat
set_option maxRecDepth 100000
open Go.ChangeShapes Go.WideShapes Go.ChangeAt Go.RowKit Go.Kw
theorem cells9 : Tryz.prog.cellsOf 9 = 1 := by kernel_rfl
theorem rd_strs {H : Type} {enc : TypeId × Value → H} {W : World} {base : Nat} {v : Value} {d : DataW H} {p : List MemPlace} (hval : Value.okWide Tryz.prog W .any base 36 v) (h : DataW.Trod enc Tryz.prog W 0 (fun _ => true) true 36 v d p) :
    ∃ z : List ByteArray, RdL W v encTx z ∧ z.length ≤ 9223372036854775807 := by
  obtain ⟨a0, len, cap, rfl⟩ := okWide_slice Tryz.underlying36 hval
  obtain ⟨fuel, hf⟩ := h
  rcases open_strings Tryz.underlying36 Tryz.underlying9 cells9 hf with ⟨hcs, _⟩ | ⟨a, len', cap', zs, hcs, _, hl, hm, hz, _, hcell, _⟩
  · have hcs' : (#[Value.slice a0 len cap]).toList = [Value.slice none 0 0] := hcs
    simp at hcs'
    obtain ⟨rfl, rfl, rfl⟩ := hcs'
    exact ⟨[], RdL.nil W _, Nat.zero_le _⟩
  · have hcs' : (#[Value.slice a0 len cap]).toList = [Value.slice (some a) len' cap'] := hcs
    simp at hcs'
    obtain ⟨rfl, rfl, rfl⟩ := hcs'
    have hz' : zs.length = cap := by simpa using hz
    have hmx : maxLen = 9223372036854775807 := by decide
    have hlen : (zs.take len).length = len := by rw [List.length_take]; omega
    refine ⟨zs.take len, ?_, by rw [hlen]; omega⟩
    unfold RdL
    rw [hlen]
    refine ⟨some a, cap, rfl, hl, fun j u hu => ?_⟩
    have hcell' : ∀ j x, (zs.take len)[j]? = some x → W.cell? (a.add j) = some (.string x) := fun j x hx => by
      rw [List.getElem?_take] at hx
      split at hx
      · have hj := (List.getElem?_eq_some_iff.1 hx).1
        have := hcell j hj
        rwa [List.getD_eq_getElem?_getD, hx] at this
      · cases hx
    have hjl : j < (encTx.all (zs.take len)).length := (List.getElem?_eq_some_iff.1 hu).1
    rw [encTx.all_length] at hjl
    have hj1 : j < (zs.take len).length := by simpa [encTx] using hjl
    obtain ⟨x, hx⟩ : ∃ x, (zs.take len)[j]? = some x := ⟨_, List.getElem?_eq_getElem hj1⟩
    have hget := encTx.all_get hx (off := 0) (by decide)
    have e1 : j * encTx.s + 0 = j := by simp [encTx]
    rw [e1] at hget
    rw [hget] at hu
    have hu' : u = .string x := by simpa [encTx] using hu.symm
    subst hu'
    have hspot : a.spot = none := by
      obtain ⟨x0, hx0⟩ : ∃ x, (zs.take len)[0]? = some x := ⟨_, List.getElem?_eq_getElem (by omega)⟩
      have h0 := hcell' 0 x0 hx0
      unfold Addr.add at h0
      rw [if_pos rfl] at h0
      unfold World.cell? at h0
      split at h0
      · split at h0
        · cases h0
        · rename_i hs; simpa using hs
      · cases h0
    exact ⟨a.block, a.off, by obtain ⟨b, o, s⟩ := a; cases hspot; rfl, add_spot (hcell' j x hx) fun _ => hspot⟩
end Go.Proofs.YtecfgjdpghddgaaGreat
