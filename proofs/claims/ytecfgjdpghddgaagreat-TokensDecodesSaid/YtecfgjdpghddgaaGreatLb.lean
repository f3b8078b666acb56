/-
  LB: how an argument that is a row of bytes reads. Our own text.
-/
import Derived.Test.YtecfgjdpghddgaaGreatLw
set_option linter.unusedVariables false
set_option linter.unusedSimpArgs false
set_option linter.unusedSectionVars false
namespace Go.Proofs.YtecfgjdpghddgaaGreat
set_option maxRecDepth 100000
open Go.ChangeShapes Go.WideShapes Go.ChangeAt Go.RowKit Go.Kw
theorem cells5 : Tryz.prog.cellsOf 5 = 1 := by kernel_rfl
theorem rd_u8 {H : Type} {enc : TypeId × Value → H} {W : World} {base : Nat} {v : Value} {d : DataW H} {p : List MemPlace} (hval : Value.okWide Tryz.prog W .any base 22 v) (h : DataW.Trod enc Tryz.prog W 0 (fun _ => true) true 22 v d p) :
    ∃ z : List Int, RdL W v (Kw.encI .u8) z ∧ (∀ n ∈ z, (Lit.int .u8 n).wf = true) ∧ z.length ≤ 9223372036854775807 := by
  obtain ⟨a0, len, cap, rfl⟩ := okWide_slice Tryz.underlying22 hval
  obtain ⟨fuel, hf⟩ := h
  rcases open_ints Tryz.underlying22 Tryz.underlying5 cells5 hf with ⟨hcs, _⟩ | ⟨a, len', cap', zs, hcs, _, hl, hm, hz, _, hcell, hwf⟩
  · have hcs' : (#[Value.slice a0 len cap]).toList = [Value.slice none 0 0] := hcs
    simp at hcs'
    obtain ⟨rfl, rfl, rfl⟩ := hcs'
    exact ⟨[], RdL.nil W _, (fun n h => by cases h), Nat.zero_le _⟩
  · have hcs' : (#[Value.slice a0 len cap]).toList = [Value.slice (some a) len' cap'] := hcs
    simp at hcs'
    obtain ⟨rfl, rfl, rfl⟩ := hcs'
    have hz' : zs.length = cap := by simpa using hz
    have hmx : maxLen = 9223372036854775807 := by decide
    have hlen : (zs.take len).length = len := by rw [List.length_take]; omega
    refine ⟨zs.take len, ?_, (fun n h => hwf n (List.mem_of_mem_take h)), by rw [hlen]; omega⟩
    unfold RdL
    rw [hlen]
    refine ⟨some a, cap, rfl, hl, fun j u hu => ?_⟩
    have hcell' : ∀ j x, (zs.take len)[j]? = some x → W.cell? (a.add j) = some (.int .u8 x) := fun j x hx => by
      rw [List.getElem?_take] at hx
      split at hx
      · have hj := (List.getElem?_eq_some_iff.1 hx).1
        have := hcell j hj
        rwa [List.getD_eq_getElem?_getD, hx] at this
      · cases hx
    have hjl : j < ((Kw.encI .u8).all (zs.take len)).length := (List.getElem?_eq_some_iff.1 hu).1
    rw [(Kw.encI .u8).all_length] at hjl
    have hj1 : j < (zs.take len).length := by simpa [Kw.encI] using hjl
    obtain ⟨x, hx⟩ : ∃ x, (zs.take len)[j]? = some x := ⟨_, List.getElem?_eq_getElem hj1⟩
    have hget := (Kw.encI .u8).all_get hx (off := 0) (by decide)
    have e1 : j * (Kw.encI .u8).s + 0 = j := by simp [Kw.encI]
    rw [e1] at hget
    rw [hget] at hu
    have hu' : u = .int .u8 x := by simpa [Kw.encI] using hu.symm
    subst hu'
    have hspot : a.spot = none := by
      obtain ⟨x0, hx0⟩ : ∃ x, (zs.take len)[0]? = some x := ⟨_, List.getElem?_eq_getElem (by omega)⟩
      have h0 := hcell' 0 x0 hx0
      unfold Addr.add at h0
      rw [if_pos rfl] at h0
      unfold World.cell? at h0
      split at h0
      · split at h0
        · cases h0
        · rename_i hs; simpa using hs
      · cases h0
    exact ⟨a.block, a.off, by obtain ⟨b, o, s⟩ := a; cases hspot; rfl, add_spot (hcell' j x hx) fun _ => hspot⟩
theorem all_u8 : ∀ z : List Int, (∀ n ∈ z, 0 ≤ n) → (encN .u8).all (z.map Int.toNat) = (Kw.encI .u8).all z
  | [], _ => rfl
  | n :: z, h => by
    rw [List.map_cons, Enc.all_cons, Enc.all_cons, all_u8 z fun m hm => h m (List.mem_cons_of_mem _ hm)]
    congr 1
    show [Value.int .u8 ((n.toNat : Nat) : Int)] = [Value.int .u8 n]
    rw [Int.toNat_of_nonneg (h n (List.mem_cons_self ..))]
theorem rd_bytes {H : Type} {enc : TypeId × Value → H} {W : World} {base : Nat} {v : Value} {d : DataW H} {p : List MemPlace} (hval : Value.okWide Tryz.prog W .any base 22 v) (h : DataW.Trod enc Tryz.prog W 0 (fun _ => true) true 22 v d p) :
    ∃ l : List Nat, RdL W v (encN .u8) l ∧ (∀ x ∈ l, x < 256) ∧ l.length ≤ 9223372036854775807 := by
  obtain ⟨z, hz, hw, hn⟩ := rd_u8 hval h
  have hb : ∀ n ∈ z, 0 ≤ n ∧ n ≤ 255 := fun n hn' => by
    have := hw n hn'
    simp [Lit.wf, IntKind.min, IntKind.max, IntKind.signed, IntKind.bits] at this
    omega
  have e := all_u8 z fun n h => (hb n h).1
  refine ⟨z.map Int.toNat, ?_, fun x hx => ?_, by rw [List.length_map]; exact hn⟩
  · obtain ⟨a, cap, e1, e2, e3⟩ := hz
    refine ⟨a, cap, by rw [List.length_map]; exact e1, by rw [List.length_map]; exact e2, ?_⟩
    rw [e]; exact e3
  · obtain ⟨n, hn', rfl⟩ := List.mem_map.1 hx
    have := hb n hn'
    omega
end Go.Proofs.YtecfgjdpghddgaaGreat
