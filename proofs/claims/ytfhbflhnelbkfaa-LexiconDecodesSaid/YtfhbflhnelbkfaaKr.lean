/-
  KR: slice literals of several elements; integers as numbers. Our own text; it names no program.
-/
import Derived.Test.YtfhbflhnelbkfaaKm
set_option linter.unusedSimpArgs false
set_option linter.unusedVariables false
set_option linter.unusedSectionVars false
namespace Go.Kw
open Go.RowKit
section
variable {P : Program} {n : Nat} {L : Know} {w w0 : World} {cs : List Chunk} {K : Value → World → Prop} {d : Option Nat} {ty : TypeId} {pos : String} {af : Array Edge} {g : Option (Nat × Bool)} {α : Type} {E : Enc α}
/-- A slice literal of elements of one cell, each told. -/
theorem OpE.litN {t e b m : Nat} {z : Value} {parts : List (Nat × Operand)} {vs : List (Nat × Value)} (E : Enc α) (l : List α) (hty : SlTy P t e 1 z b) (hp : evParts L parts = some vs) (h1 : AllOne vs) (hz1 : z.oneCell' = true) (ho : Kw.setArr vs (List.replicate m z) = some (E.all l)) (hl : l.length = m) (hE : E.s = 1) (hm0 : m ≠ 0) (hm : m ≤ 16777216) (hs : Sat w0 cs w)
    (hk : ∀ u w', Sat w0 (cs ++ [cL u e E l]) w' → Chg [] w w' → K u w') : OpE P n L w ⟨d, .buildSlice t m parts.toArray, ty, pos, af, g⟩ K := by
  obtain ⟨inf, i1, i2, i3, i4⟩ := hty.info
  have he : ∀ ρ : Operand → Value, (∀ {x u}, evK L x = some u → ρ x = u) → ∀ (parts : List (Nat × Operand)) (vs : List (Nat × Value)), evParts L parts = some vs → parts.map (fun (i, x) => (i, ρ x)) = vs := by
    intro ρ hρ parts
    induction parts with
    | nil => intro vs h; simp [evParts] at h; simp [h]
    | cons p r ih =>
      intro vs h
      obtain ⟨i, x⟩ := p
      simp only [evParts, Option.bind_eq_some_iff, Option.map_eq_some_iff] at h
      obtain ⟨v, hv, us, hus, rfl⟩ := h
      simp [hρ hv, ih us hus]
  have hvc : z.cells = #[z] := by cases z <;> first | rfl | cases hz1
  have hfill := fill_arr vs (List.replicate m z) (E.all l) h1 ho
  have hall : (E.all l).length = m := by rw [E.all_length, hE, hl, Nat.mul_one]
  have hzero : (Array.range m).map (fun q => z.cells[q % z.cells.size]!) = (List.replicate m z).toArray := by
    rw [hvc]
    apply Array.ext'
    apply List.ext_getElem
    · simp
    · intro i _ _; simp [Nat.mod_one]
  have hrun : (Instr.buildSlice t m vs.toArray).run P w = .ok (.slice (some ⟨w.heap.size, 0, none⟩) m m) (w.alloc (.cells (E.all l).toArray e)) := by
    simp only [Nat.mul_one] at hfill
    have h24 : ¬ 2 ^ 24 < m := by omega
    have r1 : (zeroValue e).run P w = .ok z w := by simp [zeroValue, typeInfo, i1, i2, go_sem]
    have r2 : (sizeOf e).run P w = .ok 1 w := by simp [sizeOf, typeInfo, i1, i3, go_sem]
    have r3 : (newRow e (E.all l).toArray).run P w = .ok ⟨w.heap.size, 0, none⟩ (w.alloc (.cells (E.all l).toArray e)) := by simp [newRow, go_sem]
    simp only [Instr.buildSlice, run_underlying hty.und, r2, Sem.run_bind, Result.andThen_ok, Nat.mul_one, gt_iff_lt, h24, hm0, if_false, r1, Sem.run_pure, hzero, hfill, r3]
  refine .val (fun ρ hρ => ?_) (hk (.slice (some ⟨w.heap.size, 0, none⟩) m m) (w.alloc (.cells (E.all l).toArray e)) ?_ (.alloc _ _))
  · simp only [execOp]
    rw [show (parts.toArray.map fun (i, x) => (i, ρ x)) = vs.toArray by rw [List.map_toArray, he ρ hρ parts vs hp]]
    simp only [Sem.run_bind, hrun, Result.andThen_ok, Sem.run_pure]
  · have h := hs.newSl e E.s m m (E.all l) (by unfold maxLen; omega) (Nat.le_refl _) (by rw [hall, hE, Nat.mul_one])
    rw [hE, Nat.mul_one, List.take_of_length_le (by omega)] at h
    unfold cL
    rw [hl, hE]; exact h
/-- Numbers that are not negative. -/
theorem encI_all {k : IntKind} (z : List Int) (h : ∀ x ∈ z, 0 ≤ x) : (encI k).all z = (encN k).all (z.map Int.toNat) := by
  induction z with
  | nil => rfl
  | cons x r ih =>
    rw [List.map_cons, Enc.all_cons, Enc.all_cons, ih fun y hy => h y (by simp [hy])]
    have : ((x.toNat : Nat) : Int) = x := Int.toNat_of_nonneg (h x (by simp))
    show [Value.int k x] ++ _ = [Value.int k ((x.toNat : Nat) : Int)] ++ _
    rw [this]
theorem RdL.nats {k : IntKind} {v : Value} {z : List Int} (hr : RdL w v (encI k) z) (h : ∀ x ∈ z, 0 ≤ x) : RdL w v (encN k) (z.map Int.toNat) := by
  unfold RdL at hr ⊢
  rw [encI_all z h] at hr
  rw [List.length_map]; exact hr
end
end Go.Kw
