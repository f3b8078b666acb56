/-
  KA: pairs of slice values as elements; a literal of two of them. Our own text; it names no program.
-/
import Derived.Test.YtfhbflhnelbkfaaKr
set_option linter.unusedSimpArgs false
set_option linter.unusedVariables false
set_option linter.unusedSectionVars false
namespace Go.Kw
open Go.RowKit
section
variable {P : Program} {n : Nat} {L : Know} {w w0 : World} {cs : List Chunk} {K : Value → World → Prop} {d : Option Nat} {ty : TypeId} {pos : String} {af : Array Edge} {g : Option (Nat × Bool)}
/-- Two values of one cell each. -/
structure VV where
  a : Value
  b : Value
  ha : a.oneCell' = true
  hb : b.oneCell' = true
def encVV : Enc VV := ⟨2, fun x => [x.a, x.b], fun _ => rfl, fun x u h => by
  simp only [List.mem_cons, List.not_mem_nil, or_false] at h
  rcases h with rfl | rfl
  · exact x.ha
  · exact x.hb⟩
theorem OpE.lit2VV {x y : Operand} {t e b : Nat} {z : Value} (p q : VV) (hty : SlTy P t e 2 z b) (hs : Sat w0 cs w) (hx : evK L x = some (encVV.ag p)) (hy : evK L y = some (encVV.ag q))
    (hk : ∀ u w', Sat w0 (cs ++ [cL u e encVV [p, q]]) w' → Chg [] w w' → K u w') : OpE P n L w ⟨d, .buildSlice t 2 #[(0, x), (1, y)], ty, pos, af, g⟩ K := by
  obtain ⟨inf, i1, i2, i3, i4⟩ := hty.info
  have hz := hty.zs
  refine .val (fun ρ hρ => ?_) (hk (.slice (some ⟨w.heap.size, 0, none⟩) 2 2) (w.alloc (.cells (encVV.all [p, q]).toArray e)) ?_ (.alloc _ _))
  · have hfill : ∀ zc : Array Value, Instr.fill (fun i => some (i * 2, 2)) ((Array.range (2 * 2)).map (zc[· % zc.size]!)) [(0, encVV.ag p), (1, encVV.ag q)] = some (encVV.all [p, q]).toArray := fun zc => by
      have e0 : (Array.range (2 * 2)).map (zc[· % zc.size]!) = #[zc[0 % zc.size]!, zc[1 % zc.size]!, zc[2 % zc.size]!, zc[3 % zc.size]!] := by
        apply Array.ext'; simp [List.range, List.range.loop]
      rw [e0]
      rfl
    have hrun : (Instr.buildSlice t 2 #[(0, encVV.ag p), (1, encVV.ag q)]).run P w = .ok (.slice (some ⟨w.heap.size, 0, none⟩) 2 2) (w.alloc (.cells (encVV.all [p, q]).toArray e)) := by
      have hf := hfill z.cells
      have h24 : ¬ 2 ^ 24 < 2 * 2 := by decide
      have h0 : ¬ (2 * 2 : Nat) = 0 := by decide
      have r1 : (zeroValue e).run P w = .ok z w := by simp [zeroValue, typeInfo, i1, i2, go_sem]
      have r2 : (sizeOf e).run P w = .ok 2 w := by simp [sizeOf, typeInfo, i1, i3, go_sem]
      have r3 : (newRow e (encVV.all [p, q]).toArray).run P w = .ok ⟨w.heap.size, 0, none⟩ (w.alloc (.cells (encVV.all [p, q]).toArray e)) := by simp [newRow, go_sem]
      simp only [Instr.buildSlice, run_underlying hty.und, r2, Sem.run_bind, Result.andThen_ok, gt_iff_lt, h24, h0, if_false, r1, Sem.run_pure, hf, r3]
    simp only [execOp, List.map_toArray, List.map_cons, List.map_nil, hρ hx, hρ hy, Sem.run_bind, hrun, Result.andThen_ok, Sem.run_pure]
  · have h := hs.newSl e 2 2 2 (encVV.all [p, q]) (by unfold maxLen; omega) (Nat.le_refl _) rfl
    unfold cL
    exact h
end
section
variable {P : Program} {n : Nat} {fn : Func} {Φ : Value → World → Prop} {L : Know} {w : World}
theorem post4 {t u s q : Nat} {a b c d : Value} (hr : fn.results = #[.tmp t, .tmp u, .tmp s, .tmp q]) (ha : look L t = some a) (hb : look L u = some b) (hc : look L s = some c) (hd : look L q = some d) (h : Φ (.tuple #[a, b, c, d]) w) : PostK P n fn Φ L w := fun z hz => by
  have h1 := hz.slot t _ ha
  have h2 := hz.slot u _ hb
  have h3 := hz.slot s _ hc
  have h4 := hz.slot q _ hd
  refine ⟨_, ?_, h⟩
  simp [results, hr, Array.getD_eq_getD_getElem?, h1, h2, h3, h4, loadVar]
theorem post4c {t T b u s q : Nat} {vs : List Value} {x y z : Value} (hr : fn.results = #[.cell t T, .tmp u, .tmp s, .tmp q]) (hv : look L t = some (.pointer (some ⟨b, 0, none⟩))) (hx : look L u = some x) (hy : look L s = some y) (hz : look L q = some z) (hT : aggB P T vs.length = true) (hc : ∀ j u, vs[j]? = some u → w.cell? ⟨b, j, none⟩ = some u)
    (h : Φ (.tuple #[.agg vs.toArray, x, y, z]) w) : PostK P n fn Φ L w := fun a ha => by
  have h1 := ha.slot t _ hv
  have h2 := ha.slot u _ hx
  have h3 := ha.slot s _ hy
  have h4 := ha.slot q _ hz
  refine ⟨_, ?_, h⟩
  simp [results, hr, Array.getD_eq_getD_getElem?, h1, h2, h3, h4, asAddr, loadVar_agg hT hc]
end
end Go.Kw
