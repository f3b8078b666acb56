/-
  KS: elements of several cells (structs) loaded, stored and listed whole; a comparison of the outcome of a comparator. Our own text; it names no program.
-/
import Derived.Test.YtfhbflhnelbkfaaKp
set_option linter.unusedSimpArgs false
set_option linter.unusedVariables false
set_option linter.unusedSectionVars false
namespace Go.Kw
open Go.RowKit

/-- The value of a struct that lies as the encoding says. -/
@[reducible] def Enc.ag {α : Type} (E : Enc α) (a : α) : Value := .agg (E.enc a).toArray

theorem fill_foldl (vs : List Value) : ∀ (k : Nat) (pre rest : List Value), pre.length = k → vs.length ≤ rest.length →
    (vs.zipIdx k).foldl (fun (cs : Array Value) (c, j) => cs.setIfInBounds j c) (pre ++ rest).toArray = (pre ++ vs ++ rest.drop vs.length).toArray := by
  induction vs with
  | nil => intro k pre rest _ _; simp
  | cons v r ih =>
    intro k pre rest hk hl
    cases rest with
    | nil => simp at hl
    | cons q rest =>
      simp only [List.zipIdx_cons, List.foldl_cons]
      have e : ((pre ++ q :: rest).toArray.setIfInBounds k v) = ((pre ++ [v]) ++ rest).toArray := by
        subst hk; simp
      rw [e, ih (k + 1) (pre ++ [v]) rest (by simp [hk]) (by simpa using hl)]
      simp

section
variable {P : Program} {n : Nat} {L : Know} {w w0 : World} {cs : List Chunk} {K : Value → World → Prop} {d : Option Nat} {ty : TypeId} {pos : String} {af : Array Edge} {g : Option (Nat × Bool)} {α : Type} {E : Enc α}

/-- A slice value of so many elements, whatever they are now. -/
def Shp (v : Value) (m : Nat) : Prop := ∃ a cap, v = .slice a m cap ∧ (0 < m → ∃ b o, a = some ⟨b, o, none⟩)
theorem RdL.shp {v : Value} {l : List α} (h : RdL w v E l) (hs : 0 < E.s) : Shp v l.length := by
  obtain ⟨a, cap, rfl, _, hc⟩ := h
  refine ⟨a, cap, rfl, fun hp => ?_⟩
  have hpos : 0 < (E.all l).length := by rw [E.all_length]; exact Nat.mul_pos hp hs
  obtain ⟨b, o, ha, _⟩ := hc 0 _ (List.getElem?_eq_getElem hpos)
  exact ⟨b, o, ha⟩
theorem Ev.idxS {x i : Operand} {t e s b : Nat} {z v : Value} {m j : Nat} {k : IntKind} (hty : SlTy P t e s z b) (hx : evK L x = some v) (hi : evK L i = some (.int k (j : Int))) (h : Shp v m) (hj : j < m) :
    Ev P n L w ⟨d, .indexAddr t x i, ty, pos, af, g⟩ (elPtr v (j * s)) := .of fun ρ hρ => by
  obtain ⟨a, cap, rfl, ha⟩ := h
  obtain ⟨inf, h1, h2, h3, h4⟩ := hty.info
  obtain ⟨bb, o, rfl⟩ := ha (by omega)
  have hk : (0 : Int) ≤ (j : Int) ∧ (j : Int) < (m : Int) := by omega
  simp only [execOp, hρ hx, hρ hi, Instr.indexAt, asIntOf]
  simp [run_underlying hty.und, sizeOf, typeInfo, h1, h3, hk, elPtr, go_sem, hj]

/-- A load of an element of several cells. -/
theorem Ev.ldAgg {x : Operand} {T : TypeId} {v : Value} {j : Nat} {l : List α} {a : α} (hT : aggB P T E.s = true) (hx : evK L x = some (elPtr v (j * E.s))) (h : RdL w v E l) (ha : l[j]? = some a) (hs : 0 < E.s) :
    Ev P n L w ⟨d, .load T x, ty, pos, af, g⟩ (E.ag a) := .of fun ρ hρ => by
  obtain ⟨ad, cap, rfl, _, hc⟩ := h
  have hcell : ∀ q u, (E.enc a)[q]? = some u → (E.all l)[j * E.s + q]? = some u := fun q u hu => by
    have hq : q < E.s := by have := (List.getElem?_eq_some_iff.1 hu).1; rw [E.len] at this; exact this
    rw [E.all_get ha hq]; exact hu
  obtain ⟨u0, hu0⟩ : ∃ u, (E.enc a)[0]? = some u := ⟨_, List.getElem?_eq_getElem (by rw [E.len]; exact hs)⟩
  obtain ⟨bb, o, rfl, _⟩ := hc _ u0 (hcell 0 u0 hu0)
  have hx' : ρ x = .pointer (some ⟨bb, o + j * E.s, none⟩) := by rw [hρ hx]; simp [elPtr, Addr.add_lit]
  have hl := run_loadCells_list (P := P) w ⟨bb, o + j * E.s, none⟩ (E.enc a) (fun q u hu => by
    obtain ⟨b2, o2, hb, hw⟩ := hc _ u (hcell q u hu)
    cases hb; rw [Addr.add_lit, Nat.add_assoc]; exact hw)
  rw [E.len] at hl
  have hag : (isAgg T).run P w = .ok true w := by
    unfold aggB at hT
    cases hun : P.underlying T with
    | none => simp [hun] at hT
    | some D => cases D <;> simp [hun] at hT <;> simp [isAgg, run_underlying hun, go_sem]
  have hsz : (sizeOf T).run P w = .ok E.s w := by
    unfold aggB at hT
    cases hin : P.info? T with
    | none => simp [hin] at hT
    | some inf => simp [hin] at hT; simp [sizeOf, typeInfo, hin, hT.2, go_sem]
  have hld : (Instr.loadAt T (ρ x)).run P w = .ok (E.ag a) w := by
    simp only [Instr.loadAt, loadVar, hx', Instr.sureAddr, Sem.run_bind, Sem.run_pure, Result.andThen_ok, hag, hsz, hl, if_true]
  simp only [execOp, Sem.run_bind, hld, Result.andThen_ok, Sem.run_pure]

theorem all_setA {l : List α} {j : Nat} {a : α} (hj : j < l.length) : (E.all l).take (j * E.s) ++ E.enc a ++ (E.all l).drop (j * E.s + E.s) = E.all (l.set j a) := by
  have e2 : l.set j a = l.take j ++ a :: l.drop (j + 1) := by rw [List.set_eq_take_append_cons_drop]; simp [hj]
  have e3 : j * E.s + E.s = (j + 1) * E.s := by rw [Nat.add_mul]; omega
  rw [e2, E.all_append, E.all_cons, E.all_take, e3, E.all_drop, List.append_assoc]

/-- out[j] = a, a of several cells. -/
theorem OpE.setAgg {x y : Operand} {T e j : Nat} {v : Value} {l : List α} {a : α} (i : Nat) (hT : aggB P T E.s = true) (hs : Sat w0 cs w) (hi : cs[i]? = some (cL v e E l)) (hx : evK L x = some (elPtr v (j * E.s)))
    (hy : evK L y = some (E.ag a)) (hj : j < l.length) (hp : 0 < E.s) (hk : ∀ w', Sat w0 (cs.set i (cL v e E (l.set j a))) w' → Chg (slFoot v) w w' → K undef w') : OpE P n L w ⟨d, .store T x y, ty, pos, af, g⟩ K := by
  have hown := hs.get hi
  have hal := E.all_length l
  obtain ⟨hl, ⟨rfl, hn0⟩ | ⟨g, cap, cur, rfl, hg0, hh, hnc, hcm, hcs, ht⟩⟩ := id hown
  · omega
  have hjs : j * E.s + E.s ≤ l.length * E.s := by
    have : (j + 1) * E.s ≤ l.length * E.s := Nat.mul_le_mul_right _ hj
    rw [Nat.add_mul] at this; omega
  have hcl : l.length * E.s ≤ cur.size := by rw [hcs]; exact Nat.mul_le_mul_right _ hnc
  have hst := run_storeCells_at P g (j * E.s) e (E.enc a) 0 cur w hh (by rw [E.len]; omega) (E.one a)
  rw [Nat.add_zero, E.len] at hst
  cases hin : P.info? T with
  | none => unfold aggB at hT; simp [hin] at hT
  | some inf =>
    have hsz : inf.size = E.s := by unfold aggB at hT; simp [hin] at hT; exact hT.2
    refine .unit (w' := w.setRow g (cur.toList.take (j * E.s) ++ E.enc a ++ cur.toList.drop (j * E.s + E.s)).toArray) (fun ρ hρ => ?_) (hk _ (hs.set i hi ⟨rfl, rfl, rfl, by simp, fun k _ hk => setRow_other w g k _ (fun e => hk (by simp [cL, cSl, slFoot, e]))⟩ ?_ (fun _ hk => .inl hk)) ⟨rfl, rfl, rfl, by simp, fun k _ hk => setRow_other w g k _ (fun e => hk (by simp [slFoot, e]))⟩)
    · have hx' : ρ x = .pointer (some ⟨g, j * E.s, none⟩) := by rw [hρ hx]; simp [elPtr, Addr.add_lit]
      have hrun : (Instr.storeAt T (.pointer (some ⟨g, j * E.s, none⟩)) (E.ag a)).run P w = .ok () (w.setRow g (cur.toList.take (j * E.s) ++ E.enc a ++ cur.toList.drop (j * E.s + E.s)).toArray) := by
        simp [Instr.storeAt, Instr.sureAddr, storeVar, sizeOf, typeInfo, hin, hsz, Value.cells, E.len, hst]
      simp only [execOp, hx', hρ hy, Sem.run_bind, hrun, Result.andThen_ok, Sem.run_pure]
    · refine ⟨E.all_length _, .inr ⟨g, cap, _, ?_, hg0, setRow_heap w g cur _ e _ hh, by rw [List.length_set]; omega, hcm, ?_, ?_⟩⟩
      · rw [List.length_set]
      · simp only [List.size_toArray, List.length_append, List.length_take, List.length_drop, Array.length_toList, E.len]
        rw [hcs]; rw [hcs] at hcl; omega
      · rw [List.length_set, ← all_setA hj, ← ht]
        simp only [List.toList_toArray]
        apply List.ext_getElem?
        intro q
        simp only [List.getElem?_take, List.getElem?_append, List.length_append, List.length_take, Array.length_toList, E.len, List.getElem?_drop, List.length_drop]
        rw [Nat.min_eq_left (by omega : j * E.s ≤ cur.size), Nat.min_eq_left (by omega : l.length * E.s ≤ cur.size), Nat.min_eq_left (by omega : j * E.s ≤ l.length * E.s)]
        by_cases h1 : q < j * E.s
        · simp [h1, show q < j * E.s + E.s by omega, show q < l.length * E.s by omega]
        · by_cases h2 : q < j * E.s + E.s
          · simp [h1, h2, show q < l.length * E.s by omega]
          · simp only [h1, h2, if_false]
            by_cases h3 : q < l.length * E.s
            · simp [h3, show j * E.s + E.s + (q - (j * E.s + E.s)) = q by omega]
            · simp [h3, show ¬ j * E.s + E.s + (q - (j * E.s + E.s)) < l.length * E.s by omega]

/-- []T of one element of several cells. -/
theorem OpE.lit1A {x : Operand} {t e b : Nat} {z : Value} (E : Enc α) (a : α) (hty : SlTy P t e E.s z b) (hp : 0 < E.s) (hs24 : E.s ≤ 16777216) (hs : Sat w0 cs w) (hx : evK L x = some (E.ag a))
    (hk : ∀ u w', Sat w0 (cs ++ [cL u e E [a]]) w' → Chg [] w w' → K u w') : OpE P n L w ⟨d, .buildSlice t 1 #[(0, x)], ty, pos, af, g⟩ K := by
  obtain ⟨inf, i1, i2, i3, i4⟩ := hty.info
  have hz := hty.zs
  refine .val (fun ρ hρ => ?_) (hk (.slice (some ⟨w.heap.size, 0, none⟩) 1 1) (w.alloc (.cells (E.enc a).toArray e)) ?_ (.alloc _ _))
  · have hfill : ∀ zc : Array Value, Instr.fill (fun i => some (i * inf.size, inf.size)) ((Array.range (1 * inf.size)).map (zc[· % zc.size]!)) [(0, E.ag a)] = some (E.enc a).toArray := fun zc => by
      have hf := fill_foldl (E.enc a) 0 [] ((List.range (1 * inf.size)).map (zc[· % zc.size]!)) rfl (by simp [E.len, i3])
      simp only [List.nil_append] at hf
      have hsz : (E.enc a).length = inf.size := by rw [E.len, i3]
      have e1 : (Array.range (1 * inf.size)).map (zc[· % zc.size]!) = ((List.range (1 * inf.size)).map (zc[· % zc.size]!)).toArray := by
        apply Array.ext'; simp
      have e2 : (List.drop (E.enc a).length ((List.range (1 * inf.size)).map (zc[· % zc.size]!))) = [] := List.drop_of_length_le (by simp [hsz])
      rw [e2, List.append_nil] at hf
      rw [e1]
      have hagc : (E.ag a).cells = (E.enc a).toArray := rfl
      simp only [Instr.fill, hagc, Nat.zero_mul, Nat.zero_add]
      rw [if_neg (by simp [hsz])]
      have hz2 : (E.enc a).toArray.zipIdx.toList = (E.enc a).zipIdx := by simp
      rw [← Array.foldl_toList, hz2]
      exact congrArg some hf
    have hrun : (Instr.buildSlice t 1 #[(0, E.ag a)]).run P w = .ok (.slice (some ⟨w.heap.size, 0, none⟩) 1 1) (w.alloc (.cells (E.enc a).toArray e)) := by
      have hf := hfill z.cells
      rw [i3, Nat.one_mul] at hf
      have h24 : ¬ 2 ^ 24 < E.s := by omega
      have h0 : ¬ E.s = 0 := by omega
      have r1 : (zeroValue e).run P w = .ok z w := by simp [zeroValue, typeInfo, i1, i2, go_sem]
      have r2 : (sizeOf e).run P w = .ok E.s w := by simp [sizeOf, typeInfo, i1, i3, go_sem]
      have r3 : (newRow e (E.enc a).toArray).run P w = .ok ⟨w.heap.size, 0, none⟩ (w.alloc (.cells (E.enc a).toArray e)) := by simp [newRow, go_sem]
      simp only [Instr.buildSlice, run_underlying hty.und, r2, Sem.run_bind, Result.andThen_ok, Nat.one_mul, gt_iff_lt, h24, h0, if_false, r1, Sem.run_pure, hf, r3]
    simp only [execOp, List.map_toArray, List.map_cons, List.map_nil, hρ hx, Sem.run_bind, hrun, Result.andThen_ok, Sem.run_pure]
  · have h := hs.newSl e E.s 1 1 (E.enc a) (by unfold maxLen; omega) (Nat.le_refl _) (by rw [E.len]; omega)
    unfold cL
    rw [E.all_one]
    rw [List.take_of_length_le (by rw [E.len]; omega)] at h
    exact h

/-- *p = v, p the head of an object of the call's own and v all of it. -/
theorem OpE.storeObjA {x y : Operand} {T i b : Nat} {U : TypeId} {cells vs : List Value} (hT : aggB P T vs.length = true) (hs : Sat w0 cs w) (hi : cs[i]? = some (cObj b U cells)) (hl : vs.length = cells.length) (hx : evK L x = some (.pointer (some ⟨b, 0, none⟩)))
    (hy : evK L y = some (.agg vs.toArray)) (h1 : ∀ v ∈ vs, v.oneCell' = true) (hk : ∀ w', Sat w0 (cs.set i (cObj b U vs)) w' → Chg [b] w w' → K undef w') : OpE P n L w ⟨d, .store T x y, ty, pos, af, g⟩ K := by
  have hh : w.heap[b]? = some (.cells cells.toArray U (0, 0)) := hs.get hi
  have hst := run_storeCells_at P b 0 U vs 0 cells.toArray w hh (by simp; omega) h1
  have hcur : (cells.toArray.toList.take (0 + 0) ++ vs ++ cells.toArray.toList.drop (0 + 0 + vs.length)) = vs := by simp [hl]
  rw [hcur] at hst
  cases hin : P.info? T with
  | none => unfold aggB at hT; simp [hin] at hT
  | some inf =>
    have hsz : inf.size = vs.length := by unfold aggB at hT; simp [hin] at hT; exact hT.2
    refine .unit (w' := w.setRow b vs.toArray) (fun ρ hρ => ?_) (hk _ (hs.set i hi ⟨rfl, rfl, rfl, by simp, fun k _ hk => setRow_other w b k _ (fun e => hk (by simp [cObj, e]))⟩ (setRow_heap w b _ _ U _ hh) (fun _ hk => .inl hk)) ⟨rfl, rfl, rfl, by simp, fun k _ hk => setRow_other w b k _ (fun e => hk (by simp [e]))⟩)
    have hrun : (Instr.storeAt T (.pointer (some ⟨b, 0, none⟩)) (.agg vs.toArray)).run P w = .ok () (w.setRow b vs.toArray) := by
      simp [Instr.storeAt, Instr.sureAddr, storeVar, sizeOf, typeInfo, hin, hsz, Value.cells, hst]
    simp only [execOp, hρ hx, hρ hy, Sem.run_bind, hrun, Result.andThen_ok, Sem.run_pure]

theorem run_eqlSl (t e : TypeId) (a : Option Addr) (m c : Nat) (h : P.underlying t = some (.slice e)) (w : World) : (binOp .eql t (.slice a m c) (.slice none 0 0)).run P w = .ok (.bool a.isNone) w := by
  have : ∀ d, (Op.equalIn (d + 1) t (.slice a m c) (.slice none 0 0)).run P w = .ok a.isNone w := fun d => by cases a <;> simp [Op.equalIn, run_underlying h]
  simp only [binOp]
  simp [Op.equal, Op.maxDepth, this 9999]
theorem run_neqSl (t e : TypeId) (a : Option Addr) (m c : Nat) (h : P.underlying t = some (.slice e)) (w : World) : (binOp .neq t (.slice a m c) (.slice none 0 0)).run P w = .ok (.bool (!a.isNone)) w := by
  have : ∀ d, (Op.equalIn (d + 1) t (.slice a m c) (.slice none 0 0)).run P w = .ok a.isNone w := fun d => by cases a <;> simp [Op.equalIn, run_underlying h]
  simp only [binOp]
  simp [Op.equal, Op.maxDepth, this 9999]
theorem run_eqlPt (t e : TypeId) (a : Option Addr) (h : P.underlying t = some (.pointer e)) (w : World) : (binOp .eql t (.pointer a) (.pointer none)).run P w = .ok (.bool a.isNone) w := by
  have : ∀ d, (Op.equalIn (d + 1) t (.pointer a) (.pointer none)).run P w = .ok a.isNone w := fun d => by cases a <;> simp [Op.equalIn, run_underlying h]
  simp only [binOp]
  simp [Op.equal, Op.maxDepth, this 9999]
theorem run_neqPt (t e : TypeId) (a : Option Addr) (h : P.underlying t = some (.pointer e)) (w : World) : (binOp .neq t (.pointer a) (.pointer none)).run P w = .ok (.bool (!a.isNone)) w := by
  have : ∀ d, (Op.equalIn (d + 1) t (.pointer a) (.pointer none)).run P w = .ok a.isNone w := fun d => by cases a <;> simp [Op.equalIn, run_underlying h]
  simp only [binOp]
  simp [Op.equal, Op.maxDepth, this 9999]
section
variable {x y : Operand} {t e T : TypeId} {v : Value} {m : Nat}
/-- s == nil, s of some elements. -/
theorem Ev.eqlSlF (hu : P.underlying t = some (.slice e)) (hx : evK L x = some v) (hy : evK L y = some (.slice none 0 0)) (h : Shp v m) (hm : 0 < m) : Ev P n L w ⟨d, .binOp .eql t x y T, ty, pos, af, g⟩ (.bool false) := by
  obtain ⟨a, c, rfl, ha⟩ := h
  obtain ⟨b, o, rfl⟩ := ha hm
  exact .bin hx hy (by rfl) fun w => run_eqlSl t e _ m c hu w
theorem Ev.neqSlT (hu : P.underlying t = some (.slice e)) (hx : evK L x = some v) (hy : evK L y = some (.slice none 0 0)) (h : Shp v m) (hm : 0 < m) : Ev P n L w ⟨d, .binOp .neq t x y T, ty, pos, af, g⟩ (.bool true) := by
  obtain ⟨a, c, rfl, ha⟩ := h
  obtain ⟨b, o, rfl⟩ := ha hm
  exact .bin hx hy (by rfl) fun w => run_neqSl t e _ m c hu w
theorem Ev.eqlSlN (hu : P.underlying t = some (.slice e)) (hx : evK L x = some (.slice none m m)) (hy : evK L y = some (.slice none 0 0)) : Ev P n L w ⟨d, .binOp .eql t x y T, ty, pos, af, g⟩ (.bool true) :=
  .bin hx hy (by rfl) fun w => run_eqlSl t e _ m m hu w
theorem Ev.neqSlN (hu : P.underlying t = some (.slice e)) (hx : evK L x = some (.slice none m m)) (hy : evK L y = some (.slice none 0 0)) : Ev P n L w ⟨d, .binOp .neq t x y T, ty, pos, af, g⟩ (.bool false) :=
  .bin hx hy (by rfl) fun w => run_neqSl t e _ m m hu w
theorem Ev.eqlPt {a : Option Addr} (hu : P.underlying t = some (.pointer e)) (hx : evK L x = some (.pointer a)) (hy : evK L y = some (.pointer none)) : Ev P n L w ⟨d, .binOp .eql t x y T, ty, pos, af, g⟩ (.bool a.isNone) :=
  .bin hx hy (by rfl) fun w => run_eqlPt t e a hu w
theorem Ev.neqPt {a : Option Addr} (hu : P.underlying t = some (.pointer e)) (hx : evK L x = some (.pointer a)) (hy : evK L y = some (.pointer none)) : Ev P n L w ⟨d, .binOp .neq t x y T, ty, pos, af, g⟩ (.bool (!a.isNone)) :=
  .bin hx hy (by rfl) fun w => run_neqPt t e a hu w
end
theorem cells_one {v : Value} (h : v.oneCell' = true) : v.cells.toList = [v] := by cases v <;> first | rfl | cases h
theorem Ev.makeFunc0 {f : FuncId} : Ev P n L w ⟨d, .makeFunc (.func f) #[] #[], ty, pos, af, g⟩ (.func (.func f) #[] #[]) := .of fun ρ hρ => by
  simp [execOp, Instr.makeFunc, go_sem]
theorem Ev.makeFunc1 {x : Operand} {f : FuncId} {v : Value} (hx : evK L x = some v) : Ev P n L w ⟨d, .makeFunc (.func f) #[] #[x], ty, pos, af, g⟩ (.func (.func f) #[] #[v]) := .of fun ρ hρ => by
  simp [execOp, Instr.makeFunc, hρ hx, go_sem]
/-- What a comparator answered, compared with 0. -/
theorem Ev.lssCmp {x y : Operand} {z : Int} {p : Prop} [Decidable p] {k : IntKind} {o : TypeId} {T : TypeId} (hx : evK L x = some (.int k z)) (hy : evK L y = some (.int k 0)) (hz : z < 0 ↔ p) :
    Ev P n L w ⟨d, .binOp .lss o x y T, ty, pos, af, g⟩ (.bool (decide p)) := by
  have : decide p = decide (z < 0) := by simp [hz]
  rw [this]
  exact Ev.lss hx hy
end
end Go.Kw
