/-
  KP: more operations for the program logic of Kw: building structs, boxes, masks, signed shifts. Our own text; it names no program.
-/
import Derived.Test.YtecfgjdpghddgaaGreatDoorKo
import Derived.ProofKit
import Derived.HandedShaped
import Derived.LaidMore
import Derived.Laws.BytesString
import Derived.Laws.Strings
import Derived.Laws.Cover1
import Derived.ScopeJumps
set_option linter.unusedVariables false
set_option linter.unusedSimpArgs false
set_option linter.unusedSectionVars false
namespace Go.Kw
open Go.RowKit
def setParts (pl : List (Nat × Nat)) : List (Nat × Value) → List Value → Option (List Value)
  | [], zs => some zs
  | (i, v) :: r, zs => match pl[i]? with
    | some (off, 1) => cond (Nat.ble (off + 1) zs.length) (setParts pl r (zs.set off v)) none
    | _ => none
def AllOne : List (Nat × Value) → Prop
  | [] => True
  | (_, v) :: r => v.oneCell' = true ∧ AllOne r
def evParts (L : Know) : List (Nat × Operand) → Option (List (Nat × Value))
  | [] => some []
  | (i, x) :: r => (evK L x).bind fun v => (evParts L r).map ((i, v) :: ·)
structure BuildTy (P : Program) (T : TypeId) (pl : List (Nat × Nat)) (zs : List Value) : Prop where
  zero : (P.info? T).map (·.zero) = some (some (.agg zs.toArray))
  und : ∃ fs, P.underlying T = some (.struct fs) ∧ ∀ w, (fs.mapM fun f => do pure (f.offset, ← sizeOf f.type) : Sem _).run P w = .ok pl.toArray w
theorem fill_parts (pl : List (Nat × Nat)) : ∀ (parts : List (Nat × Value)) (zs out : List Value), AllOne parts → setParts pl parts zs = some out → Instr.fill (pl.toArray[·]?) zs.toArray parts = some out.toArray
  | [], zs, out, _, h => by simp only [setParts, Option.some.injEq] at h; subst h; rfl
  | (i, v) :: r, zs, out, h1, h => by
    have hvc : v.cells = #[v] := by have := h1.1; cases v <;> first | rfl | cases this
    unfold setParts at h
    cases hp : pl[i]? with
    | none => simp [hp] at h
    | some q =>
      obtain ⟨off, s⟩ := q
      rw [hp] at h
      match s, h with
      | 1, h =>
        simp only at h
        cases hb : Nat.ble (off + 1) zs.length with
        | false => simp [hb] at h
        | true =>
          rw [hb] at h
          have hle := Nat.le_of_ble_eq_true hb
          have ih := fill_parts pl r (zs.set off v) out h1.2 h
          simp only [Instr.fill, List.getElem?_toArray, hp, hvc]
          simp only [List.size_toArray, List.length_cons, List.length_nil, Nat.zero_add, ne_eq, not_true, decide_false, Bool.false_or, gt_iff_lt]
          rw [if_neg (by simp; omega)]
          simpa using ih
section
variable {P : Program} {n : Nat} {L : Know} {w w0 : World} {cs : List Chunk} {K : Value → World → Prop} {d : Option Nat} {ty : TypeId} {pos : String} {af : Array Edge} {g : Option (Nat × Bool)}
theorem Ev.build {T : TypeId} {pl : List (Nat × Nat)} {zs out : List Value} {parts : List (Nat × Operand)} {vs : List (Nat × Value)} (hb : BuildTy P T pl zs) (hp : evParts L parts = some vs) (h1 : AllOne vs) (ho : setParts pl vs zs = some out) :
    Ev P n L w ⟨d, .build T parts.toArray, ty, pos, af, g⟩ (.agg out.toArray) := .of fun ρ hρ => by
  have he : ∀ (parts : List (Nat × Operand)) (vs : List (Nat × Value)), evParts L parts = some vs → parts.map (fun (i, x) => (i, ρ x)) = vs := by
    intro parts
    induction parts with
    | nil => intro vs h; simp [evParts] at h; simp [h]
    | cons p r ih =>
      intro vs h
      obtain ⟨i, x⟩ := p
      simp only [evParts, Option.bind_eq_some_iff, Option.map_eq_some_iff] at h
      obtain ⟨v, hv, us, hus, rfl⟩ := h
      simp [hρ hv, ih us hus]
  obtain ⟨fs, hu, hpl⟩ := hb.und
  have hz := hb.zero
  have hfill := fill_parts pl vs zs out h1 ho
  cases hi : P.info? T with
  | none => simp [hi] at hz
  | some inf =>
    simp [hi] at hz
    have hrun : (Instr.build T vs.toArray).run P w = .ok (.agg out.toArray) w := by
      simp only [Instr.build, zeroValue, typeInfo, Sem.run_bind]
      simp [hi, hz, run_underlying hu]
      have := hpl w
      simp at this
      have hfill' : Instr.fill (fun x => pl[x]?) zs.toArray vs = some out.toArray := by simpa using hfill
      simp [this, Value.cells, hfill']
    simp only [execOp]
    rw [show (parts.toArray.map fun (i, x) => (i, ρ x)) = vs.toArray by rw [List.map_toArray, he parts vs hp]]
    simp only [Sem.run_bind, hrun, Result.andThen_ok, Sem.run_pure]
theorem and_mask (a m : Nat) : a &&& (2 ^ m - 1) = a % 2 ^ m := Nat.and_two_pow_sub_one_eq_mod a m
theorem Ev.maskN {x y : Operand} {xt yt : TypeId} {k : IntKind} {a b : Nat} (m : Nat) (hx : evK L x = some (.int k (a : Int))) (hy : evK L y = some (.int k (b : Int))) (hk : k.signed = false) (hm : b = 2 ^ m - 1) (ha : a < 2 ^ k.bits) (hb : b < 2 ^ k.bits) :
    Ev P n L w ⟨d, .binOp .and xt x y yt, ty, pos, af, g⟩ (.int k ((a % 2 ^ m : Nat) : Int)) := by
  have := Ev.andN (P := P) (n := n) (w := w) (d := d) (xt := xt) (yt := yt) (ty := ty) (pos := pos) (af := af) (g := g) hx hy hk ha hb
  rwa [hm, and_mask] at this
theorem OpE.lit0 {t e b : Nat} {z : Value} {α : Type} (E : Enc α) (hty : SlTy P t e E.s z b) (hs : Sat w0 cs w)
    (hk : ∀ u w', Sat w0 (cs ++ [cL u e E []]) w' → Chg [] w w' → K u w') : OpE P n L w ⟨d, .buildSlice t 0 #[], ty, pos, af, g⟩ K := by
  obtain ⟨inf, i1, i2, i3, i4⟩ := hty.info
  refine .val (fun ρ hρ => ?_) (hk _ _ (by have := hs.newSl e E.s 0 0 [] (by unfold maxLen; omega) (Nat.le_refl _) (by simp); rw [List.take_nil] at this; exact this) (.alloc _ _))
  have hrun : (Instr.buildSlice t 0 #[]).run P w = .ok (.slice (some ⟨w.heap.size, 0, none⟩) 0 0) (w.alloc (.cells #[] e)) := by
    simp [Instr.buildSlice, run_underlying hty.und, sizeOf, typeInfo, i1, i3, Instr.fill, newRow]
    simp [show Array.range 0 = (#[] : Array Nat) from rfl]
  simp only [execOp, List.map_toArray, List.map_nil, Sem.run_bind, hrun, Result.andThen_ok, Sem.run_pure]
structure ArrTy (P : Program) (T m e s : Nat) : Prop where
  und : P.underlying T = some (.array m e)
  size : (P.info? e).map (·.size) = some s
theorem Ev.idxArr {x i : Operand} {T m e s b o j : Nat} {k : IntKind} (hT : ArrTy P T m e s) (hx : evK L x = some (.pointer (some ⟨b, o, none⟩))) (hi : evK L i = some (.int k (j : Int))) (hj : j < m) :
    Ev P n L w ⟨d, .indexAddr T x i, ty, pos, af, g⟩ (.pointer (some ⟨b, o + j * s, none⟩)) := .of fun ρ hρ => by
  have hk : (0 : Int) ≤ (j : Int) ∧ (j : Int) < (m : Int) := by omega
  have hz := hT.size
  cases hin : P.info? e with
  | none => simp [hin] at hz
  | some inf =>
    simp [hin] at hz
    simp only [execOp, hρ hx, hρ hi, Instr.indexAt, asIntOf, Sem.run_bind, run_underlying hT.und, Result.andThen_ok]
    simp [Instr.sureAddr, sizeOf, typeInfo, hin, hz, hk, hj, Addr.add_lit, go_sem]
theorem Sat.cellArr {α : Type} {E : Enc α} (h : Sat w0 cs w) (i : Nat) {b T j : Nat} {l : List α} {a : α} {u : Value} (hi : cs[i]? = some (cObj b T (E.all l))) (ha : l[j]? = some a) (hs : 0 < E.s) (hu : (E.enc a)[0]? = some u) : w.cell? ⟨b, 0 + j * E.s, none⟩ = some u := by
  rw [Nat.zero_add]
  have := E.all_get ha hs
  rw [Nat.add_zero] at this
  exact h.cell hi (by rw [this]; exact hu)
theorem OpE.setArr {α : Type} {E : Enc α} {x y : Operand} {T U b j : Nat} {u : Value} {l : List α} {a : α} (i : Nat) (hT : (P.info? T).map (·.size) = some 1) (hs : Sat w0 cs w) (hi : cs[i]? = some (cObj b U (E.all l))) (hx : evK L x = some (.pointer (some ⟨b, 0 + j * E.s, none⟩)))
    (hy : evK L y = some u) (he : E.enc a = [u]) (hj : j < l.length) (hk : ∀ w', Sat w0 (cs.set i (cObj b U (E.all (l.set j a)))) w' → Chg [b] w w' → K undef w') : OpE P n L w ⟨d, .store T x y, ty, pos, af, g⟩ K := by
  have h1 : E.s = 1 := by have := E.len a; rw [he] at this; simpa using this.symm
  have hget : (E.all l)[j * E.s]? = some _ := List.getElem?_eq_getElem (by rw [E.all_length]; exact Nat.mul_lt_mul_of_pos_right hj (by omega))
  rw [Nat.zero_add] at hx
  refine OpE.storeObj hT hs hi hx hy (E.one a u (by rw [he]; simp)) hget fun w' hS hC => hk w' ?_ hC
  rw [all_set he hj] at hS
  exact hS
end
end Go.Kw
namespace Go.Kw
open Go.RowKit
@[reducible] def Enc.ag {α : Type} (E : Enc α) (a : α) : Value := .agg (E.enc a).toArray
theorem fill_foldl (vs : List Value) : ∀ (k : Nat) (pre rest : List Value), pre.length = k → vs.length ≤ rest.length →
    (vs.zipIdx k).foldl (fun (cs : Array Value) (c, j) => cs.setIfInBounds j c) (pre ++ rest).toArray = (pre ++ vs ++ rest.drop vs.length).toArray := by
  induction vs with
  | nil => intro k pre rest _ _; simp
  | cons v r ih =>
    intro k pre rest hk hl
    cases rest with
    | nil => simp at hl
    | cons q rest =>
      simp only [List.zipIdx_cons, List.foldl_cons]
      have e : ((pre ++ q :: rest).toArray.setIfInBounds k v) = ((pre ++ [v]) ++ rest).toArray := by
        subst hk; simp
      rw [e, ih (k + 1) (pre ++ [v]) rest (by simp [hk]) (by simpa using hl)]
      simp
section
variable {P : Program} {n : Nat} {L : Know} {w w0 : World} {cs : List Chunk} {K : Value → World → Prop} {d : Option Nat} {ty : TypeId} {pos : String} {af : Array Edge} {g : Option (Nat × Bool)} {α : Type} {E : Enc α}
def Shp (v : Value) (m : Nat) : Prop := ∃ a cap, v = .slice a m cap ∧ (0 < m → ∃ b o, a = some ⟨b, o, none⟩)
theorem RdL.shp {v : Value} {l : List α} (h : RdL w v E l) (hs : 0 < E.s) : Shp v l.length := by
  obtain ⟨a, cap, rfl, _, hc⟩ := h
  refine ⟨a, cap, rfl, fun hp => ?_⟩
  have hpos : 0 < (E.all l).length := by rw [E.all_length]; exact Nat.mul_pos hp hs
  obtain ⟨b, o, ha, _⟩ := hc 0 _ (List.getElem?_eq_getElem hpos)
  exact ⟨b, o, ha⟩
theorem Ev.ldAgg {x : Operand} {T : TypeId} {v : Value} {j : Nat} {l : List α} {a : α} (hT : aggB P T E.s = true) (hx : evK L x = some (elPtr v (j * E.s))) (h : RdL w v E l) (ha : l[j]? = some a) (hs : 0 < E.s) :
    Ev P n L w ⟨d, .load T x, ty, pos, af, g⟩ (E.ag a) := .of fun ρ hρ => by
  obtain ⟨ad, cap, rfl, _, hc⟩ := h
  have hcell : ∀ q u, (E.enc a)[q]? = some u → (E.all l)[j * E.s + q]? = some u := fun q u hu => by
    have hq : q < E.s := by have := (List.getElem?_eq_some_iff.1 hu).1; rw [E.len] at this; exact this
    rw [E.all_get ha hq]; exact hu
  obtain ⟨u0, hu0⟩ : ∃ u, (E.enc a)[0]? = some u := ⟨_, List.getElem?_eq_getElem (by rw [E.len]; exact hs)⟩
  obtain ⟨bb, o, rfl, _⟩ := hc _ u0 (hcell 0 u0 hu0)
  have hx' : ρ x = .pointer (some ⟨bb, o + j * E.s, none⟩) := by rw [hρ hx]; simp [elPtr, Addr.add_lit]
  have hl := run_loadCells_list (P := P) w ⟨bb, o + j * E.s, none⟩ (E.enc a) (fun q u hu => by
    obtain ⟨b2, o2, hb, hw⟩ := hc _ u (hcell q u hu)
    cases hb; rw [Addr.add_lit, Nat.add_assoc]; exact hw)
  rw [E.len] at hl
  have hag : (isAgg T).run P w = .ok true w := by
    unfold aggB at hT
    cases hun : P.underlying T with
    | none => simp [hun] at hT
    | some D => cases D <;> simp [hun] at hT <;> simp [isAgg, run_underlying hun, go_sem]
  have hsz : (sizeOf T).run P w = .ok E.s w := by
    unfold aggB at hT
    cases hin : P.info? T with
    | none => simp [hin] at hT
    | some inf => simp [hin] at hT; simp [sizeOf, typeInfo, hin, hT.2, go_sem]
  have hld : (Instr.loadAt T (ρ x)).run P w = .ok (E.ag a) w := by
    simp only [Instr.loadAt, loadVar, hx', Instr.sureAddr, Sem.run_bind, Sem.run_pure, Result.andThen_ok, hag, hsz, hl, if_true]
  simp only [execOp, Sem.run_bind, hld, Result.andThen_ok, Sem.run_pure]
theorem OpE.lit1A {x : Operand} {t e b : Nat} {z : Value} (E : Enc α) (a : α) (hty : SlTy P t e E.s z b) (hp : 0 < E.s) (hs24 : E.s ≤ 16777216) (hs : Sat w0 cs w) (hx : evK L x = some (E.ag a))
    (hk : ∀ u w', Sat w0 (cs ++ [cL u e E [a]]) w' → Chg [] w w' → K u w') : OpE P n L w ⟨d, .buildSlice t 1 #[(0, x)], ty, pos, af, g⟩ K := by
  obtain ⟨inf, i1, i2, i3, i4⟩ := hty.info
  have hz := hty.zs
  refine .val (fun ρ hρ => ?_) (hk (.slice (some ⟨w.heap.size, 0, none⟩) 1 1) (w.alloc (.cells (E.enc a).toArray e)) ?_ (.alloc _ _))
  · have hfill : ∀ zc : Array Value, Instr.fill (fun i => some (i * inf.size, inf.size)) ((Array.range (1 * inf.size)).map (zc[· % zc.size]!)) [(0, E.ag a)] = some (E.enc a).toArray := fun zc => by
      have hf := fill_foldl (E.enc a) 0 [] ((List.range (1 * inf.size)).map (zc[· % zc.size]!)) rfl (by simp [E.len, i3])
      simp only [List.nil_append] at hf
      have hsz : (E.enc a).length = inf.size := by rw [E.len, i3]
      have e1 : (Array.range (1 * inf.size)).map (zc[· % zc.size]!) = ((List.range (1 * inf.size)).map (zc[· % zc.size]!)).toArray := by
        apply Array.ext'; simp
      have e2 : (List.drop (E.enc a).length ((List.range (1 * inf.size)).map (zc[· % zc.size]!))) = [] := List.drop_of_length_le (by simp [hsz])
      rw [e2, List.append_nil] at hf
      rw [e1]
      have hagc : (E.ag a).cells = (E.enc a).toArray := rfl
      simp only [Instr.fill, hagc, Nat.zero_mul, Nat.zero_add]
      rw [if_neg (by simp [hsz])]
      have hz2 : (E.enc a).toArray.zipIdx.toList = (E.enc a).zipIdx := by simp
      rw [← Array.foldl_toList, hz2]
      exact congrArg some hf
    have hrun : (Instr.buildSlice t 1 #[(0, E.ag a)]).run P w = .ok (.slice (some ⟨w.heap.size, 0, none⟩) 1 1) (w.alloc (.cells (E.enc a).toArray e)) := by
      have hf := hfill z.cells
      rw [i3, Nat.one_mul] at hf
      have h24 : ¬ 2 ^ 24 < E.s := by omega
      have h0 : ¬ E.s = 0 := by omega
      have r1 : (zeroValue e).run P w = .ok z w := by simp [zeroValue, typeInfo, i1, i2, go_sem]
      have r2 : (sizeOf e).run P w = .ok E.s w := by simp [sizeOf, typeInfo, i1, i3, go_sem]
      have r3 : (newRow e (E.enc a).toArray).run P w = .ok ⟨w.heap.size, 0, none⟩ (w.alloc (.cells (E.enc a).toArray e)) := by simp [newRow, go_sem]
      simp only [Instr.buildSlice, run_underlying hty.und, r2, Sem.run_bind, Result.andThen_ok, Nat.one_mul, gt_iff_lt, h24, h0, if_false, r1, Sem.run_pure, hf, r3]
    simp only [execOp, List.map_toArray, List.map_cons, List.map_nil, hρ hx, Sem.run_bind, hrun, Result.andThen_ok, Sem.run_pure]
  · have h := hs.newSl e E.s 1 1 (E.enc a) (by unfold maxLen; omega) (Nat.le_refl _) (by rw [E.len]; omega)
    unfold cL
    rw [E.all_one]
    rw [List.take_of_length_le (by rw [E.len]; omega)] at h
    exact h
theorem OpE.storeObjA {x y : Operand} {T i b : Nat} {U : TypeId} {cells vs : List Value} (hT : aggB P T vs.length = true) (hs : Sat w0 cs w) (hi : cs[i]? = some (cObj b U cells)) (hl : vs.length = cells.length) (hx : evK L x = some (.pointer (some ⟨b, 0, none⟩)))
    (hy : evK L y = some (.agg vs.toArray)) (h1 : ∀ v ∈ vs, v.oneCell' = true) (hk : ∀ w', Sat w0 (cs.set i (cObj b U vs)) w' → Chg [b] w w' → K undef w') : OpE P n L w ⟨d, .store T x y, ty, pos, af, g⟩ K := by
  have hh : w.heap[b]? = some (.cells cells.toArray U (0, 0)) := hs.get hi
  have hst := run_storeCells_at P b 0 U vs 0 cells.toArray w hh (by simp; omega) h1
  have hcur : (cells.toArray.toList.take (0 + 0) ++ vs ++ cells.toArray.toList.drop (0 + 0 + vs.length)) = vs := by simp [hl]
  rw [hcur] at hst
  cases hin : P.info? T with
  | none => unfold aggB at hT; simp [hin] at hT
  | some inf =>
    have hsz : inf.size = vs.length := by unfold aggB at hT; simp [hin] at hT; exact hT.2
    refine .unit (w' := w.setRow b vs.toArray) (fun ρ hρ => ?_) (hk _ (hs.set i hi ⟨rfl, rfl, rfl, by simp, fun k _ hk => setRow_other w b k _ (fun e => hk (by simp [cObj, e]))⟩ (setRow_heap w b _ _ U _ hh) (fun _ hk => .inl hk)) ⟨rfl, rfl, rfl, by simp, fun k _ hk => setRow_other w b k _ (fun e => hk (by simp [e]))⟩)
    have hrun : (Instr.storeAt T (.pointer (some ⟨b, 0, none⟩)) (.agg vs.toArray)).run P w = .ok () (w.setRow b vs.toArray) := by
      simp [Instr.storeAt, Instr.sureAddr, storeVar, sizeOf, typeInfo, hin, hsz, Value.cells, hst]
    simp only [execOp, hρ hx, hρ hy, Sem.run_bind, hrun, Result.andThen_ok, Sem.run_pure]
theorem run_eqlSl (t e : TypeId) (a : Option Addr) (m c : Nat) (h : P.underlying t = some (.slice e)) (w : World) : (binOp .eql t (.slice a m c) (.slice none 0 0)).run P w = .ok (.bool a.isNone) w := by
  have : ∀ d, (Op.equalIn (d + 1) t (.slice a m c) (.slice none 0 0)).run P w = .ok a.isNone w := fun d => by cases a <;> simp [Op.equalIn, run_underlying h]
  simp only [binOp]
  simp [Op.equal, Op.maxDepth, this 9999]
theorem run_eqlPt (t e : TypeId) (a : Option Addr) (h : P.underlying t = some (.pointer e)) (w : World) : (binOp .eql t (.pointer a) (.pointer none)).run P w = .ok (.bool a.isNone) w := by
  have : ∀ d, (Op.equalIn (d + 1) t (.pointer a) (.pointer none)).run P w = .ok a.isNone w := fun d => by cases a <;> simp [Op.equalIn, run_underlying h]
  simp only [binOp]
  simp [Op.equal, Op.maxDepth, this 9999]
section
variable {x y : Operand} {t e T : TypeId} {v : Value} {m : Nat}
theorem Ev.eqlSlF (hu : P.underlying t = some (.slice e)) (hx : evK L x = some v) (hy : evK L y = some (.slice none 0 0)) (h : Shp v m) (hm : 0 < m) : Ev P n L w ⟨d, .binOp .eql t x y T, ty, pos, af, g⟩ (.bool false) := by
  obtain ⟨a, c, rfl, ha⟩ := h
  obtain ⟨b, o, rfl⟩ := ha hm
  exact .bin hx hy (by rfl) fun w => run_eqlSl t e _ m c hu w
theorem Ev.eqlPt {a : Option Addr} (hu : P.underlying t = some (.pointer e)) (hx : evK L x = some (.pointer a)) (hy : evK L y = some (.pointer none)) : Ev P n L w ⟨d, .binOp .eql t x y T, ty, pos, af, g⟩ (.bool a.isNone) :=
  .bin hx hy (by rfl) fun w => run_eqlPt t e a hu w
end
theorem Ev.makeFunc1 {x : Operand} {f : FuncId} {v : Value} (hx : evK L x = some v) : Ev P n L w ⟨d, .makeFunc (.func f) #[] #[x], ty, pos, af, g⟩ (.func (.func f) #[] #[v]) := .of fun ρ hρ => by
  simp [execOp, Instr.makeFunc, hρ hx, go_sem]
end
end Go.Kw
namespace Go.Kw
open Go.RowKit
structure SV where
  a : Option Addr
  n : Nat
  c : Nat
@[reducible] def SV.val (s : SV) : Value := .slice s.a s.n s.c
theorem RdL.sv {α : Type} {w : World} {v : Value} {E : Enc α} {l : List α} (h : RdL w v E l) : ∃ s : SV, v = s.val ∧ s.n = l.length := by
  obtain ⟨a, cap, rfl, _⟩ := h
  exact ⟨⟨a, l.length, cap⟩, rfl, rfl⟩
def cAll (cs : List Chunk) : Chunk where
  foot := cs.flatMap Chunk.foot
  holds w := (∀ c ∈ cs, c.holds w) ∧ cs.Pairwise fun (c d : Chunk) => ∀ k ∈ c.foot, k ∉ d.foot
  stable w w' h hc := ⟨fun c hm => c.stable w w' (fun k hk => h k (List.mem_flatMap.2 ⟨c, hm, hk⟩)) (hc.1 c hm), hc.2⟩
theorem Sat.all_iff {w0 w : World} {P ds Q : List Chunk} : Sat w0 (P ++ cAll ds :: Q) w ↔ Sat w0 (P ++ (ds ++ Q)) w := by
  constructor
  · intro h
    have hA := h.holds (cAll ds) (by simp)
    have hp := List.pairwise_append.1 h.apart
    have hq := List.pairwise_cons.1 hp.2.1
    refine ⟨h.old, fun c hc => ?_, ?_⟩
    · simp only [List.mem_append] at hc
      rcases hc with hc | hc | hc
      · exact h.holds c (by simp [hc])
      · exact ⟨hA.1.1 c hc, fun k hk => hA.2 k (List.mem_flatMap.2 ⟨c, hc, hk⟩)⟩
      · exact h.holds c (by simp [hc])
    · rw [List.pairwise_append, List.pairwise_append]
      refine ⟨hp.1, ⟨hA.1.2, hq.2, fun c hc d hd k hk => hq.1 d hd k (List.mem_flatMap.2 ⟨c, hc, hk⟩)⟩, fun c hc d hd k hk hk2 => ?_⟩
      rcases List.mem_append.1 hd with hd | hd
      · exact hp.2.2 c hc (cAll ds) (by simp) k hk (List.mem_flatMap.2 ⟨d, hd, hk2⟩)
      · exact hp.2.2 c hc d (by simp [hd]) k hk hk2
  · intro h
    have hp := List.pairwise_append.1 h.apart
    have hq := List.pairwise_append.1 hp.2.1
    refine ⟨h.old, fun c hc => ?_, ?_⟩
    · simp only [List.mem_append, List.mem_cons] at hc
      rcases hc with hc | rfl | hc
      · exact h.holds c (by simp [hc])
      · refine ⟨⟨fun c hc => (h.holds c (by simp [hc])).1, hq.1⟩, fun k hk => ?_⟩
        obtain ⟨c, hc, hk⟩ := List.mem_flatMap.1 hk
        exact (h.holds c (by simp [hc])).2 k hk
      · exact h.holds c (by simp [hc])
    · rw [List.pairwise_append, List.pairwise_cons]
      refine ⟨hp.1, ⟨fun d hd k hk hk2 => ?_, hq.2.1⟩, fun c hc d hd k hk hk2 => ?_⟩
      · obtain ⟨c, hc, hk⟩ := List.mem_flatMap.1 hk
        exact hq.2.2 c hc d hd k hk hk2
      · rcases List.mem_cons.1 hd with rfl | hd
        · obtain ⟨d, hd, hk2⟩ := List.mem_flatMap.1 hk2
          exact hp.2.2 c hc d (by simp [hd]) k hk hk2
        · exact hp.2.2 c hc d (by simp [hd]) k hk hk2
theorem Sat.push {w0 w : World} {A ds : List Chunk} {d : Chunk} (h : Sat w0 (A ++ [d]) w) (i : Nat) (hi : A[i]? = some (cAll ds)) : Sat w0 (A.set i (cAll (ds ++ [d]))) w := by
  obtain ⟨hil, hid⟩ := List.getElem?_eq_some_iff.1 hi
  have e1 : A = A.take i ++ cAll ds :: A.drop (i + 1) := by rw [← hid]; simp
  rw [e1, List.append_assoc, List.cons_append, Sat.all_iff] at h
  rw [List.set_eq_take_append_cons_drop, if_pos hil, Sat.all_iff]
  refine h.perm (List.Perm.append_left _ ?_)
  rw [List.append_assoc]
  exact List.Perm.append_left _ List.perm_append_comm
section
variable {α : Type} {E : Enc α} {e : Nat} {w0 w : World} {cs : List Chunk}
end
section
variable {P : Program} {n : Nat} {L : Know} {w : World} {K : Value → World → Prop} {d : Option Nat} {ty : TypeId} {pos : String} {af : Array Edge} {g : Option (Nat × Bool)}
end
end Go.Kw
namespace Go.Kw
open Go.ChangeShapes Go.WideShapes Go.ChangeAt Go.RowKit
section
variable {H : Type} {enc : TypeId × Value → H} {P : Program} {w : World}
def Opens {H : Type} (enc : TypeId × Value → H) (P : Program) (w : World) (t : TypeId) {α : Type} (E : Enc α) (Q : α → Prop) : Prop :=
  ∀ fuel cs x, DataW.trod enc P w 0 (fun _ => true) true fuel t cs = some x → ∃ a, cs = E.enc a ∧ Q a
theorem build_list {α : Type} {R : Nat → α → Prop} : ∀ n, (∀ i, i < n → ∃ a, R i a) → ∃ l : List α, l.length = n ∧ ∀ i a, l[i]? = some a → R i a
  | 0, _ => ⟨[], rfl, fun i a h => by simp at h⟩
  | n + 1, h => by
    obtain ⟨l, hl, hR⟩ := build_list n fun i hi => h i (by omega)
    obtain ⟨a, ha⟩ := h n (by omega)
    refine ⟨l ++ [a], by simp [hl], fun i b hb => ?_⟩
    rcases Nat.lt_or_ge i l.length with h1 | h1
    · rw [List.getElem?_append_left h1] at hb; exact hR i b hb
    · rw [List.getElem?_append_right h1] at hb
      have hi := (List.getElem?_eq_some_iff.1 hb).1
      have e : i = n := by simp at hi; omega
      subst e
      have : i - l.length = 0 := by omega
      rw [this] at hb
      cases hb; exact ha
theorem spot_of_cell {a : Addr} {u : Value} (h : w.cell? a = some u) : a.spot = none := by
  unfold World.cell? at h
  split at h
  · split at h
    · cases h
    · rename_i hs; simpa using hs
  · cases h
theorem opens_slice {t e : TypeId} {α : Type} {E : Enc α} {Q : α → Prop} (ht : P.underlying t = some (.slice e)) (hc : P.cellsOf e = E.s) (hs : 0 < E.s) (he : Opens enc P w e E Q) {fuel : Nat} {cs : List Value} {x : DataW H × List MemPlace}
    (h : DataW.trod enc P w 0 (fun _ => true) true fuel t cs = some x) : ∃ v l, cs = [v] ∧ RdL w v E l ∧ (∀ a ∈ l, Q a) ∧ l.length ≤ 9223372036854775807 := by
  rcases DataW.trod_slice ht h with ⟨rfl, _⟩ | ⟨a, len, cap, elems, rest, n, _, rfl, _, hb, hl, hm, hlen, hel, _, _⟩
  · exact ⟨_, [], rfl, RdL.nil w E, fun a ha => absurd ha (by simp), Nat.zero_le _⟩
  · rw [hc] at hel
    obtain ⟨l, hll, hR⟩ := build_list (R := fun i (b : α) => w.cells? 0 (a.add (i * E.s)) E.s = some (E.enc b) ∧ Q b) len fun i hi => by
      have h1 := hel i hi
      rw [List.getElem?_eq_getElem (by omega), Option.bind_eq_some_iff] at h1
      obtain ⟨cs', h2, h3⟩ := h1
      obtain ⟨b, rfl, hq⟩ := he _ _ _ h3
      exact ⟨b, h2, hq⟩
    have hmx : maxLen = 9223372036854775807 := by decide
    refine ⟨_, l, rfl, ?_, fun b hb => ?_, by omega⟩
    · unfold RdL
      rw [hll]
      refine ⟨some a, cap, rfl, hl, fun j u hu => ?_⟩
      have hj := (List.getElem?_eq_some_iff.1 hu).1
      rw [E.all_length] at hj
      have hd : j / E.s < l.length := by rw [Nat.div_lt_iff_lt_mul hs]; exact hj
      obtain ⟨b, hb2⟩ : ∃ b, l[j / E.s]? = some b := ⟨_, List.getElem?_eq_getElem hd⟩
      have hjm : j / E.s * E.s + j % E.s = j := by rw [Nat.mul_comm]; exact Nat.div_add_mod j E.s
      have hg := E.all_get hb2 (off := j % E.s) (Nat.mod_lt _ hs)
      rw [hjm, hu] at hg
      have key : ∀ i b r u, l[i]? = some b → (E.enc b)[r]? = some u → w.cell? ((a.add (i * E.s)).add r) = some u := fun i b r u hi hr => by
        obtain ⟨_, _, h5⟩ := World.cells?_some (hR i b hi).1
        have hrl := (List.getElem?_eq_some_iff.1 hr).1
        rw [E.len] at hrl
        rw [h5 r hrl]; exact hr
      obtain ⟨b0, hb0⟩ : ∃ b, l[0]? = some b := ⟨_, List.getElem?_eq_getElem (Nat.lt_of_le_of_lt (Nat.zero_le _) hd)⟩
      obtain ⟨u0, hu0⟩ : ∃ u, (E.enc b0)[0]? = some u := ⟨_, List.getElem?_eq_getElem (by rw [E.len]; exact hs)⟩
      have h0 := key 0 b0 0 u0 hb0 hu0
      rw [Nat.zero_mul] at h0
      have hsp : a.spot = none := by
        have h9 : w.cell? a = some u0 := by simpa [Addr.add] using h0
        exact spot_of_cell h9
      refine ⟨a.block, a.off, by obtain ⟨b, o, s⟩ := a; cases hsp; rfl, ?_⟩
      have h6 := key _ b _ u hb2 hg.symm
      have e : a = ⟨a.block, a.off, none⟩ := by obtain ⟨b, o, s⟩ := a; cases hsp; rfl
      rw [e, Addr.add_lit, Addr.add_lit] at h6
      rw [show a.off + j = a.off + j / E.s * E.s + j % E.s by rw [Nat.add_assoc, hjm]]; exact h6
    · obtain ⟨i, hi⟩ := List.getElem?_of_mem hb
      exact (hR i b hi).2
theorem field_at {fs : Array Field} {n : Nat} {cs : List Value} {xs : List (DataW H × List MemPlace)} (hf : ∀ (i : Nat) (f : Field), fs[i]? = some f → DataW.trod enc P w 0 (fun _ => true) true n f.type ((cs.drop f.offset).take (P.cellsOf f.type)) = xs[i]?) (hl : xs.length = fs.size) (i : Nat) {t o c : Nat}
    (hi : (fs[i]?).map (fun f => (f.type, f.offset)) = some (t, o)) (hc : P.cellsOf t = c) : ∃ y, DataW.trod enc P w 0 (fun _ => true) true n t ((cs.drop o).take c) = some y := by
  obtain ⟨f, h1, h2⟩ := Option.map_eq_some_iff.1 hi
  cases h2
  have h3 := hf i f h1
  have h4 := (Array.getElem?_eq_some_iff.1 h1).1
  rw [hc, List.getElem?_eq_getElem (by omega)] at h3
  exact ⟨_, h3⟩
theorem opens_string {t : TypeId} (ht : P.underlying t = some .string) : Opens enc P w t encTx fun s => s.size ≤ 9223372036854775807 := fun fuel cs x h => by
  obtain ⟨s, rfl, _, hw⟩ := DataW.trod_string ht h
  exact ⟨s, rfl, by have hmx : maxLen = 9223372036854775807 := by decide
                    omega⟩
end
theorem handed_and_shaped {H : Type} {enc : TypeId × Value → H} {a : Assume} {C : Checked} {os : Os} {f : FuncId} {fn : Func} {s : ChangeSpec} {conds : List PathCond} {apart fresh handsOn again : Bool} {X : World → Array Value → Prop}
    (hX : ∀ (w w' : World) (args : Array Value), w.heap = w'.heap → X w args → X w' args)
    (own : ownKnob C.prog.godebug = none) (started : os.Started) (noInit : C.prog.inits.idxOf? f = none) (hfn : C.prog.funcs[f]? = some fn)
    (witness : ∃ (w : World) (tape : Tape) (i : Input), w.os = os ∧ (w.forCall tape i).Shaped C.prog ∧ i.vars = [] ∧ Input.okWide C.prog (w.forCall tape i) .any w.heap.size f i ∧
      ((s.pre enc C.prog fn conds apart (w.forCall tape i).memory i.args ∧ X (w.forCall tape i).memory i.args) ∧ sizedMet enc C.prog fn (OpenSpec.ofChange s) apart (w.forCall tape i).memory i.args) ∧ a.holds C.prog (lone (Frame.enter C.prog f i.args .normal) [] (w.forCall tape i)))
    (contract : ∀ (W : World) (base : Nat) (args : Array Value) (ds gs : List (DataW H)) (before : List MemPlace),
      (∀ (j : Nat) t v, fn.params[j]? = some t → args[j]? = some v → Value.okWide C.prog W .any base t v) →
      DataW.Whole enc C.prog fn.params.toList s.vars apart W args.toList ds gs before → X W args → W.ShapedOpen C.prog →
      Calls C.prog f args W fun e W' => ∃ v, e = .returned v ∧ s.post enc C.prog fn apart fresh handsOn again W args v W') :
    ReturnsInHanded a C os f .any (fun w args => (s.pre enc C.prog fn conds apart w args ∧ X w args) ∧ sizedMet enc C.prog fn (OpenSpec.ofChange s) apart w args) (s.post enc C.prog fn apart fresh handsOn again) := by
  refine returnsInHanded_of_calls own started noInit witness ?_
  intro w tape i _ hsh _ hok hpre hholds
  obtain ⟨_, _, _, fn', hfn', _, _, _, _, hval⟩ := hok
  have e : fn' = fn := Option.some.inj (hfn'.symm.trans hfn)
  subst e
  obtain ⟨⟨⟨ds, gs, before, hw, hc⟩, hx⟩, hz⟩ := hpre
  have hw' := DataW.Whole.of_heap (w' := w.forCall tape i) (by rfl) hw
  refine (contract (w.forCall tape i) w.heap.size i.args ds gs before hval hw' (hX _ _ _ (by rfl) hx) hsh).mono fun e W' ⟨v, he, hp⟩ => ?_
  subst he
  exact ChangeSpec.post_blind hp
end Go.Kw
namespace Go.Kw
open Go.RowKit
section
variable {P : Program} {n : Nat} {L : Know} {w w0 : World} {cs : List Chunk} {K : Value → World → Prop} {d : Option Nat} {ty : TypeId} {pos : String} {af : Array Edge} {g : Option (Nat × Bool)} {α : Type} {E : Enc α}
def fullSl (size : Nat) : Value → Value
  | .slice a m _ => .slice (if m = 0 then a else a.map (·.add (0 * size))) m m
  | _ => undef
theorem Rd.full {v : Value} {m : Nat} {cells : List Value} (h : Rd w v m cells) (size : Nat) : Rd w (fullSl size v) m cells := by
  obtain ⟨a, cap, rfl, hn, hc⟩ := h
  refine ⟨_, m, rfl, Nat.le_refl _, fun j u hu => ?_⟩
  obtain ⟨b, o, rfl, hw⟩ := hc j u hu
  split
  · exact ⟨b, o, rfl, hw⟩
  · exact ⟨b, o + 0 * size, by simp [Addr.add_lit], by rw [Nat.zero_mul, Nat.add_zero]; exact hw⟩
def FullV (v : Value) : Prop := ∃ a m, v = .slice a m m
theorem RdL.full {v : Value} {l : List α} (h : RdL w v E l) : RdL w (fullSl E.s v) E l ∧ FullV (fullSl E.s v) := by
  refine ⟨Rd.full h E.s, ?_⟩
  obtain ⟨a, cap, rfl, _⟩ := h
  exact ⟨_, _, rfl⟩
theorem Ev.sliceFull {x h m : Operand} {t e b : Nat} {z v : Value} {l : List α} {k k' : IntKind} (hty : SlTy P t e E.s z b) (hx : evK L x = some v) (hr : RdL w v E l) (hh : evK L h = some (.int k (l.length : Int))) (hm : evK L m = some (.int k' (l.length : Int))) :
    Ev P n L w ⟨d, .slice t x none (some h) (some m), ty, pos, af, g⟩ (fullSl E.s v) := .of fun ρ hρ => by
  obtain ⟨a, cap, rfl, hmc, hc⟩ := hr
  obtain ⟨inf, i1, i2, i3, i4⟩ := hty.info
  have h1 : (0 : Int) ≤ (l.length : Int) ∧ (l.length : Int) ≤ (cap : Int) := by omega
  have h2 : (0 : Int) ≤ (l.length : Int) ∧ (l.length : Int) ≤ (l.length : Int) := by omega
  have hsb : ∀ w : World, (Instr.sliceBounds true l.length cap none (some (.int k (l.length : Int))) (some (.int k' (l.length : Int)))).run P w = .ok (0, l.length, l.length) w := fun w => by
    simp [Instr.sliceBounds, Instr.sliceBound, asIntOf, hmc, go_sem]
  simp only [execOp, hρ hx, hρ hh, hρ hm, Instr.sliceAt, Instr.slice, Sem.run_bind, run_underlying hty.und, Result.andThen_ok, Option.map_none, Option.map_some, hsb]
  simp [sizeOf, typeInfo, i1, i3, fullSl, go_sem]
theorem OpE.appendFull {x y : Operand} {t tx e b e' : Nat} {z v u : Value} {l m : List α} (hty : SlTy P t e E.s z b) (hs : Sat w0 cs w) (hx : evK L x = some v) (hy : evK L y = some u) (hv : RdL w v E l) (hF : FullV v)
    (hk : P.underlying tx = some (.slice e')) (hr : RdL w u E m) (hm : 0 < m.length) (h63 : l.length + m.length ≤ 140737488355328) (hb : (l.length + m.length) * b ≤ 140737488355328) (hc : ∀ v' w', Sat w0 (cs ++ [cL v' e E (l ++ m)]) w' → Chg [] w w' → K v' w') :
    OpE P n L w ⟨d, .call ⟨.builtin .append, #[x, y], #[t, tx]⟩, ty, pos, af, g⟩ K := by
  obtain ⟨inf, i1, i2, i3, i4⟩ := hty.info
  have hsrc : Src P E.s tx u m.length (E.all m) w := Src.of_rdL rfl hk hr
  obtain ⟨a, cap, rfl, hn, hcell⟩ := id hv
  obtain ⟨a2, m2, hF⟩ := hF
  cases hF
  have hf : ∀ w' : World, w'.heap = w.heap → (Builtin.firstCells inf.size l.length (.slice a l.length l.length)).run P w' = .ok (E.all l).toArray w' := fun w' hw' => by
    cases a with
    | none =>
      have hnil : E.all l = [] := by
        cases hl : E.all l with
        | nil => rfl
        | cons q r => obtain ⟨bb, o, hb, _⟩ := hcell 0 q (by rw [hl]; rfl); cases hb
      rw [hnil]; exact run_firstCells_none w' inf.size _ _ _
    | some a =>
      refine run_firstCells_some w' inf.size l.length a _ _ (E.all l) (by rw [E.all_length, i3]) fun j u hu => ?_
      obtain ⟨bb, o, hb, hw⟩ := hcell j u hu
      cases hb
      rw [Addr.add_lit]
      simp only [World.cell?, hw'] at hw ⊢; exact hw
  subst i4
  have hr2 := run_append_grow_src (P := P) w t tx ty e inf z hty.und i1 i2 a l.length l.length (E.all l) (hf _ rfl) u m.length (E.all m) (by rw [i3]; exact hsrc) (by omega) (by omega) (growslice_fits (by omega) hb)
  generalize hrow : (E.all l ++ E.all m).toArray ++ Builtin.zeroCells z.cells (grownCap w (l.length + m.length) l.length e - (l.length + m.length)) = row at hr2
  have hC : Chg [] w (w.drew.alloc (.cells row e)) := ⟨rfl, rfl, rfl, by simp, fun k hk _ => heap_alloc_old w.drew _ hk⟩
  refine .val (fun ρ hρ => ?_) (hc (.slice (some ⟨w.heap.size, 0, none⟩) (l.length + m.length) (grownCap w (l.length + m.length) l.length e)) _ (hs.add hC ?_ (by simp [cL, cSl, slFoot])) hC)
  · have h1 := hρ hx
    have h2 := hρ hy
    simp only [BigFrame.execOp_builtin, BigFrame.builtin_append]
    simp only [List.map_toArray, List.map_cons, List.map_nil, h1, h2, Sem.run_bind, hr2, Result.andThen_ok, Sem.run_pure]
  · have hge := grownCap_ge w (l.length + m.length) l.length e
    have hcm := grownCap_le_maxLen w (l.length + m.length) l.length e (by unfold maxLen; omega)
    refine ⟨by rw [E.all_length], .inr ⟨_, grownCap w (l.length + m.length) l.length e, _, ?_, Nat.zero_le _, heap_alloc_new w.drew _, by rw [List.length_append]; exact hge, hcm, ?_, ?_⟩⟩
    · rw [List.length_append]; rfl
    · rw [← hrow]
      simp only [Array.size_append, List.size_toArray, size_zeroCells, hty.zs, List.length_append, E.all_length, ← Nat.add_mul]
      congr 1; omega
    · rw [E.all_append, ← hrow]
      simp only [Array.toList_append]
      have : (E.all l ++ E.all m).length = (l ++ m).length * E.s := by rw [← E.all_append, E.all_length]
      rw [← this]
      exact List.take_left
theorem Ev.sliceArr {x : Operand} {T m e s b : Nat} (hT : ArrTy P T m e s) (hm : 0 < m) (hx : evK L x = some (.pointer (some ⟨b, 0, none⟩))) : Ev P n L w ⟨d, .slice T x none none none, ty, pos, af, g⟩ (.slice (some ⟨b, 0, none⟩) m m) := .of fun ρ hρ => by
  have hz := hT.size
  cases hin : P.info? e with
  | none => simp [hin] at hz
  | some inf =>
    simp [hin] at hz
    have hsb := fun w => sliceBounds_run (P := P) (isSl := false) (len := m) (cap := m) (l := 0) (h := m) (low := none) (high := none) rfl rfl (Nat.zero_le _) (Nat.le_refl _) w
    have h0 : ¬ m = 0 := by omega
    simp only [execOp, hρ hx, Instr.sliceAt, Sem.run_bind, run_underlying hT.und, Result.andThen_ok, Instr.sureAddr, Sem.run_pure, Option.map_none, hsb]
    simp [sizeOf, typeInfo, hin, hz, h0, Addr.add_lit, go_sem]
theorem Sat.rdArr (h : Sat w0 cs w) (i : Nat) {b T : Nat} {l : List α} (hi : cs[i]? = some (cObj b T (E.all l))) {m : Nat} (hm : m = l.length) : RdL w (.slice (some ⟨b, 0, none⟩) m m) E l := by
  subst hm
  refine ⟨some ⟨b, 0, none⟩, l.length, rfl, Nat.le_refl _, fun j u hu => ⟨b, 0, rfl, ?_⟩⟩
  rw [Nat.zero_add]
  exact h.cell hi hu
structure BuildAr (P : Program) (T m e : Nat) (zs : List Value) : Prop where
  zero : (P.info? T).map (·.zero) = some (some (.agg zs.toArray))
  und : P.underlying T = some (.array m e)
  size : (P.info? e).map (·.size) = some 1
def setArr : List (Nat × Value) → List Value → Option (List Value)
  | [], zs => some zs
  | (i, v) :: r, zs => cond (Nat.ble (i + 1) zs.length) (setArr r (zs.set i v)) none
theorem fill_arr : ∀ (parts : List (Nat × Value)) (zs out : List Value), AllOne parts → setArr parts zs = some out → Instr.fill (fun i => some (i * 1, 1)) zs.toArray parts = some out.toArray
  | [], zs, out, _, h => by simp only [setArr, Option.some.injEq] at h; subst h; rfl
  | (i, v) :: r, zs, out, h1, h => by
    have hvc : v.cells = #[v] := by have := h1.1; cases v <;> first | rfl | cases this
    unfold setArr at h
    cases hb : Nat.ble (i + 1) zs.length with
    | false => rw [hb] at h; cases h
    | true =>
      rw [hb] at h
      have hle := Nat.le_of_ble_eq_true hb
      have ih := fill_arr r (zs.set i v) out h1.2 h
      simp only [Instr.fill, hvc, Nat.mul_one]
      simp only [List.size_toArray, List.length_cons, List.length_nil, Nat.zero_add, ne_eq, not_true, decide_false, Bool.false_or, gt_iff_lt]
      rw [if_neg (by simp; omega)]
      simpa using ih
theorem Ev.buildArr {T m e : Nat} {zs out : List Value} {parts : List (Nat × Operand)} {vs : List (Nat × Value)} (hb : BuildAr P T m e zs) (hp : evParts L parts = some vs) (h1 : AllOne vs) (ho : setArr vs zs = some out) :
    Ev P n L w ⟨d, .build T parts.toArray, ty, pos, af, g⟩ (.agg out.toArray) := .of fun ρ hρ => by
  have he : ∀ (parts : List (Nat × Operand)) (vs : List (Nat × Value)), evParts L parts = some vs → parts.map (fun (i, x) => (i, ρ x)) = vs := by
    intro parts
    induction parts with
    | nil => intro vs h; simp [evParts] at h; simp [h]
    | cons p r ih =>
      intro vs h
      obtain ⟨i, x⟩ := p
      simp only [evParts, Option.bind_eq_some_iff, Option.map_eq_some_iff] at h
      obtain ⟨v, hv, us, hus, rfl⟩ := h
      simp [hρ hv, ih us hus]
  have hz := hb.zero
  have hs := hb.size
  have hfill := fill_arr vs zs out h1 ho
  cases hi : P.info? T with
  | none => simp [hi] at hz
  | some inf =>
    cases hie : P.info? e with
    | none => simp [hie] at hs
    | some infe =>
      simp [hi] at hz
      simp [hie] at hs
      have hrun : (Instr.build T vs.toArray).run P w = .ok (.agg out.toArray) w := by
        simp only [Instr.build, zeroValue, typeInfo, Sem.run_bind]
        simp only [Nat.mul_one] at hfill
        simp [hi, hz, run_underlying hb.und, sizeOf, typeInfo, hie, hs, Value.cells, hfill]
      simp only [execOp]
      rw [show (parts.toArray.map fun (i, x) => (i, ρ x)) = vs.toArray by rw [List.map_toArray, he parts vs hp]]
      simp only [Sem.run_bind, hrun, Result.andThen_ok, Sem.run_pure]
theorem loadVar_agg {T b : Nat} {vs : List Value} (hT : aggB P T vs.length = true) (h : ∀ j u, vs[j]? = some u → w.cell? ⟨b, j, none⟩ = some u) : (loadVar T ⟨b, 0, none⟩).run P w = .ok (.agg vs.toArray) w := by
  have hl := run_loadCells_list (P := P) w ⟨b, 0, none⟩ vs (fun q u hu => by rw [Addr.add_lit, Nat.zero_add]; exact h q u hu)
  have hag : (isAgg T).run P w = .ok true w := by
    unfold aggB at hT
    cases hun : P.underlying T with
    | none => simp [hun] at hT
    | some D => cases D <;> simp [hun] at hT <;> simp [isAgg, run_underlying hun, go_sem]
  have hsz : (sizeOf T).run P w = .ok vs.length w := by
    unfold aggB at hT
    cases hun : P.underlying T with
    | none => simp [hun] at hT
    | some D =>
      cases hin : P.info? T with
      | none => cases D <;> simp [hun, hin] at hT
      | some inf => cases D <;> simp [hun, hin] at hT <;> simp [sizeOf, typeInfo, hin, hT, go_sem]
  simp only [loadVar, Sem.run_bind, hag, Result.andThen_ok, hsz, if_true, hl, Sem.run_pure]
theorem post1c {fn : Func} {Φ : Value → World → Prop} {t T b : Nat} {vs : List Value} (hr : fn.results = #[.cell t T]) (hv : look L t = some (.pointer (some ⟨b, 0, none⟩))) (hT : aggB P T vs.length = true) (hc : ∀ j u, vs[j]? = some u → w.cell? ⟨b, j, none⟩ = some u)
    (h : Φ (.agg vs.toArray) w) : PostK P n fn Φ L w := fun a ha => by
  have h1 := ha.slot t _ hv
  refine ⟨_, ?_, h⟩
  simp [results, hr, Array.getD_eq_getD_getElem?, h1, asAddr, loadVar_agg hT hc]
theorem Ev.not32 {x : Operand} {xt : TypeId} {a : Nat} (hx : evK L x = some (.int .u32 (a : Int))) (ha : a < 4294967296) : Ev P n L w ⟨d, .unOp .xor xt x, ty, pos, af, g⟩ (.int .u32 ((4294967295 ^^^ a : Nat) : Int)) := .of fun ρ hρ => by
  have h := xor_nat (P := P) (k := .u32) rfl (a := 4294967295) (b := a) (by simp only [IntKind.bits]; omega) (by simp only [IntKind.bits]; omega) w
  have hm : IntKind.u32.max = ((4294967295 : Nat) : Int) := by decide
  simp only [execOp, hρ hx, Op.unary, IntKind.signed, Bool.false_eq_true, if_false, hm, Sem.run_bind, h, Result.andThen_ok, Sem.run_pure]
end
end Go.Kw
namespace Go.Kw
open Go.RowKit
section
variable {P : Program} {n : Nat} {fn : Func} {Φ : Value → World → Prop} {L : Know} {w : World}
theorem post3c {t T b u s : Nat} {vs : List Value} {x y : Value} (hr : fn.results = #[.cell t T, .tmp u, .tmp s]) (hv : look L t = some (.pointer (some ⟨b, 0, none⟩))) (hx : look L u = some x) (hy : look L s = some y) (hT : aggB P T vs.length = true) (hc : ∀ j u, vs[j]? = some u → w.cell? ⟨b, j, none⟩ = some u)
    (h : Φ (.tuple #[.agg vs.toArray, x, y]) w) : PostK P n fn Φ L w := fun a ha => by
  have h1 := ha.slot t _ hv
  have h2 := ha.slot u _ hx
  have h3 := ha.slot s _ hy
  refine ⟨_, ?_, h⟩
  simp [results, hr, Array.getD_eq_getD_getElem?, h1, h2, h3, asAddr, loadVar_agg hT hc]
end
end Go.Kw
namespace Go.Kw
open Go.RowKit
section
variable {P : Program} {n : Nat} {L : Know} {w w0 : World} {cs : List Chunk} {K : Value → World → Prop} {d : Option Nat} {ty : TypeId} {pos : String} {af : Array Edge} {g : Option (Nat × Bool)} {α : Type} {E : Enc α}
theorem OpE.litN {t e b m : Nat} {z : Value} {parts : List (Nat × Operand)} {vs : List (Nat × Value)} (E : Enc α) (l : List α) (hty : SlTy P t e 1 z b) (hp : evParts L parts = some vs) (h1 : AllOne vs) (hz1 : z.oneCell' = true) (ho : Kw.setArr vs (List.replicate m z) = some (E.all l)) (hl : l.length = m) (hE : E.s = 1) (hm0 : m ≠ 0) (hm : m ≤ 16777216) (hs : Sat w0 cs w)
    (hk : ∀ u w', Sat w0 (cs ++ [cL u e E l]) w' → Chg [] w w' → K u w') : OpE P n L w ⟨d, .buildSlice t m parts.toArray, ty, pos, af, g⟩ K := by
  obtain ⟨inf, i1, i2, i3, i4⟩ := hty.info
  have he : ∀ ρ : Operand → Value, (∀ {x u}, evK L x = some u → ρ x = u) → ∀ (parts : List (Nat × Operand)) (vs : List (Nat × Value)), evParts L parts = some vs → parts.map (fun (i, x) => (i, ρ x)) = vs := by
    intro ρ hρ parts
    induction parts with
    | nil => intro vs h; simp [evParts] at h; simp [h]
    | cons p r ih =>
      intro vs h
      obtain ⟨i, x⟩ := p
      simp only [evParts, Option.bind_eq_some_iff, Option.map_eq_some_iff] at h
      obtain ⟨v, hv, us, hus, rfl⟩ := h
      simp [hρ hv, ih us hus]
  have hvc : z.cells = #[z] := by cases z <;> first | rfl | cases hz1
  have hfill := fill_arr vs (List.replicate m z) (E.all l) h1 ho
  have hall : (E.all l).length = m := by rw [E.all_length, hE, hl, Nat.mul_one]
  have hzero : (Array.range m).map (fun q => z.cells[q % z.cells.size]!) = (List.replicate m z).toArray := by
    rw [hvc]
    apply Array.ext'
    apply List.ext_getElem
    · simp
    · intro i _ _; simp [Nat.mod_one]
  have hrun : (Instr.buildSlice t m vs.toArray).run P w = .ok (.slice (some ⟨w.heap.size, 0, none⟩) m m) (w.alloc (.cells (E.all l).toArray e)) := by
    simp only [Nat.mul_one] at hfill
    have h24 : ¬ 2 ^ 24 < m := by omega
    have r1 : (zeroValue e).run P w = .ok z w := by simp [zeroValue, typeInfo, i1, i2, go_sem]
    have r2 : (sizeOf e).run P w = .ok 1 w := by simp [sizeOf, typeInfo, i1, i3, go_sem]
    have r3 : (newRow e (E.all l).toArray).run P w = .ok ⟨w.heap.size, 0, none⟩ (w.alloc (.cells (E.all l).toArray e)) := by simp [newRow, go_sem]
    simp only [Instr.buildSlice, run_underlying hty.und, r2, Sem.run_bind, Result.andThen_ok, Nat.mul_one, gt_iff_lt, h24, hm0, if_false, r1, Sem.run_pure, hzero, hfill, r3]
  refine .val (fun ρ hρ => ?_) (hk (.slice (some ⟨w.heap.size, 0, none⟩) m m) (w.alloc (.cells (E.all l).toArray e)) ?_ (.alloc _ _))
  · simp only [execOp]
    rw [show (parts.toArray.map fun (i, x) => (i, ρ x)) = vs.toArray by rw [List.map_toArray, he ρ hρ parts vs hp]]
    simp only [Sem.run_bind, hrun, Result.andThen_ok, Sem.run_pure]
  · have h := hs.newSl e E.s m m (E.all l) (by unfold maxLen; omega) (Nat.le_refl _) (by rw [hall, hE, Nat.mul_one])
    rw [hE, Nat.mul_one, List.take_of_length_le (by omega)] at h
    unfold cL
    rw [hl, hE]; exact h
end
end Go.Kw
namespace Go.Kw
open Go.RowKit
section
variable {P : Program} {n : Nat} {L : Know} {w w0 : World} {cs : List Chunk} {K : Value → World → Prop} {d : Option Nat} {ty : TypeId} {pos : String} {af : Array Edge} {g : Option (Nat × Bool)}
structure VV where
  a : Value
  b : Value
  ha : a.oneCell' = true
  hb : b.oneCell' = true
end
section
variable {P : Program} {n : Nat} {fn : Func} {Φ : Value → World → Prop} {L : Know} {w : World}
end
end Go.Kw
namespace Go.Kw
open Go.RowKit
def strOf (l : List Nat) : ByteArray := ⟨(l.map fun n => UInt8.ofNat n).toArray⟩
theorem strOf_size (l : List Nat) : (strOf l).size = l.length := by simp [strOf, ByteArray.size]
theorem foldl_push (l : List Nat) : ∀ r : ByteArray, (l.map fun n => ((n : Nat) : Int)).foldl (fun r n => r.push (UInt8.ofNat n.toNat)) r = ⟨r.data ++ (l.map fun n => UInt8.ofNat n).toArray⟩ := by
  induction l with
  | nil => intro r; simp
  | cons b l ih => intro r; simp only [List.map_cons, List.foldl_cons]; rw [ih]; simp [ByteArray.push]
theorem strOf_inj {a b : List Nat} (ha : ∀ x ∈ a, x < 256) (hb : ∀ x ∈ b, x < 256) : strOf a = strOf b ↔ a = b := by
  refine ⟨fun h => ?_, fun h => by rw [h]⟩
  have h1 : a.map (fun n => UInt8.ofNat n) = b.map (fun n => UInt8.ofNat n) := by
    have := congrArg (fun s : ByteArray => s.data.toList) h
    simpa [strOf] using this
  have h2 := congrArg (List.map UInt8.toNat) h1
  rw [List.map_map, List.map_map] at h2
  have e : ∀ l : List Nat, (∀ x ∈ l, x < 256) → l.map (UInt8.toNat ∘ fun n => UInt8.ofNat n) = l := fun l hl => by
    conv => rhs; rw [← List.map_id l]
    refine List.map_congr_left fun x hx => ?_
    have := hl x hx
    simp [UInt8.toNat_ofNat, Nat.mod_eq_of_lt this]
  rwa [e a ha, e b hb] at h2
theorem bytes_all (l : List Nat) : (encN .u8).all l = (l.map fun n => ((n : Nat) : Int)).map (Value.int .u8) := by
  induction l with
  | nil => rfl
  | cons y r ih => rw [Enc.all_cons, List.map_cons, List.map_cons]; exact congrArg (Value.int .u8 ((y : Nat) : Int) :: ·) ih
theorem str_eq {a b : ByteArray} : (a.toList == b.toList) = decide (a = b) := by
  have h : a.toList = b.toList ↔ a = b := ⟨fun h => by
    rw [ByteArray.toList_eq, ByteArray.toList_eq] at h
    obtain ⟨⟨x⟩⟩ := a; obtain ⟨⟨y⟩⟩ := b
    simp at h; rw [h], fun h => by rw [h]⟩
  by_cases hab : a = b
  · subst hab; simp
  · rw [decide_eq_false hab]; simp; exact fun h' => hab (h.1 h')
section
variable {P : Program} {n : Nat} {L : Know} {w w0 : World} {cs : List Chunk} {K : Value → World → Prop} {d : Option Nat} {ty : TypeId} {pos : String} {af : Array Edge} {g : Option (Nat × Bool)}
theorem Ev.bytesStr {x : Operand} {s t e : TypeId} {v : Value} {l : List Nat} (hs : P.underlying s = some (.slice e)) (ht : P.underlying t = some .string) (he : P.underlying e = some (.int .u8)) (hx : evK L x = some v) (h : RdL w v (encN .u8) l) :
    Ev P n L w ⟨d, .convert s t x, ty, pos, af, g⟩ (.string (strOf l)) := .of fun ρ hρ => by
  obtain ⟨a, cap, rfl, hn, hc⟩ := h
  have hrun : (convert s t (.slice a l.length cap)).run P w = .ok (.string (strOf l)) w := by
    rw [run_convert_bytes_string w s t e a l.length cap hs he ht]
    have hall := bytes_all l
    cases a with
    | none =>
      have hl : l = [] := by
        cases l with
        | nil => rfl
        | cons y r => obtain ⟨b, o, ha, _⟩ := hc 0 (.int .u8 ((y : Nat) : Int)) (by rw [Enc.all_cons]; rfl); cases ha
      subst hl
      simp [Conv.bytesToString, Sem.run_pure]; rfl
    | some a =>
      have hlen : ((encN .u8).all l).length = l.length := by rw [(encN .u8).all_length]; exact Nat.mul_one _
      have hld := run_loadCells_list (P := P) w a ((encN .u8).all l) fun q u hu => by
        obtain ⟨b, o, hb, hw⟩ := hc q u hu
        cases hb; rw [Addr.add_lit]; exact hw
      rw [hlen, hall] at hld
      rw [run_bytesToString w a l.length cap _ hld, foldl_push]
      simp [strOf]
  simp only [execOp, hρ hx]
  simp [hrun]
theorem Ev.strEql {x y : Operand} {t T : TypeId} {a b : ByteArray} (hx : evK L x = some (.string a)) (hy : evK L y = some (.string b)) : Ev P n L w ⟨d, .binOp .eql t x y T, ty, pos, af, g⟩ (.bool (decide (a = b))) :=
  .bin hx hy (by rfl) fun w => by rw [binOp_string_eql, str_eq]; rfl
theorem Ev.strNeq {x y : Operand} {t T : TypeId} {a b : ByteArray} (hx : evK L x = some (.string a)) (hy : evK L y = some (.string b)) : Ev P n L w ⟨d, .binOp .neq t x y T, ty, pos, af, g⟩ (.bool (decide (a ≠ b))) :=
  .bin hx hy (by rfl) fun w => by rw [binOp_string_neq, str_eq, ← decide_not]; rfl
end
end Go.Kw
namespace Go.Kw
open Go.RowKit
section
variable {P : Program} {n : Nat} {N R : Know → World → Prop} {X G : List (Nat × (Know → World → Prop))} {L : Know} {w : World}
end
section
variable {P : Program} {n : Nat} {L : Know} {w w0 : World} {cs : List Chunk} {K : Value → World → Prop} {d : Option Nat} {ty : TypeId} {pos : String} {af : Array Edge} {g : Option (Nat × Bool)}
end
end Go.Kw
namespace Go.Kw
open Go.RowKit
section
variable {w0 w : World} {cs : List Chunk}
variable {α : Type} {E : Enc α} {e : Nat}
variable {P : Program} {n : Nat} {L : Know} {K : Value → World → Prop} {d : Option Nat} {ty : TypeId} {pos : String} {af : Array Edge} {g : Option (Nat × Bool)}
end
end Go.Kw
namespace Go.Kw
open Go.RowKit
theorem bool_neq {a b x y z : Bool} (ha : a = x) (hb : b = y) (h : (!(x == y)) = z) : (!(a == b)) = z := by rw [ha, hb]; exact h
section
variable {P : Program} {n : Nat} {L : Know} {w : World} {d : Option Nat} {ty : TypeId} {pos : String} {af : Array Edge} {g : Option (Nat × Bool)}
theorem run_neqB (t : TypeId) (a b : Bool) (h : P.underlying t = some .bool) (w : World) : (binOp .neq t (.bool a) (.bool b)).run P w = .ok (.bool (!(a == b))) w := by
  have : ∀ d, (Op.equalIn (d + 1) t (.bool a) (.bool b)).run P w = .ok (a == b) w := fun d => by simp [Op.equalIn, run_underlying h]
  simp only [binOp]
  simp [Op.equal, Op.maxDepth, this 9999]
theorem Ev.neqB {x y : Operand} {t T : TypeId} {a b : Bool} (hu : P.underlying t = some .bool) (hx : evK L x = some (.bool a)) (hy : evK L y = some (.bool b)) : Ev P n L w ⟨d, .binOp .neq t x y T, ty, pos, af, g⟩ (.bool (!(a == b))) :=
  .bin hx hy (by rfl) fun w => run_neqB t a b hu w
end
end Go.Kw
namespace Go.Kw
open Go.RowKit
section
variable {P : Program} {n : Nat} {fn : Func} {Φ : Value → World → Prop} {L : Know} {w : World}
theorem post2c {t T b u : Nat} {vs : List Value} {x : Value} (hr : fn.results = #[.cell t T, .tmp u]) (hv : look L t = some (.pointer (some ⟨b, 0, none⟩))) (hx : look L u = some x) (hT : aggB P T vs.length = true) (hc : ∀ j u, vs[j]? = some u → w.cell? ⟨b, j, none⟩ = some u)
    (h : Φ (.tuple #[.agg vs.toArray, x]) w) : PostK P n fn Φ L w := fun a ha => by
  have h1 := ha.slot t _ hv
  have h2 := ha.slot u _ hx
  refine ⟨_, ?_, h⟩
  simp [results, hr, Array.getD_eq_getD_getElem?, h1, h2, asAddr, loadVar_agg hT hc]
end
end Go.Kw
namespace Go.Kw
open Go.RowKit
section
variable {P : Program} {n : Nat} {L : Know} {w : World} {d : Option Nat} {ty : TypeId} {pos : String} {af : Array Edge} {g : Option (Nat × Bool)}
theorem bget {s : ByteArray} {j : Nat} {b : UInt8} (h : s.data.toList[j]? = some b) : s[j]? = some b := by
  obtain ⟨hj, rfl⟩ := List.getElem?_eq_some_iff.1 h
  have hj' : j < s.size := by simpa using hj
  rw [getElem?_pos s j hj']
  rfl
theorem Ev.idxStr {x i : Operand} {t : TypeId} {s : ByteArray} {j : Nat} {b : UInt8} (ht : P.underlying t = some .string) (hx : evK L x = some (.string s)) (hi : evK L i = some (.int .i64 (j : Int))) (hb : s.data.toList[j]? = some b) :
    Ev P n L w ⟨d, .index t x i, ty, pos, af, g⟩ (.int .u8 ((b.toNat : Nat) : Int)) := .of fun ρ hρ => by
  have hb' := bget hb
  have h0 : (0 : Int) ≤ (j : Int) := by omega
  simp only [execOp, hρ hx, hρ hi]
  simp [Instr.index, asIntOf, run_underlying ht, hb', h0, go_sem]
end
section
variable {P : Program} {n : Nat} {ops : List Oper} {K : Know → World → Prop} {L : Know} {w : World} {S : World → Prop} {SS : List (World → Prop)} {p q : Plan}
end
end Go.Kw
