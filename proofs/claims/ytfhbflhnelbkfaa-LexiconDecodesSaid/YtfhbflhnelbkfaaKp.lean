/-
  KP: more operations for the program logic of Kw: building structs, boxes, masks, signed shifts. Our own text; it names no program.
-/
import Derived.Test.YtfhbflhnelbkfaaKl
set_option linter.unusedSimpArgs false
set_option linter.unusedVariables false
set_option linter.unusedSectionVars false
namespace Go.Kw
open Go.RowKit

/-! ## Struct literals -/
def setParts (pl : List (Nat × Nat)) : List (Nat × Value) → List Value → Option (List Value)
  | [], zs => some zs
  | (i, v) :: r, zs => match pl[i]? with
    | some (off, 1) => cond (Nat.ble (off + 1) zs.length) (setParts pl r (zs.set off v)) none
    | _ => none
def AllOne : List (Nat × Value) → Prop
  | [] => True
  | (_, v) :: r => v.oneCell' = true ∧ AllOne r
def evParts (L : Know) : List (Nat × Operand) → Option (List (Nat × Value))
  | [] => some []
  | (i, x) :: r => (evK L x).bind fun v => (evParts L r).map ((i, v) :: ·)

structure BuildTy (P : Program) (T : TypeId) (pl : List (Nat × Nat)) (zs : List Value) : Prop where
  zero : (P.info? T).map (·.zero) = some (some (.agg zs.toArray))
  und : ∃ fs, P.underlying T = some (.struct fs) ∧ ∀ w, (fs.mapM fun f => do pure (f.offset, ← sizeOf f.type) : Sem _).run P w = .ok pl.toArray w

theorem fill_parts (pl : List (Nat × Nat)) : ∀ (parts : List (Nat × Value)) (zs out : List Value), AllOne parts → setParts pl parts zs = some out → Instr.fill (pl.toArray[·]?) zs.toArray parts = some out.toArray
  | [], zs, out, _, h => by simp only [setParts, Option.some.injEq] at h; subst h; rfl
  | (i, v) :: r, zs, out, h1, h => by
    have hvc : v.cells = #[v] := by have := h1.1; cases v <;> first | rfl | cases this
    unfold setParts at h
    cases hp : pl[i]? with
    | none => simp [hp] at h
    | some q =>
      obtain ⟨off, s⟩ := q
      rw [hp] at h
      match s, h with
      | 1, h =>
        simp only at h
        cases hb : Nat.ble (off + 1) zs.length with
        | false => simp [hb] at h
        | true =>
          rw [hb] at h
          have hle := Nat.le_of_ble_eq_true hb
          have ih := fill_parts pl r (zs.set off v) out h1.2 h
          simp only [Instr.fill, List.getElem?_toArray, hp, hvc]
          simp only [List.size_toArray, List.length_cons, List.length_nil, Nat.zero_add, ne_eq, not_true, decide_false, Bool.false_or, gt_iff_lt]
          rw [if_neg (by simp; omega)]
          simpa using ih

section
variable {P : Program} {n : Nat} {L : Know} {w w0 : World} {cs : List Chunk} {K : Value → World → Prop} {d : Option Nat} {ty : TypeId} {pos : String} {af : Array Edge} {g : Option (Nat × Bool)}

theorem Ev.build {T : TypeId} {pl : List (Nat × Nat)} {zs out : List Value} {parts : List (Nat × Operand)} {vs : List (Nat × Value)} (hb : BuildTy P T pl zs) (hp : evParts L parts = some vs) (h1 : AllOne vs) (ho : setParts pl vs zs = some out) :
    Ev P n L w ⟨d, .build T parts.toArray, ty, pos, af, g⟩ (.agg out.toArray) := .of fun ρ hρ => by
  have he : ∀ (parts : List (Nat × Operand)) (vs : List (Nat × Value)), evParts L parts = some vs → parts.map (fun (i, x) => (i, ρ x)) = vs := by
    intro parts
    induction parts with
    | nil => intro vs h; simp [evParts] at h; simp [h]
    | cons p r ih =>
      intro vs h
      obtain ⟨i, x⟩ := p
      simp only [evParts, Option.bind_eq_some_iff, Option.map_eq_some_iff] at h
      obtain ⟨v, hv, us, hus, rfl⟩ := h
      simp [hρ hv, ih us hus]
  obtain ⟨fs, hu, hpl⟩ := hb.und
  have hz := hb.zero
  have hfill := fill_parts pl vs zs out h1 ho
  cases hi : P.info? T with
  | none => simp [hi] at hz
  | some inf =>
    simp [hi] at hz
    have hrun : (Instr.build T vs.toArray).run P w = .ok (.agg out.toArray) w := by
      simp only [Instr.build, zeroValue, typeInfo, Sem.run_bind]
      simp [hi, hz, run_underlying hu]
      have := hpl w
      simp at this
      have hfill' : Instr.fill (fun x => pl[x]?) zs.toArray vs = some out.toArray := by simpa using hfill
      simp [this, Value.cells, hfill']
    simp only [execOp]
    rw [show (parts.toArray.map fun (i, x) => (i, ρ x)) = vs.toArray by rw [List.map_toArray, he parts vs hp]]
    simp only [Sem.run_bind, hrun, Result.andThen_ok, Sem.run_pure]

/-- A mask of the m lowest bits. -/
theorem and_mask (a m : Nat) : a &&& (2 ^ m - 1) = a % 2 ^ m := Nat.and_two_pow_sub_one_eq_mod a m
theorem andi_nat {P : Program} {a b : Nat} (ha : a < 2 ^ 63) (hb : b < 2 ^ 63) (w : World) : (Op.intBits .and .i64 a b).run P w = .ok (.int .i64 ((a &&& b : Nat) : Int)) w := by
  have := wrap_i (Nat.and_lt_two_pow a hb)
  have ha' : a < 2 ^ IntKind.i64.bits := by simp only [IntKind.bits]; omega
  have hb' : b < 2 ^ IntKind.i64.bits := by simp only [IntKind.bits]; omega
  simp only [Op.intBits, BitVec.ofInt_natCast, BitVec.toNat_and, BitVec.toNat_ofNat, Nat.mod_eq_of_lt ha', Nat.mod_eq_of_lt hb', this]
  rfl
theorem Ev.maskI {x y : Operand} {xt yt : TypeId} {a b : Nat} (m : Nat) (hx : evK L x = some (.int .i64 (a : Int))) (hy : evK L y = some (.int .i64 (b : Int))) (hm : b = 2 ^ m - 1) (ha : a < 2 ^ 63) (hb : b < 2 ^ 63) :
    Ev P n L w ⟨d, .binOp .and xt x y yt, ty, pos, af, g⟩ (.int .i64 ((a % 2 ^ m : Nat) : Int)) :=
  .bin hx hy (eqGuard_at_int ..) fun w => by rw [binOp_and, andi_nat ha hb, hm, and_mask]
theorem Ev.maskN {x y : Operand} {xt yt : TypeId} {k : IntKind} {a b : Nat} (m : Nat) (hx : evK L x = some (.int k (a : Int))) (hy : evK L y = some (.int k (b : Int))) (hk : k.signed = false) (hm : b = 2 ^ m - 1) (ha : a < 2 ^ k.bits) (hb : b < 2 ^ k.bits) :
    Ev P n L w ⟨d, .binOp .and xt x y yt, ty, pos, af, g⟩ (.int k ((a % 2 ^ m : Nat) : Int)) := by
  have := Ev.andN (P := P) (n := n) (w := w) (d := d) (xt := xt) (yt := yt) (ty := ty) (pos := pos) (af := af) (g := g) hx hy hk ha hb
  rwa [hm, and_mask] at this

/-- Minus one, of a number that may be nought. -/
theorem Ev.subPred {x y : Operand} {xt yt : TypeId} {a b : Nat} (hx : evK L x = some (.int .i64 (a : Int))) (hy : evK L y = some (.int .i64 ((b : Int) - 1))) (hba : b ≤ a + 1) (h : a + 1 ≤ 9223372036854775807) :
    Ev P n L w ⟨d, .binOp .sub xt x y yt, ty, pos, af, g⟩ (.int .i64 ((a + 1 - b : Nat) : Int)) := by
  have := Ev.sub (P := P) (n := n) (w := w) (d := d) (xt := xt) (yt := yt) (ty := ty) (pos := pos) (af := af) (g := g) hx hy ⟨by omega, by omega⟩
  rwa [show (a : Int) - ((b : Int) - 1) = ((a + 1 - b : Nat) : Int) by omega] at this

/-- A slice literal of no element: it is not nil. -/
theorem OpE.lit0 {t e b : Nat} {z : Value} {α : Type} (E : Enc α) (hty : SlTy P t e E.s z b) (hs : Sat w0 cs w)
    (hk : ∀ u w', Sat w0 (cs ++ [cL u e E []]) w' → Chg [] w w' → K u w') : OpE P n L w ⟨d, .buildSlice t 0 #[], ty, pos, af, g⟩ K := by
  obtain ⟨inf, i1, i2, i3, i4⟩ := hty.info
  refine .val (fun ρ hρ => ?_) (hk _ _ (by have := hs.newSl e E.s 0 0 [] (by unfold maxLen; omega) (Nat.le_refl _) (by simp); rw [List.take_nil] at this; exact this) (.alloc _ _))
  have hrun : (Instr.buildSlice t 0 #[]).run P w = .ok (.slice (some ⟨w.heap.size, 0, none⟩) 0 0) (w.alloc (.cells #[] e)) := by
    simp [Instr.buildSlice, run_underlying hty.und, sizeOf, typeInfo, i1, i3, Instr.fill, newRow]
    simp [show Array.range 0 = (#[] : Array Nat) from rfl]
  simp only [execOp, List.map_toArray, List.map_nil, Sem.run_bind, hrun, Result.andThen_ok, Sem.run_pure]

/-! ## Arrays in a block of their own -/
structure ArrTy (P : Program) (T m e s : Nat) : Prop where
  und : P.underlying T = some (.array m e)
  size : (P.info? e).map (·.size) = some s
theorem Ev.idxArr {x i : Operand} {T m e s b o j : Nat} {k : IntKind} (hT : ArrTy P T m e s) (hx : evK L x = some (.pointer (some ⟨b, o, none⟩))) (hi : evK L i = some (.int k (j : Int))) (hj : j < m) :
    Ev P n L w ⟨d, .indexAddr T x i, ty, pos, af, g⟩ (.pointer (some ⟨b, o + j * s, none⟩)) := .of fun ρ hρ => by
  have hk : (0 : Int) ≤ (j : Int) ∧ (j : Int) < (m : Int) := by omega
  have hz := hT.size
  cases hin : P.info? e with
  | none => simp [hin] at hz
  | some inf =>
    simp [hin] at hz
    simp only [execOp, hρ hx, hρ hi, Instr.indexAt, asIntOf, Sem.run_bind, run_underlying hT.und, Result.andThen_ok]
    simp [Instr.sureAddr, sizeOf, typeInfo, hin, hz, hk, hj, Addr.add_lit, go_sem]

theorem Sat.cellArr {α : Type} {E : Enc α} (h : Sat w0 cs w) (i : Nat) {b T j : Nat} {l : List α} {a : α} {u : Value} (hi : cs[i]? = some (cObj b T (E.all l))) (ha : l[j]? = some a) (hs : 0 < E.s) (hu : (E.enc a)[0]? = some u) : w.cell? ⟨b, 0 + j * E.s, none⟩ = some u := by
  rw [Nat.zero_add]
  have := E.all_get ha hs
  rw [Nat.add_zero] at this
  exact h.cell hi (by rw [this]; exact hu)

theorem OpE.setArr {α : Type} {E : Enc α} {x y : Operand} {T U b j : Nat} {u : Value} {l : List α} {a : α} (i : Nat) (hT : (P.info? T).map (·.size) = some 1) (hs : Sat w0 cs w) (hi : cs[i]? = some (cObj b U (E.all l))) (hx : evK L x = some (.pointer (some ⟨b, 0 + j * E.s, none⟩)))
    (hy : evK L y = some u) (he : E.enc a = [u]) (hj : j < l.length) (hk : ∀ w', Sat w0 (cs.set i (cObj b U (E.all (l.set j a)))) w' → Chg [b] w w' → K undef w') : OpE P n L w ⟨d, .store T x y, ty, pos, af, g⟩ K := by
  have h1 : E.s = 1 := by have := E.len a; rw [he] at this; simpa using this.symm
  have hget : (E.all l)[j * E.s]? = some _ := List.getElem?_eq_getElem (by rw [E.all_length]; exact Nat.mul_lt_mul_of_pos_right hj (by omega))
  rw [Nat.zero_add] at hx
  refine OpE.storeObj hT hs hi hx hy (E.one a u (by rw [he]; simp)) hget fun w' hS hC => hk w' ?_ hC
  rw [all_set he hj] at hS
  exact hS
end
end Go.Kw
