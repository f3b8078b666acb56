/-
  KM: full slices and appends to them, arrays as slices, array literals, results that lie in memory, bools compared, complements. Our own text; it names no program.
-/
import Derived.Test.YtecfgjdpghddgaaGreatKp
set_option linter.unusedVariables false
set_option linter.unusedSimpArgs false
set_option linter.unusedSectionVars false
namespace Go.Kw
open Go.RowKit
section
variable {P : Program} {n : Nat} {L : Know} {w w0 : World} {cs : List Chunk} {K : Value → World → Prop} {d : Option Nat} {ty : TypeId} {pos : String} {af : Array Edge} {g : Option (Nat × Bool)} {α : Type} {E : Enc α}
def fullSl (size : Nat) : Value → Value
  | .slice a m _ => .slice (if m = 0 then a else a.map (·.add (0 * size))) m m
  | _ => undef
theorem Rd.full {v : Value} {m : Nat} {cells : List Value} (h : Rd w v m cells) (size : Nat) : Rd w (fullSl size v) m cells := by
  obtain ⟨a, cap, rfl, hn, hc⟩ := h
  refine ⟨_, m, rfl, Nat.le_refl _, fun j u hu => ?_⟩
  obtain ⟨b, o, rfl, hw⟩ := hc j u hu
  split
  · exact ⟨b, o, rfl, hw⟩
  · exact ⟨b, o + 0 * size, by simp [Addr.add_lit], by rw [Nat.zero_mul, Nat.add_zero]; exact hw⟩
def FullV (v : Value) : Prop := ∃ a m, v = .slice a m m
theorem RdL.full {v : Value} {l : List α} (h : RdL w v E l) : RdL w (fullSl E.s v) E l ∧ FullV (fullSl E.s v) := by
  refine ⟨Rd.full h E.s, ?_⟩
  obtain ⟨a, cap, rfl, _⟩ := h
  exact ⟨_, _, rfl⟩
theorem Ev.sliceFull {x h m : Operand} {t e b : Nat} {z v : Value} {l : List α} {k k' : IntKind} (hty : SlTy P t e E.s z b) (hx : evK L x = some v) (hr : RdL w v E l) (hh : evK L h = some (.int k (l.length : Int))) (hm : evK L m = some (.int k' (l.length : Int))) :
    Ev P n L w ⟨d, .slice t x none (some h) (some m), ty, pos, af, g⟩ (fullSl E.s v) := .of fun ρ hρ => by
  obtain ⟨a, cap, rfl, hmc, hc⟩ := hr
  obtain ⟨inf, i1, i2, i3, i4⟩ := hty.info
  have h1 : (0 : Int) ≤ (l.length : Int) ∧ (l.length : Int) ≤ (cap : Int) := by omega
  have h2 : (0 : Int) ≤ (l.length : Int) ∧ (l.length : Int) ≤ (l.length : Int) := by omega
  have hsb : ∀ w : World, (Instr.sliceBounds true l.length cap none (some (.int k (l.length : Int))) (some (.int k' (l.length : Int)))).run P w = .ok (0, l.length, l.length) w := fun w => by
    simp [Instr.sliceBounds, Instr.sliceBound, asIntOf, hmc, go_sem]
  simp only [execOp, hρ hx, hρ hh, hρ hm, Instr.sliceAt, Instr.slice, Sem.run_bind, run_underlying hty.und, Result.andThen_ok, Option.map_none, Option.map_some, hsb]
  simp [sizeOf, typeInfo, i1, i3, fullSl, go_sem]
theorem OpE.appendFull {x y : Operand} {t tx e b e' : Nat} {z v u : Value} {l m : List α} (hty : SlTy P t e E.s z b) (hs : Sat w0 cs w) (hx : evK L x = some v) (hy : evK L y = some u) (hv : RdL w v E l) (hF : FullV v)
    (hk : P.underlying tx = some (.slice e')) (hr : RdL w u E m) (hm : 0 < m.length) (h63 : l.length + m.length ≤ 140737488355328) (hb : (l.length + m.length) * b ≤ 140737488355328) (hc : ∀ v' w', Sat w0 (cs ++ [cL v' e E (l ++ m)]) w' → Chg [] w w' → K v' w') :
    OpE P n L w ⟨d, .call ⟨.builtin .append, #[x, y], #[t, tx]⟩, ty, pos, af, g⟩ K := by
  obtain ⟨inf, i1, i2, i3, i4⟩ := hty.info
  have hsrc : Src P E.s tx u m.length (E.all m) w := Src.of_rdL rfl hk hr
  obtain ⟨a, cap, rfl, hn, hcell⟩ := id hv
  obtain ⟨a2, m2, hF⟩ := hF
  cases hF
  have hf : ∀ w' : World, w'.heap = w.heap → (Builtin.firstCells inf.size l.length (.slice a l.length l.length)).run P w' = .ok (E.all l).toArray w' := fun w' hw' => by
    cases a with
    | none =>
      have hnil : E.all l = [] := by
        cases hl : E.all l with
        | nil => rfl
        | cons q r => obtain ⟨bb, o, hb, _⟩ := hcell 0 q (by rw [hl]; rfl); cases hb
      rw [hnil]; exact run_firstCells_none w' inf.size _ _ _
    | some a =>
      refine run_firstCells_some w' inf.size l.length a _ _ (E.all l) (by rw [E.all_length, i3]) fun j u hu => ?_
      obtain ⟨bb, o, hb, hw⟩ := hcell j u hu
      cases hb
      rw [Addr.add_lit]
      simp only [World.cell?, hw'] at hw ⊢; exact hw
  subst i4
  have hr2 := run_append_grow_src (P := P) w t tx ty e inf z hty.und i1 i2 a l.length l.length (E.all l) (hf _ rfl) u m.length (E.all m) (by rw [i3]; exact hsrc) (by omega) (by omega) (growslice_fits (by omega) hb)
  generalize hrow : (E.all l ++ E.all m).toArray ++ Builtin.zeroCells z.cells (grownCap w (l.length + m.length) l.length e - (l.length + m.length)) = row at hr2
  have hC : Chg [] w (w.drew.alloc (.cells row e)) := ⟨rfl, rfl, rfl, by simp, fun k hk _ => heap_alloc_old w.drew _ hk⟩
  refine .val (fun ρ hρ => ?_) (hc (.slice (some ⟨w.heap.size, 0, none⟩) (l.length + m.length) (grownCap w (l.length + m.length) l.length e)) _ (hs.add hC ?_ (by simp [cL, cSl, slFoot])) hC)
  · have h1 := hρ hx
    have h2 := hρ hy
    simp only [BigFrame.execOp_builtin, BigFrame.builtin_append]
    simp only [List.map_toArray, List.map_cons, List.map_nil, h1, h2, Sem.run_bind, hr2, Result.andThen_ok, Sem.run_pure]
  · have hge := grownCap_ge w (l.length + m.length) l.length e
    have hcm := grownCap_le_maxLen w (l.length + m.length) l.length e (by unfold maxLen; omega)
    refine ⟨by rw [E.all_length], .inr ⟨_, grownCap w (l.length + m.length) l.length e, _, ?_, Nat.zero_le _, heap_alloc_new w.drew _, by rw [List.length_append]; exact hge, hcm, ?_, ?_⟩⟩
    · rw [List.length_append]; rfl
    · rw [← hrow]
      simp only [Array.size_append, List.size_toArray, size_zeroCells, hty.zs, List.length_append, E.all_length, ← Nat.add_mul]
      congr 1; omega
    · rw [E.all_append, ← hrow]
      simp only [Array.toList_append]
      have : (E.all l ++ E.all m).length = (l ++ m).length * E.s := by rw [← E.all_append, E.all_length]
      rw [← this]
      exact List.take_left
theorem Ev.sliceArr {x : Operand} {T m e s b : Nat} (hT : ArrTy P T m e s) (hm : 0 < m) (hx : evK L x = some (.pointer (some ⟨b, 0, none⟩))) : Ev P n L w ⟨d, .slice T x none none none, ty, pos, af, g⟩ (.slice (some ⟨b, 0, none⟩) m m) := .of fun ρ hρ => by
  have hz := hT.size
  cases hin : P.info? e with
  | none => simp [hin] at hz
  | some inf =>
    simp [hin] at hz
    have hsb := fun w => sliceBounds_run (P := P) (isSl := false) (len := m) (cap := m) (l := 0) (h := m) (low := none) (high := none) rfl rfl (Nat.zero_le _) (Nat.le_refl _) w
    have h0 : ¬ m = 0 := by omega
    simp only [execOp, hρ hx, Instr.sliceAt, Sem.run_bind, run_underlying hT.und, Result.andThen_ok, Instr.sureAddr, Sem.run_pure, Option.map_none, hsb]
    simp [sizeOf, typeInfo, hin, hz, h0, Addr.add_lit, go_sem]
theorem Sat.rdArr (h : Sat w0 cs w) (i : Nat) {b T : Nat} {l : List α} (hi : cs[i]? = some (cObj b T (E.all l))) {m : Nat} (hm : m = l.length) : RdL w (.slice (some ⟨b, 0, none⟩) m m) E l := by
  subst hm
  refine ⟨some ⟨b, 0, none⟩, l.length, rfl, Nat.le_refl _, fun j u hu => ⟨b, 0, rfl, ?_⟩⟩
  rw [Nat.zero_add]
  exact h.cell hi hu
structure BuildAr (P : Program) (T m e : Nat) (zs : List Value) : Prop where
  zero : (P.info? T).map (·.zero) = some (some (.agg zs.toArray))
  und : P.underlying T = some (.array m e)
  size : (P.info? e).map (·.size) = some 1
def setArr : List (Nat × Value) → List Value → Option (List Value)
  | [], zs => some zs
  | (i, v) :: r, zs => cond (Nat.ble (i + 1) zs.length) (setArr r (zs.set i v)) none
theorem fill_arr : ∀ (parts : List (Nat × Value)) (zs out : List Value), AllOne parts → setArr parts zs = some out → Instr.fill (fun i => some (i * 1, 1)) zs.toArray parts = some out.toArray
  | [], zs, out, _, h => by simp only [setArr, Option.some.injEq] at h; subst h; rfl
  | (i, v) :: r, zs, out, h1, h => by
    have hvc : v.cells = #[v] := by have := h1.1; cases v <;> first | rfl | cases this
    unfold setArr at h
    cases hb : Nat.ble (i + 1) zs.length with
    | false => rw [hb] at h; cases h
    | true =>
      rw [hb] at h
      have hle := Nat.le_of_ble_eq_true hb
      have ih := fill_arr r (zs.set i v) out h1.2 h
      simp only [Instr.fill, hvc, Nat.mul_one]
      simp only [List.size_toArray, List.length_cons, List.length_nil, Nat.zero_add, ne_eq, not_true, decide_false, Bool.false_or, gt_iff_lt]
      rw [if_neg (by simp; omega)]
      simpa using ih
theorem Ev.buildArr {T m e : Nat} {zs out : List Value} {parts : List (Nat × Operand)} {vs : List (Nat × Value)} (hb : BuildAr P T m e zs) (hp : evParts L parts = some vs) (h1 : AllOne vs) (ho : setArr vs zs = some out) :
    Ev P n L w ⟨d, .build T parts.toArray, ty, pos, af, g⟩ (.agg out.toArray) := .of fun ρ hρ => by
  have he : ∀ (parts : List (Nat × Operand)) (vs : List (Nat × Value)), evParts L parts = some vs → parts.map (fun (i, x) => (i, ρ x)) = vs := by
    intro parts
    induction parts with
    | nil => intro vs h; simp [evParts] at h; simp [h]
    | cons p r ih =>
      intro vs h
      obtain ⟨i, x⟩ := p
      simp only [evParts, Option.bind_eq_some_iff, Option.map_eq_some_iff] at h
      obtain ⟨v, hv, us, hus, rfl⟩ := h
      simp [hρ hv, ih us hus]
  have hz := hb.zero
  have hs := hb.size
  have hfill := fill_arr vs zs out h1 ho
  cases hi : P.info? T with
  | none => simp [hi] at hz
  | some inf =>
    cases hie : P.info? e with
    | none => simp [hie] at hs
    | some infe =>
      simp [hi] at hz
      simp [hie] at hs
      have hrun : (Instr.build T vs.toArray).run P w = .ok (.agg out.toArray) w := by
        simp only [Instr.build, zeroValue, typeInfo, Sem.run_bind]
        simp only [Nat.mul_one] at hfill
        simp [hi, hz, run_underlying hb.und, sizeOf, typeInfo, hie, hs, Value.cells, hfill]
      simp only [execOp]
      rw [show (parts.toArray.map fun (i, x) => (i, ρ x)) = vs.toArray by rw [List.map_toArray, he parts vs hp]]
      simp only [Sem.run_bind, hrun, Result.andThen_ok, Sem.run_pure]
theorem loadVar_agg {T b : Nat} {vs : List Value} (hT : aggB P T vs.length = true) (h : ∀ j u, vs[j]? = some u → w.cell? ⟨b, j, none⟩ = some u) : (loadVar T ⟨b, 0, none⟩).run P w = .ok (.agg vs.toArray) w := by
  have hl := run_loadCells_list (P := P) w ⟨b, 0, none⟩ vs (fun q u hu => by rw [Addr.add_lit, Nat.zero_add]; exact h q u hu)
  have hag : (isAgg T).run P w = .ok true w := by
    unfold aggB at hT
    cases hun : P.underlying T with
    | none => simp [hun] at hT
    | some D => cases D <;> simp [hun] at hT <;> simp [isAgg, run_underlying hun, go_sem]
  have hsz : (sizeOf T).run P w = .ok vs.length w := by
    unfold aggB at hT
    cases hun : P.underlying T with
    | none => simp [hun] at hT
    | some D =>
      cases hin : P.info? T with
      | none => cases D <;> simp [hun, hin] at hT
      | some inf => cases D <;> simp [hun, hin] at hT <;> simp [sizeOf, typeInfo, hin, hT, go_sem]
  simp only [loadVar, Sem.run_bind, hag, Result.andThen_ok, hsz, if_true, hl, Sem.run_pure]
theorem post1c {fn : Func} {Φ : Value → World → Prop} {t T b : Nat} {vs : List Value} (hr : fn.results = #[.cell t T]) (hv : look L t = some (.pointer (some ⟨b, 0, none⟩))) (hT : aggB P T vs.length = true) (hc : ∀ j u, vs[j]? = some u → w.cell? ⟨b, j, none⟩ = some u)
    (h : Φ (.agg vs.toArray) w) : PostK P n fn Φ L w := fun a ha => by
  have h1 := ha.slot t _ hv
  refine ⟨_, ?_, h⟩
  simp [results, hr, Array.getD_eq_getD_getElem?, h1, asAddr, loadVar_agg hT hc]
theorem Ev.not32 {x : Operand} {xt : TypeId} {a : Nat} (hx : evK L x = some (.int .u32 (a : Int))) (ha : a < 4294967296) : Ev P n L w ⟨d, .unOp .xor xt x, ty, pos, af, g⟩ (.int .u32 ((4294967295 ^^^ a : Nat) : Int)) := .of fun ρ hρ => by
  have h := xor_nat (P := P) (k := .u32) rfl (a := 4294967295) (b := a) (by simp only [IntKind.bits]; omega) (by simp only [IntKind.bits]; omega) w
  have hm : IntKind.u32.max = ((4294967295 : Nat) : Int) := by decide
  simp only [execOp, hρ hx, Op.unary, IntKind.signed, Bool.false_eq_true, if_false, hm, Sem.run_bind, h, Result.andThen_ok, Sem.run_pure]
end
end Go.Kw
