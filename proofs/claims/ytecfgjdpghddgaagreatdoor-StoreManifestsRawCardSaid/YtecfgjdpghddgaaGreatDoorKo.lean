/-
  KO: operations on memory, for the program logic of Kw over the chunks of Kh. Our own text; it names no program.
-/
import Derived.Test.YtecfgjdpghddgaaGreatDoorKw
set_option linter.unusedVariables false
set_option linter.unusedSimpArgs false
set_option linter.unusedSectionVars false
namespace Go.Kw
open Go.RowKit
structure SlTy (P : Program) (t e s : Nat) (z : Value) (b : Nat) : Prop where
  und : P.underlying t = some (.slice e)
  info : ∃ i, P.info? e = some i ∧ i.zero = some z ∧ i.size = s ∧ i.bytes = b
  zs : z.cells.size = s
  pos : 0 < s
theorem SlTy.of {P : Program} {t e s : Nat} {z : Value} {b : Nat} (h : P.underlying t = some (.slice e)) (hi : (P.info? e).map (fun i => (i.zero, i.size, i.bytes)) = some (some z, s, b)) (hz : z.cells.size = s) (hp : 0 < s) : SlTy P t e s z b :=
  ⟨h, by obtain ⟨i, h1, h2, h3, h4⟩ := info_parts hi; exact ⟨i, h1, h2, h3, h4⟩, hz, hp⟩
def scalB (P : Program) (T : TypeId) : Bool :=
  match P.underlying T with
  | some (.struct _) | some (.array ..) | none => false
  | _ => true
def aggB (P : Program) (T : TypeId) (s : Nat) : Bool :=
  (match P.underlying T with
  | some (.struct _) | some (.array ..) => true
  | _ => false) && (P.info? T).map (·.size) == some s
def fldB (P : Program) (T : TypeId) (f off : Nat) : Bool :=
  match P.underlying T with
  | some (.struct fs) => match fs[f]? with
    | some fd => fd.offset == off && (match (P.info? fd.type).map (·.size) with | some s => s != 0 | none => false)
    | none => false
  | _ => false
theorem Rd.oneCell {w : World} {v : Value} {n : Nat} {cells : List Value} (h : Rd w v n cells) : v.oneCell' = true := by
  obtain ⟨a, cap, rfl, _⟩ := h; rfl
section
variable {P : Program} {n : Nat} {L : Know} {w : World} {d : Option Nat} {ty : TypeId} {pos : String} {af : Array Edge} {g : Option (Nat × Bool)}
theorem Ev.lenSl {x : Operand} {t : TypeId} {v : Value} {m : Nat} {cells : List Value} {e : TypeId} (hu : P.underlying t = some (.slice e)) (hx : evK L x = some v) (h : Rd w v m cells) :
    Ev P n L w ⟨d, .call ⟨.builtin .len, #[x], #[t]⟩, ty, pos, af, g⟩ (.int .i64 (m : Int)) := .of fun ρ hρ => by
  obtain ⟨a, cap, rfl, _⟩ := h
  simp [execOp, hρ hx, resolve, invoke, Builtin.len_, run_underlying hu, go_sem, goInt]
theorem Ev.lenStr {x : Operand} {t : TypeId} {s : ByteArray} (hu : P.underlying t = some .string) (hx : evK L x = some (.string s)) :
    Ev P n L w ⟨d, .call ⟨.builtin .len, #[x], #[t]⟩, ty, pos, af, g⟩ (.int .i64 (s.size : Int)) := .of fun ρ hρ => by
  simp [execOp, hρ hx, resolve, invoke, Builtin.len_, run_underlying hu, go_sem, goInt]
theorem Ev.indexAddr {x i : Operand} {t e s b : Nat} {z v : Value} {m j : Nat} {cells : List Value} {k : IntKind} (hty : SlTy P t e s z b) (hx : evK L x = some v) (hi : evK L i = some (.int k (j : Int))) (h : Rd w v m cells)
    (hlen : cells.length = m * s) (hj : j < m) : Ev P n L w ⟨d, .indexAddr t x i, ty, pos, af, g⟩ (elPtr v (j * s)) := .of fun ρ hρ => by
  obtain ⟨a, cap, rfl, _, hc⟩ := h
  obtain ⟨inf, h1, h2, h3, h4⟩ := hty.info
  have hpos : j * s < cells.length := by rw [hlen]; exact Nat.mul_lt_mul_of_pos_right hj hty.pos
  obtain ⟨bb, o, rfl, _⟩ := hc (j * s) _ (List.getElem?_eq_getElem hpos)
  have hk : (0 : Int) ≤ (j : Int) ∧ (j : Int) < (m : Int) := by omega
  simp only [execOp, hρ hx, hρ hi, Instr.indexAt, asIntOf]
  simp [run_underlying hty.und, sizeOf, typeInfo, h1, h3, hk, elPtr, go_sem, hj]
theorem Ev.loadEl {x : Operand} {T : TypeId} {v u : Value} {m c : Nat} {cells : List Value} (hT : scalB P T = true) (hx : evK L x = some (elPtr v c)) (h : Rd w v m cells) (hu : cells[c]? = some u) :
    Ev P n L w ⟨d, .load T x, ty, pos, af, g⟩ u := .of fun ρ hρ => by
  obtain ⟨a, cap, rfl, _, hc⟩ := h
  obtain ⟨bb, o, rfl, hw⟩ := hc c u hu
  have hx' : ρ x = .pointer (some ⟨bb, o + c, none⟩) := by rw [hρ hx]; simp [elPtr, Addr.add_lit]
  unfold scalB at hT
  cases hun : P.underlying T with
  | none => simp [hun] at hT
  | some D => cases D <;> simp [hun] at hT <;> simp [execOp, hx', Instr.loadAt, loadVar, isAgg, run_underlying hun, hw, go_sem]
theorem Ev.load {x : Operand} {T : TypeId} {a : Addr} {u : Value} (hT : scalB P T = true) (hx : evK L x = some (.pointer (some a))) (hu : w.cell? a = some u) :
    Ev P n L w ⟨d, .load T x, ty, pos, af, g⟩ u := .of fun ρ hρ => by
  unfold scalB at hT
  cases hun : P.underlying T with
  | none => simp [hun] at hT
  | some D => cases D <;> simp [hun] at hT <;> simp [execOp, hρ hx, Instr.loadAt, loadVar, isAgg, run_underlying hun, hu, go_sem]
theorem Ev.fieldAddr {x : Operand} {T : TypeId} {f off o o' b : Nat} (hf : fldB P T f off = true) (hx : evK L x = some (.pointer (some ⟨b, o, none⟩))) (ho : o + off = o') :
    Ev P n L w ⟨d, .fieldAddr T x f, ty, pos, af, g⟩ (.pointer (some ⟨b, o', none⟩)) := .of fun ρ hρ => by
  subst ho
  unfold fldB at hf
  cases hun : P.underlying T with
  | none => simp [hun] at hf
  | some D =>
    cases D <;> simp [hun] at hf
    rename_i fs
    cases hfd : fs[f]? with
    | none => simp [hfd] at hf
    | some fd =>
      simp only [hfd] at hf
      cases hin : P.info? fd.type with
      | none => simp [hin] at hf
      | some i =>
        simp [hin] at hf
        simp [execOp, hρ hx, Instr.fieldAt, run_underlying hun, hfd, fieldPlace, sizeOf, typeInfo, hin, hf, go_sem]
theorem elPtr_add {v : Value} {c off : Nat} {w : World} {m : Nat} {cells : List Value} (h : Rd w v m cells) (hc : c < cells.length) : ∃ b o, elPtr v c = .pointer (some ⟨b, o, none⟩) ∧ elPtr v (c + off) = .pointer (some ⟨b, o + off, none⟩) := by
  obtain ⟨a, cap, rfl, _, h⟩ := h
  obtain ⟨b, o, rfl, _⟩ := h c _ (List.getElem?_eq_getElem hc)
  exact ⟨b, o + c, by simp [elPtr, Addr.add_lit], by simp [elPtr, Addr.add_lit, Nat.add_assoc]⟩
theorem Ev.fieldEl {x : Operand} {T : TypeId} {f off c c' m : Nat} {v : Value} {cells : List Value} (hf : fldB P T f off = true) (hx : evK L x = some (elPtr v c)) (h : Rd w v m cells) (hc : c < cells.length) (ho : c + off = c') :
    Ev P n L w ⟨d, .fieldAddr T x f, ty, pos, af, g⟩ (elPtr v c') := by
  subst ho
  obtain ⟨b, o, h1, h2⟩ := elPtr_add (off := off) h hc
  rw [h2]
  rw [h1] at hx
  exact Ev.fieldAddr hf hx rfl
def BoundIs (L : Know) (dflt : Nat) : Option Operand → Nat → Prop
  | none, l => l = dflt
  | some o, l => ∃ k, evK L o = some (.int k (l : Int))
theorem sliceBounds_run {isSl : Bool} {len cap l h : Nat} {low high : Option Value} (hl : match low with | none => l = 0 | some v => ∃ k, v = .int k (l : Int)) (hh : match high with | none => h = len | some v => ∃ k, v = .int k (h : Int))
    (h1 : l ≤ h) (h2 : h ≤ cap) (w : World) : (Instr.sliceBounds isSl len cap low high none).run P w = .ok (l, h, cap) w := by
  have h1' : (0 : Int) ≤ (l : Int) ∧ (l : Int) ≤ (h : Int) := by omega
  have h2' : (0 : Int) ≤ (h : Int) ∧ (h : Int) ≤ (cap : Int) := by omega
  cases low with
  | none =>
    cases high with
    | none => simp at hl hh; subst hl; subst hh; simp [Instr.sliceBounds, go_sem]
    | some v => simp at hl; obtain ⟨k, rfl⟩ := hh; subst hl; simp [Instr.sliceBounds, Instr.sliceBound, asIntOf, h2, go_sem]
  | some u =>
    obtain ⟨k, rfl⟩ := hl
    cases high with
    | none => simp at hh; subst hh; simp [Instr.sliceBounds, Instr.sliceBound, asIntOf, h1, go_sem]
    | some v => obtain ⟨k', rfl⟩ := hh; simp [Instr.sliceBounds, Instr.sliceBound, asIntOf, h1, h2, go_sem]
theorem BoundIs.of {L : Know} {ρ : Operand → Value} (hρ : ∀ {x u}, evK L x = some u → ρ x = u) {dflt l : Nat} {lo : Option Operand} (h : BoundIs L dflt lo l) : match lo.map ρ with | none => l = dflt | some v => ∃ k, v = .int k (l : Int) := by
  cases lo with
  | none => exact h
  | some o => obtain ⟨k, hk⟩ := h; exact ⟨k, hρ hk⟩
theorem Ev.slice {x : Operand} {lo hi : Option Operand} {t e s b : Nat} {z v : Value} {m l h : Nat} {cells : List Value} (hty : SlTy P t e s z b) (hx : evK L x = some v) (hr : Rd w v m cells)
    (hl : BoundIs L 0 lo l) (hh : BoundIs L m hi h) (h1 : l ≤ h) (h2 : h ≤ m) : Ev P n L w ⟨d, .slice t x lo hi none, ty, pos, af, g⟩ (subSl s v l h) := .of fun ρ hρ => by
  obtain ⟨a, cap, rfl, hmc, hc⟩ := hr
  obtain ⟨inf, i1, i2, i3, i4⟩ := hty.info
  have hsb := fun w => sliceBounds_run (P := P) (isSl := true) (len := m) (cap := cap) (hl.of hρ) (hh.of hρ) h1 (by omega) w
  simp only [execOp, hρ hx, Instr.sliceAt, Instr.slice, Sem.run_bind, run_underlying hty.und, Result.andThen_ok, Option.map_none, hsb]
  simp [sizeOf, typeInfo, i1, i3, subSl, go_sem]
theorem Ev.sliceStr {x : Operand} {lo hi : Option Operand} {t l h : Nat} {s : ByteArray} (hu : P.underlying t = some .string) (hx : evK L x = some (.string s))
    (hl : BoundIs L 0 lo l) (hh : BoundIs L s.size hi h) (h1 : l ≤ h) (h2 : h ≤ s.size) : Ev P n L w ⟨d, .slice t x lo hi none, ty, pos, af, g⟩ (.string (s.extract l h)) := .of fun ρ hρ => by
  have hsb := fun w => sliceBounds_run (P := P) (isSl := false) (len := s.size) (cap := s.size) (hl.of hρ) (hh.of hρ) h1 h2 w
  simp only [execOp, hρ hx, Instr.sliceAt, Instr.slice, Sem.run_bind, run_underlying hu, Result.andThen_ok, Option.map_none, Option.isSome_none, Bool.false_eq_true, if_false, Sem.run_pure, hsb]
end
theorem OpE.val {P : Program} {n : Nat} {L : Know} {w w' : World} {o : Oper} {v : Value} {K : Value → World → Prop} (h : ∀ ρ : Operand → Value, (∀ {x u}, evK L x = some u → ρ x = u) → (execOp ρ o).run P w = .ok (.value v) w')
    (hk : K v w') : OpE P n L w o K := fun a ha _ _ hn => by
  simp only [Oper.wp, h a.eval (fun hx => ha.eval hx), Oper.upon]; exact hn _ _ hk
theorem OpE.unit {P : Program} {n : Nat} {L : Know} {w w' : World} {o : Oper} {K : Value → World → Prop} (h : ∀ ρ : Operand → Value, (∀ {x u}, evK L x = some u → ρ x = u) → (execOp ρ o).run P w = .ok .skip w')
    (hk : K undef w') : OpE P n L w o K := fun a ha _ _ hn => by
  simp only [Oper.wp, h a.eval (fun hx => ha.eval hx), Oper.upon]; exact hn _ _ hk
theorem Src.of_rd {P : Program} {w : World} {s tx e' m : Nat} {y : Value} {news : List Value} (hk : P.underlying tx = some (.slice e')) (h : Rd w y m news) (hl : news.length = m * s) (h1 : ∀ u ∈ news, u.oneCell' = true) : Src P s tx y m news w := by
  obtain ⟨a, cap, rfl, hn, hc⟩ := h
  cases a with
  | some a =>
    refine Src.ofSlice w hk a m cap news hl (fun j u hu => ?_) h1
    obtain ⟨b, o, hb, hw⟩ := hc j u hu
    cases hb
    rw [Addr.add_lit]; exact hw
  | none =>
    have hnil : news = [] := by
      cases news with
      | nil => rfl
      | cons u r => obtain ⟨b, o, hb, _⟩ := hc 0 u rfl; cases hb
    subst hnil
    have hf : ∀ w' : World, (Builtin.firstCells s m (.slice none m cap)).run P w' = .ok #[] w' := fun _ => rfl
    exact ⟨.inl ⟨e', hk⟩, fun _ => rfl, hf w, hf w.drew, hl, by simp⟩
theorem run_append_sl {P : Program} {w : World} {t tx ty e s b m n : Nat} {z v y : Value} {cells news : List Value} (hty : SlTy P t e s z b) (hown : w.ownsRow 0 e s v n cells) (hs : Src P s tx y m news w)
    (h63 : n + m ≤ maxLen) (hb : (n + m) * b ≤ 140737488355328) :
    ∃ v' w', (Builtin.append_ #[t, tx] ty #[v, y]).run P w = .ok v' w' ∧ w'.ownsRow 0 e s v' (n + m) (cells ++ news) ∧ Chg (slFoot v) w w' ∧ ∀ k ∈ slFoot v', k ∈ slFoot v ∨ (w.heap.size ≤ k ∧ k < w'.heap.size) := by
  obtain ⟨inf, i1, i2, i3, i4⟩ := hty.info
  have hsmall : ((n + m : Nat) : Int) ≤ 9223372036854775807 := by simp only [maxLen] at h63; omega
  subst i3; subst i4
  have hlen : (cells ++ news).length = (n + m) * inf.size := by rw [List.length_append, hown.1, hs.newsLen, Nat.add_mul]
  have grown : ∀ (base : Option Addr) (old : Nat), old < n + m → n ≤ old → (∀ w' : World, w'.heap = w.heap → (Builtin.firstCells inf.size n (.slice base n old)).run P w' = .ok cells.toArray w') →
      ∃ v' w', (Builtin.append_ #[t, tx] ty #[.slice base n old, y]).run P w = .ok v' w' ∧ w'.ownsRow 0 e inf.size v' (n + m) (cells ++ news) ∧ Chg (slFoot (.slice base n old)) w w' ∧ ∀ k ∈ slFoot v', k ∈ slFoot (.slice base n old) ∨ (w.heap.size ≤ k ∧ k < w'.heap.size) := by
    intro base old ho hno hf
    have hr := run_append_grow_src (P := P) w t tx ty e inf z hty.und i1 i2 base n old cells (hf _ rfl) y m news hs ho hsmall (growslice_fits ho hb)
    refine ⟨_, _, hr, ⟨hlen, .inr ⟨_, _, _, rfl, Nat.zero_le _, heap_alloc_new w.drew _, grownCap_ge w (n + m) old e, grownCap_le_maxLen w (n + m) old e h63, ?_, ?_⟩⟩, ?_, ?_⟩
    · simp only [Array.size_append, List.size_toArray, size_zeroCells, hty.zs, hlen, ← Nat.add_mul]
      congr 1
      have := grownCap_ge w (n + m) old e
      omega
    · simp only [Array.toList_append]
      rw [← hlen]; exact List.take_left
    · exact ⟨rfl, rfl, rfl, by simp, fun k hk _ => heap_alloc_old w.drew _ hk⟩
    · intro k hk
      simp [slFoot] at hk
      subst hk
      right; simp
  rcases hown.2 with ⟨rfl, rfl⟩ | ⟨g, cap, cur, rfl, hbg, hg, hnc, hcm, hcs, htake⟩
  · have hx : cells = [] := List.eq_nil_of_length_eq_zero (by simpa using hown.1)
    subst hx
    by_cases hm : m = 0
    · subst hm
      have hn : news = [] := List.eq_nil_of_length_eq_zero (by simpa using hs.newsLen)
      subst hn
      have hc := hs.cells
      refine ⟨.slice none 0 0, w, ?_, World.ownsRow_nil w 0 e inf.size, ⟨rfl, rfl, rfl, Nat.le_refl _, fun _ _ _ => rfl⟩, by simp [slFoot]⟩
      rcases hs.kind with ⟨e', hk⟩ | hk <;> simp [Builtin.append_, run_underlying hty.und, run_underlying hk, sizeOf, typeInfo, i1, hs.len, hc]
    · simp only [Nat.zero_add] at grown ⊢
      exact grown none 0 (by omega) (Nat.le_refl _) (fun _ _ => by simp [Builtin.firstCells])
  · by_cases hroom : n + m ≤ cap
    · have hfit : 0 + n * inf.size + 0 + news.length ≤ cur.size := by rw [hs.newsLen, hcs, Nat.zero_add, Nat.add_zero, ← Nat.add_mul]; exact Nat.mul_le_mul_right _ hroom
      have hst := run_storeCells_at (P := P) g (0 + n * inf.size) e news 0 cur w hg hfit hs.one
      have hr : (Builtin.append_ #[t, tx] ty #[.slice (some ⟨g, 0, none⟩) n cap, y]).run P w = .ok (.slice (some ⟨g, 0, none⟩) (n + m) cap) (w.setRow g (cur.toList.take (n * inf.size) ++ news ++ cur.toList.drop (n * inf.size + news.length)).toArray) := by
        simp only [Nat.zero_add, Nat.add_zero] at hst
        rcases hs.kind with ⟨e', hk⟩ | hk <;> simp [Builtin.append_, run_underlying hty.und, run_underlying hk, sizeOf, typeInfo, i1, hs.len, hroom, hs.cells, Addr.add_lit, hst]
      refine ⟨_, _, hr, ⟨hlen, .inr ⟨g, cap, _, rfl, hbg, setRow_heap w g cur _ e _ hg, hroom, hcm, ?_, ?_⟩⟩, ⟨rfl, rfl, rfl, by simp, fun k _ hk => setRow_other w g k _ (fun e => hk (by simp [slFoot, e]))⟩, fun k hk => .inl hk⟩
      · simp only [Nat.zero_add, Nat.add_zero] at hfit
        simp only [List.size_toArray, List.length_append, List.length_take, List.length_drop, Array.length_toList]
        omega
      · rw [htake, ← hlen]
        exact List.take_left
    · refine grown (some ⟨g, 0, none⟩) cap (by omega) hnc (fun w' hw' => ?_)
      refine run_firstCells_some w' inf.size n _ _ cap cells hown.1 (fun j u hu => ?_)
      have hcell := hown.cells (g := g) rfl j u hu
      simp only [World.cell?, hw'] at hcell ⊢
      exact hcell
section
variable {P : Program} {n : Nat} {L : Know} {w w0 : World} {cs : List Chunk} {K : Value → World → Prop} {d : Option Nat} {ty : TypeId} {pos : String} {af : Array Edge} {g : Option (Nat × Bool)}
theorem OpE.append {x y : Operand} {t tx e s b i m nn : Nat} {z v u : Value} {cells news : List Value} (hty : SlTy P t e s z b) (hs : Sat w0 cs w) (hi : cs[i]? = some (cSl v e s nn cells)) (hx : evK L x = some v) (hy : evK L y = some u)
    (hsrc : Src P s tx u m news w) (h63 : nn + m ≤ maxLen) (hb : (nn + m) * b ≤ 140737488355328) (hk : ∀ v' w', Sat w0 (cs.set i (cSl v' e s (nn + m) (cells ++ news))) w' → Chg (slFoot v) w w' → K v' w') :
    OpE P n L w ⟨d, .call ⟨.builtin .append, #[x, y], #[t, tx]⟩, ty, pos, af, g⟩ K := by
  obtain ⟨v', w', hr, ho, hc, hf⟩ := run_append_sl (ty := ty) hty (hs.get hi) hsrc h63 hb
  refine .val (v := v') (w' := w') (fun ρ hρ => ?_) (hk v' w' (hs.set i hi hc ho hf) hc)
  have h1 := hρ hx
  have h2 := hρ hy
  simp only [BigFrame.execOp_builtin, BigFrame.builtin_append]
  simp only [List.map_toArray, List.map_cons, List.map_nil, h1, h2, Sem.run_bind, hr, Result.andThen_ok, Sem.run_pure]
theorem OpE.box {x : Operand} {T : TypeId} {v : Value} (hs : Sat w0 cs w) (hx : evK L x = some v)
    (hk : ∀ b w', Sat w0 (cs ++ [cObj b T v.cells.toList]) w' → Chg [] w w' → w.heap.size ≤ b → K (.pointer (some ⟨b, 0, none⟩)) w') : OpE P n L w ⟨d, .box T x, ty, pos, af, g⟩ K := by
  refine .val (v := .pointer (some ⟨w.heap.size, 0, none⟩)) (w' := w.alloc (.cells v.cells.toList.toArray T)) (fun ρ hρ => ?_) (hk _ _ (hs.newObj T v.cells.toList) (.alloc _ _) (Nat.le_refl _))
  simp [execOp, hρ hx, Instr.box, newVar, newRow, go_sem]
theorem OpE.alloc {T : TypeId} {z : Value} (hs : Sat w0 cs w) (hz : (P.info? T).map (·.zero) = some (some z))
    (hk : ∀ b w', Sat w0 (cs ++ [cObj b T z.cells.toList]) w' → Chg [] w w' → w.heap.size ≤ b → K (.pointer (some ⟨b, 0, none⟩)) w') : OpE P n L w ⟨d, .alloc T, ty, pos, af, g⟩ K := by
  refine .val (v := .pointer (some ⟨w.heap.size, 0, none⟩)) (w' := w.alloc (.cells z.cells.toList.toArray T)) (fun ρ hρ => ?_) (hk _ _ (hs.newObj T z.cells.toList) (.alloc _ _) (Nat.le_refl _))
  cases hi : P.info? T with
  | none => simp [hi] at hz
  | some i =>
    simp [hi] at hz
    simp [execOp, Instr.alloc, zeroValue, typeInfo, hi, hz, newVar, newRow, go_sem]
theorem OpE.makeSlice {x y : Operand} {t e s b l c : Nat} {z : Value} {k k' : IntKind} (hty : SlTy P t e s z b) (hs : Sat w0 cs w) (hx : evK L x = some (.int k (l : Int))) (hy : evK L y = some (.int k' (c : Int))) (hlc : l ≤ c)
    (hb : b * c ≤ 281474976710656) (h63 : c ≤ 9223372036854775807)
    (hk : ∀ v w', Sat w0 (cs ++ [cSl v e s l ((madeCells z.cells (c * s)).toList.take (l * s))]) w' → Chg [] w w' → K v w') : OpE P n L w ⟨d, .makeSlice t x y, ty, pos, af, g⟩ K := by
  obtain ⟨inf, i1, i2, i3, i4⟩ := hty.info
  have h8 : (inf.bytes : Int) * (c : Int) ≤ 281474976710656 := by rw [i4, ← Int.natCast_mul]; omega
  have hr := run_make (P := P) (w := w) t e inf z hty.und i1 i2 k k' (l : Int) (c : Int) (by omega) (by omega) h8 (by omega)
  rw [i3] at hr
  simp only [Int.toNat_natCast] at hr
  refine .val (fun ρ hρ => ?_) (hk _ _ (hs.newSl e s l c (madeCells z.cells (c * s)).toList (by unfold maxLen; omega) hlc (by rw [Array.length_toList, size_madeCells])) (.alloc _ _))
  simp only [execOp, hρ hx, hρ hy, Sem.run_bind, hr, Result.andThen_ok, Sem.run_pure, Array.toArray_toList]
theorem OpE.slice1 {x : Operand} {t e b : Nat} {z v : Value} (hty : SlTy P t e 1 z b) (hs : Sat w0 cs w) (hx : evK L x = some v) (h1 : v.oneCell' = true)
    (hk : ∀ u w', Sat w0 (cs ++ [cSl u e 1 1 [v]]) w' → Chg [] w w' → K u w') : OpE P n L w ⟨d, .buildSlice t 1 #[(0, x)], ty, pos, af, g⟩ K := by
  obtain ⟨inf, i1, i2, i3, i4⟩ := hty.info
  have hz := hty.zs
  refine .val (fun ρ hρ => ?_) (hk _ _ (hs.newSl e 1 1 1 [v] (by unfold maxLen; omega) (Nat.le_refl _) rfl) (.alloc _ _))
  have hvc : v.cells = #[v] := by cases v <;> first | rfl | cases h1
  have hz' : ∃ q, z.cells = #[q] := by
    obtain ⟨q, hq⟩ := List.length_eq_one_iff.1 (by simpa using hz : z.cells.toList.length = 1)
    exact ⟨q, by apply Array.ext'; simpa using hq⟩
  obtain ⟨q, hq⟩ := hz'
  have hrun : (Instr.buildSlice t 1 #[(0, v)]).run P w = .ok (.slice (some ⟨w.heap.size, 0, none⟩) 1 1) (w.alloc (.cells #[v] e)) := by
    simp [Instr.buildSlice, run_underlying hty.und, sizeOf, typeInfo, zeroValue, i1, i2, i3, Instr.fill, hvc, hq, newRow, Array.range_succ]
    simp [show Array.range 0 = (#[] : Array Nat) from rfl]
  simp only [execOp, List.map_toArray, List.map_cons, List.map_nil, hρ hx, Sem.run_bind, hrun, Result.andThen_ok, Sem.run_pure]
theorem OpE.storeObj {x y : Operand} {T i b j : Nat} {v u0 : Value} {U : TypeId} {cells : List Value} (hT : (P.info? T).map (·.size) = some 1) (hs : Sat w0 cs w) (hi : cs[i]? = some (cObj b U cells)) (hx : evK L x = some (.pointer (some ⟨b, j, none⟩)))
    (hy : evK L y = some v) (h1 : v.oneCell' = true) (hj : cells[j]? = some u0) (hk : ∀ w', Sat w0 (cs.set i (cObj b U (cells.set j v))) w' → Chg [b] w w' → K undef w') : OpE P n L w ⟨d, .store T x y, ty, pos, af, g⟩ K := by
  have hc := hs.cell hi hj
  have hf := frozen_of_heap (hs.get hi) j
  cases hin : P.info? T with
  | none => simp [hin] at hT
  | some inf =>
    simp [hin] at hT
    refine .unit (fun ρ hρ => ?_) (hk _ (hs.setObj (j := j) (u := v) hi) (Chg.setCell w ⟨b, j, none⟩ v))
    have hvc : v.cells = #[v] := by cases v <;> first | rfl | cases h1
    have hrun : (Instr.storeAt T (.pointer (some ⟨b, j, none⟩)) v).run P w = .ok () (w.setCell ⟨b, j, none⟩ v) := by
      simp [Instr.storeAt, Instr.sureAddr, storeVar, sizeOf, typeInfo, hin, hT, hvc, storeCells, run_store P w _ v .plain h1, hc, hf, Addr.add]
    simp only [execOp, hρ hx, hρ hy, Sem.run_bind, hrun, Result.andThen_ok, Sem.run_pure]
theorem OpE.storeEl {x y : Operand} {T i e s m c : Nat} {v u u0 : Value} {cells : List Value} (hT : (P.info? T).map (·.size) = some 1) (hs : Sat w0 cs w) (hi : cs[i]? = some (cSl v e s m cells)) (hx : evK L x = some (elPtr v c))
    (hy : evK L y = some u) (h1 : u.oneCell' = true) (hc : cells[c]? = some u0) (hk : ∀ w', Sat w0 (cs.set i (cSl v e s m (cells.set c u))) w' → Chg (slFoot v) w w' → K undef w') : OpE P n L w ⟨d, .store T x y, ty, pos, af, g⟩ K := by
  have hown := hs.get hi
  have hcl : c < cells.length := (List.getElem?_eq_some_iff.1 hc).1
  obtain ⟨hl, ⟨rfl, rfl⟩ | ⟨g, cap, cur, rfl, hg0, hh, hnc, hcm, hcs, ht⟩⟩ := id hown
  · simp at hl; subst hl; simp at hcl
  have hcell : w.cell? ⟨g, c, none⟩ = some u0 := by rw [World.ownsRow.cellAt hown c (by rw [← hl]; exact hcl)]; exact hc
  have hf := frozen_of_heap hh c
  cases hin : P.info? T with
  | none => simp [hin] at hT
  | some inf =>
    simp [hin] at hT
    refine .unit (fun ρ hρ => ?_) (hk _ (hs.setSl (j := c) (u := u) hi) (Chg.setCell w ⟨g, c, none⟩ u))
    have hvc : u.cells = #[u] := by cases u <;> first | rfl | cases h1
    have hx' : ρ x = .pointer (some ⟨g, c, none⟩) := by rw [hρ hx]; simp [elPtr, Addr.add_lit]
    have hrun : (Instr.storeAt T (.pointer (some ⟨g, c, none⟩)) u).run P w = .ok () (w.setCell ⟨g, c, none⟩ u) := by
      simp [Instr.storeAt, Instr.sureAddr, storeVar, sizeOf, typeInfo, hin, hT, hvc, storeCells, run_store P w _ u .plain h1, hcell, hf, Addr.add]
    simp only [execOp, hx', hρ hy, Sem.run_bind, hrun, Result.andThen_ok, Sem.run_pure]
end
end Go.Kw
namespace Go.Kw
open Go.RowKit
structure Enc (α : Type) where
  s : Nat
  enc : α → List Value
  len : ∀ x, (enc x).length = s
  one : ∀ x, ∀ u ∈ enc x, u.oneCell' = true
def encI (k : IntKind) : Enc Int := ⟨1, fun x => [.int k x], fun _ => rfl, fun x u h => by simp at h; subst h; rfl⟩
def encN (k : IntKind) : Enc Nat := ⟨1, fun x => [.int k (x : Int)], fun _ => rfl, fun x u h => by simp at h; subst h; rfl⟩
def encTx : Enc ByteArray := ⟨1, fun x => [.string x], fun _ => rfl, fun x u h => by simp at h; subst h; rfl⟩
namespace Enc
variable {α : Type} (E : Enc α)
def all (l : List α) : List Value := l.flatMap E.enc
@[simp] theorem all_nil : E.all [] = [] := rfl
theorem all_cons (x : α) (l : List α) : E.all (x :: l) = E.enc x ++ E.all l := by simp [all]
theorem all_append (l m : List α) : E.all (l ++ m) = E.all l ++ E.all m := by simp [all]
theorem all_one (x : α) : E.all [x] = E.enc x := by simp [all]
theorem all_length (l : List α) : (E.all l).length = l.length * E.s := by
  induction l with
  | nil => simp
  | cons x r ih => rw [all_cons, List.length_append, ih, E.len, List.length_cons, Nat.add_mul]; omega
theorem all_oneCell (l : List α) : ∀ u ∈ E.all l, u.oneCell' = true := fun u hu => by
  obtain ⟨x, _, hx⟩ := List.mem_flatMap.1 hu
  exact E.one x u hx
theorem all_get {l : List α} {k : Nat} {x : α} (h : l[k]? = some x) {off : Nat} (ho : off < E.s) : (E.all l)[k * E.s + off]? = (E.enc x)[off]? := by
  induction l generalizing k with
  | nil => simp at h
  | cons y r ih =>
    rw [all_cons]
    cases k with
    | zero =>
      simp at h; subst h
      rw [List.getElem?_append_left (by rw [E.len]; omega), Nat.zero_mul, Nat.zero_add]
    | succ k =>
      rw [List.getElem?_append_right (by rw [E.len, Nat.add_mul]; omega), E.len]
      have e : (k + 1) * E.s + off - E.s = k * E.s + off := by rw [Nat.add_mul]; omega
      rw [e]
      exact ih (by simpa using h)
theorem all_take (l : List α) (k : Nat) : (E.all l).take (k * E.s) = E.all (l.take k) := by
  induction l generalizing k with
  | nil => simp
  | cons y r ih =>
    cases k with
    | zero => simp
    | succ k =>
      have e : (k + 1) * E.s = (E.enc y).length + k * E.s := by rw [E.len, Nat.add_mul]; omega
      rw [all_cons, List.take_succ_cons, all_cons, e, List.take_length_add_append, ih]
theorem all_drop (l : List α) (k : Nat) : (E.all l).drop (k * E.s) = E.all (l.drop k) := by
  induction l generalizing k with
  | nil => simp
  | cons y r ih =>
    cases k with
    | zero => simp
    | succ k =>
      have e : (k + 1) * E.s = (E.enc y).length + k * E.s := by rw [E.len, Nat.add_mul]; omega
      rw [all_cons, List.drop_succ_cons, e, List.drop_length_add_append, ih]
end Enc
def RdL {α : Type} (w : World) (v : Value) (E : Enc α) (l : List α) : Prop := Rd w v l.length (E.all l)
def cL {α : Type} (v : Value) (e : Nat) (E : Enc α) (l : List α) : Chunk := cSl v e E.s l.length (E.all l)
theorem RdL.ext {α : Type} {w w' : World} {v : Value} {E : Enc α} {l : List α} (h : RdL w v E l) (he : Ext w w') : RdL w' v E l := Rd.ext h he
theorem RdL.nil {α : Type} (w : World) (E : Enc α) : RdL w (.slice none 0 0) E [] := Rd.nil w
theorem Sat.rdL {α : Type} {w0 w : World} {cs : List Chunk} (h : Sat w0 cs w) {e : Nat} {v : Value} {E : Enc α} {l : List α} (i : Nat) (hi : cs[i]? = some (cL v e E l)) : RdL w v E l := h.rd hi
theorem RdL.oneCell {α : Type} {w : World} {v : Value} {E : Enc α} {l : List α} (h : RdL w v E l) : v.oneCell' = true := Rd.oneCell h
theorem RdL.sub {α : Type} {w : World} {v : Value} {E : Enc α} {l : List α} (hr : RdL w v E l) {a b : Nat} (h1 : a ≤ b) (h2 : b ≤ l.length) : RdL w (subSl E.s v a b) E ((l.take b).drop a) := by
  have := Rd.sub hr (size := E.s) h1 h2
  rw [E.all_take, E.all_drop] at this
  unfold RdL
  rw [show ((l.take b).drop a).length = b - a by simp; omega]
  exact this
section
variable {P : Program} {n : Nat} {L : Know} {w w0 : World} {cs : List Chunk} {K : Value → World → Prop} {d : Option Nat} {ty : TypeId} {pos : String} {af : Array Edge} {g : Option (Nat × Bool)} {α : Type} {E : Enc α}
theorem Ev.lenL {x : Operand} {t e : TypeId} {v : Value} {l : List α} (hu : P.underlying t = some (.slice e)) (hx : evK L x = some v) (h : RdL w v E l) :
    Ev P n L w ⟨d, .call ⟨.builtin .len, #[x], #[t]⟩, ty, pos, af, g⟩ (.int .i64 (l.length : Int)) := Ev.lenSl hu hx h
theorem Ev.idxL {x i : Operand} {t e b : Nat} {z v : Value} {j : Nat} {l : List α} {k : IntKind} (hty : SlTy P t e E.s z b) (hx : evK L x = some v) (hi : evK L i = some (.int k (j : Int))) (h : RdL w v E l) (hj : j < l.length) :
    Ev P n L w ⟨d, .indexAddr t x i, ty, pos, af, g⟩ (elPtr v (j * E.s)) := Ev.indexAddr hty hx hi h (E.all_length l) hj
theorem Ev.ldL {x : Operand} {T : TypeId} {v u : Value} {j : Nat} {l : List α} {a : α} (hT : scalB P T = true) (hx : evK L x = some (elPtr v (j * E.s))) (h : RdL w v E l) (ha : l[j]? = some a) (hs : 0 < E.s) (hu : (E.enc a)[0]? = some u) :
    Ev P n L w ⟨d, .load T x, ty, pos, af, g⟩ u := Ev.loadEl hT hx h (by have := E.all_get ha hs; rw [Nat.add_zero] at this; rw [this]; exact hu)
theorem Ev.ldLF {x : Operand} {T : TypeId} {v u : Value} {j off : Nat} {l : List α} {a : α} (hT : scalB P T = true) (hx : evK L x = some (elPtr v (j * E.s + off))) (h : RdL w v E l) (ha : l[j]? = some a) (hs : off < E.s) (hu : (E.enc a)[off]? = some u) :
    Ev P n L w ⟨d, .load T x, ty, pos, af, g⟩ u := Ev.loadEl hT hx h (by rw [E.all_get ha hs]; exact hu)
theorem Ev.fldL {x : Operand} {T : TypeId} {f off : Nat} {v : Value} {j : Nat} {l : List α} (hf : fldB P T f off = true) (hx : evK L x = some (elPtr v (j * E.s))) (h : RdL w v E l) (hj : j < l.length) (hs : 0 < E.s) :
    Ev P n L w ⟨d, .fieldAddr T x f, ty, pos, af, g⟩ (elPtr v (j * E.s + off)) :=
  Ev.fieldEl hf hx h (by rw [E.all_length]; exact Nat.mul_lt_mul_of_pos_right hj hs) rfl
theorem Ev.sliceL {x : Operand} {lo hi : Option Operand} {t e b : Nat} {z v : Value} {a c : Nat} {l : List α} (hty : SlTy P t e E.s z b) (hx : evK L x = some v) (hr : RdL w v E l)
    (hl : BoundIs L 0 lo a) (hh : BoundIs L l.length hi c) (h1 : a ≤ c) (h2 : c ≤ l.length) : Ev P n L w ⟨d, .slice t x lo hi none, ty, pos, af, g⟩ (subSl E.s v a c) := Ev.slice hty hx hr hl hh h1 h2
theorem Src.of_rdL {s tx e' : Nat} {y : Value} {l : List α} (hs : E.s = s) (hk : P.underlying tx = some (.slice e')) (h : RdL w y E l) : Src P s tx y l.length (E.all l) w := by
  subst hs
  exact Src.of_rd hk h (E.all_length l) (E.all_oneCell l)
theorem OpE.appendL {x y : Operand} {t tx e b e' : Nat} {z v u : Value} {l m : List α} (i : Nat) (hty : SlTy P t e E.s z b) (hs : Sat w0 cs w) (hi : cs[i]? = some (cL v e E l)) (hx : evK L x = some v) (hy : evK L y = some u)
    (hk : P.underlying tx = some (.slice e')) (hr : RdL w u E m) (h63 : l.length + m.length ≤ 9223372036854775807) (hb : (l.length + m.length) * b ≤ 140737488355328) (hc : ∀ v' w', Sat w0 (cs.set i (cL v' e E (l ++ m))) w' → Chg (slFoot v) w w' → K v' w') :
    OpE P n L w ⟨d, .call ⟨.builtin .append, #[x, y], #[t, tx]⟩, ty, pos, af, g⟩ K :=
  OpE.append hty hs hi hx hy (Src.of_rdL rfl hk hr) (by unfold maxLen; omega) hb fun v' w' h1 h2 => hc v' w' (by unfold cL; rw [E.all_append, List.length_append]; exact h1) h2
theorem OpE.appendSrc {x y : Operand} {t tx e b : Nat} {z v u : Value} {l m : List α} (i : Nat) (hty : SlTy P t e E.s z b) (hs : Sat w0 cs w) (hi : cs[i]? = some (cL v e E l)) (hx : evK L x = some v) (hy : evK L y = some u)
    (hr : Src P E.s tx u m.length (E.all m) w) (h63 : l.length + m.length ≤ 9223372036854775807) (hb : (l.length + m.length) * b ≤ 140737488355328) (hc : ∀ v' w', Sat w0 (cs.set i (cL v' e E (l ++ m))) w' → Chg (slFoot v) w w' → K v' w') :
    OpE P n L w ⟨d, .call ⟨.builtin .append, #[x, y], #[t, tx]⟩, ty, pos, af, g⟩ K :=
  OpE.append hty hs hi hx hy hr (by unfold maxLen; omega) hb fun v' w' h1 h2 => hc v' w' (by unfold cL; rw [E.all_append, List.length_append]; exact h1) h2
theorem OpE.lit1 {x : Operand} {t e b : Nat} {z v : Value} (E : Enc α) (a : α) (hty : SlTy P t e E.s z b) (he : E.enc a = [v]) (hs : Sat w0 cs w) (hx : evK L x = some v)
    (hk : ∀ u w', Sat w0 (cs ++ [cL u e E [a]]) w' → Chg [] w w' → K u w') : OpE P n L w ⟨d, .buildSlice t 1 #[(0, x)], ty, pos, af, g⟩ K := by
  have h1 : E.s = 1 := by have := E.len a; rw [he] at this; simpa using this.symm
  refine OpE.slice1 (h1 ▸ hty) hs hx (E.one a v (by rw [he]; simp)) fun u w' hS hC => hk u w' ?_ hC
  unfold cL
  rw [E.all_one, he, h1]; exact hS
theorem replicate_all {z : Value} {a : α} (he : E.enc a = [z]) (h1 : E.s = 1) (c l : Nat) (hz : z.oneCell' = true) (h : l ≤ c) : (madeCells z.cells (c * E.s)).toList.take (l * E.s) = E.all (List.replicate l a) := by
  have hvc : z.cells = #[z] := by cases z <;> first | rfl | cases hz
  rw [h1, Nat.mul_one, Nat.mul_one, hvc, toList_madeCells_one, List.take_replicate, Nat.min_eq_left h]
  induction l with
  | zero => simp
  | succ l ih => rw [List.replicate_succ, List.replicate_succ, Enc.all_cons, he, ← ih (by omega)]; rfl
theorem OpE.makeL {x y : Operand} {t e b l c : Nat} {z : Value} {k k' : IntKind} (E : Enc α) (a : α) (hty : SlTy P t e E.s z b) (he : E.enc a = [z]) (hs : Sat w0 cs w) (hx : evK L x = some (.int k (l : Int))) (hy : evK L y = some (.int k' (c : Int)))
    (hlc : l ≤ c) (hb : b * c ≤ 281474976710656) (h63 : c ≤ 9223372036854775807) (hk : ∀ v w', Sat w0 (cs ++ [cL v e E (List.replicate l a)]) w' → Chg [] w w' → K v w') : OpE P n L w ⟨d, .makeSlice t x y, ty, pos, af, g⟩ K := by
  have h1 : E.s = 1 := by have := E.len a; rw [he] at this; simpa using this.symm
  refine OpE.makeSlice hty hs hx hy hlc hb h63 fun v w' hS hC => hk v w' ?_ hC
  rw [replicate_all he h1 c l (E.one a z (by rw [he]; simp)) hlc] at hS
  unfold cL
  rw [List.length_replicate]
  exact hS
theorem all_set {l : List α} {j : Nat} {a : α} {u : Value} (he : E.enc a = [u]) (hj : j < l.length) : (E.all l).set (j * E.s) u = E.all (l.set j a) := by
  have h1 : E.s = 1 := by have := E.len a; rw [he] at this; simpa using this.symm
  have e1 : l = l.take j ++ l[j] :: l.drop (j + 1) := by simp
  have e2 : l.set j a = l.take j ++ a :: l.drop (j + 1) := by
    rw [List.set_eq_take_append_cons_drop]; simp [hj]
  obtain ⟨q, hq⟩ := List.length_eq_one_iff.1 (by rw [E.len l[j], h1] : (E.enc l[j]).length = 1)
  have hl : (E.all (l.take j)).length = j := by rw [E.all_length, h1]; simp; omega
  rw [e2, E.all_append, E.all_cons, he]
  conv => lhs; rw [e1, E.all_append, E.all_cons, hq]
  rw [h1, Nat.mul_one, List.set_append_right _ _ (by omega), hl, Nat.sub_self]
  rfl
theorem OpE.setL {x y : Operand} {T e j : Nat} {v u : Value} {l : List α} {a : α} (i : Nat) (hT : (P.info? T).map (·.size) = some 1) (hs : Sat w0 cs w) (hi : cs[i]? = some (cL v e E l)) (hx : evK L x = some (elPtr v (j * E.s)))
    (hy : evK L y = some u) (he : E.enc a = [u]) (hj : j < l.length) (hk : ∀ w', Sat w0 (cs.set i (cL v e E (l.set j a))) w' → Chg (slFoot v) w w' → K undef w') : OpE P n L w ⟨d, .store T x y, ty, pos, af, g⟩ K := by
  have h1 : E.s = 1 := by have := E.len a; rw [he] at this; simpa using this.symm
  have hget : (E.all l)[j * E.s]? = some _ := List.getElem?_eq_getElem (by rw [E.all_length]; exact Nat.mul_lt_mul_of_pos_right hj (by omega))
  refine OpE.storeEl hT hs hi hx hy (E.one a u (by rw [he]; simp)) hget fun w' hS hC => hk w' ?_ hC
  rw [all_set he hj] at hS
  unfold cL
  rw [List.length_set]; exact hS
theorem Sat.newNilL {w0 w : World} {cs : List Chunk} (h : Sat w0 cs w) (e : Nat) (E : Enc α) : Sat w0 (cs ++ [cL (.slice none 0 0) e E []]) w := h.newNil e E.s
end
end Go.Kw
