/-
  KL: slices that read as lists of things, by an encoding of each thing as cells; the operations of Ko said of them. Our own text; it names no program.
-/
import Derived.Test.YtfhbflhnelbkfaaKo
set_option linter.unusedSimpArgs false
set_option linter.unusedVariables false
set_option linter.unusedSectionVars false
namespace Go.Kw
open Go.RowKit

/-- How a thing lies in s cells. -/
structure Enc (α : Type) where
  s : Nat
  enc : α → List Value
  len : ∀ x, (enc x).length = s
  one : ∀ x, ∀ u ∈ enc x, u.oneCell' = true

def encI (k : IntKind) : Enc Int := ⟨1, fun x => [.int k x], fun _ => rfl, fun x u h => by simp at h; subst h; rfl⟩
def encN (k : IntKind) : Enc Nat := ⟨1, fun x => [.int k (x : Int)], fun _ => rfl, fun x u h => by simp at h; subst h; rfl⟩
def encTx : Enc ByteArray := ⟨1, fun x => [.string x], fun _ => rfl, fun x u h => by simp at h; subst h; rfl⟩
def encB : Enc Bool := ⟨1, fun x => [.bool x], fun _ => rfl, fun x u h => by simp at h; subst h; rfl⟩

namespace Enc
variable {α : Type} (E : Enc α)
def all (l : List α) : List Value := l.flatMap E.enc
@[simp] theorem all_nil : E.all [] = [] := rfl
theorem all_cons (x : α) (l : List α) : E.all (x :: l) = E.enc x ++ E.all l := by simp [all]
theorem all_append (l m : List α) : E.all (l ++ m) = E.all l ++ E.all m := by simp [all]
theorem all_one (x : α) : E.all [x] = E.enc x := by simp [all]
theorem all_length (l : List α) : (E.all l).length = l.length * E.s := by
  induction l with
  | nil => simp
  | cons x r ih => rw [all_cons, List.length_append, ih, E.len, List.length_cons, Nat.add_mul]; omega
theorem all_oneCell (l : List α) : ∀ u ∈ E.all l, u.oneCell' = true := fun u hu => by
  obtain ⟨x, _, hx⟩ := List.mem_flatMap.1 hu
  exact E.one x u hx
theorem all_get {l : List α} {k : Nat} {x : α} (h : l[k]? = some x) {off : Nat} (ho : off < E.s) : (E.all l)[k * E.s + off]? = (E.enc x)[off]? := by
  induction l generalizing k with
  | nil => simp at h
  | cons y r ih =>
    rw [all_cons]
    cases k with
    | zero =>
      simp at h; subst h
      rw [List.getElem?_append_left (by rw [E.len]; omega), Nat.zero_mul, Nat.zero_add]
    | succ k =>
      rw [List.getElem?_append_right (by rw [E.len, Nat.add_mul]; omega), E.len]
      have e : (k + 1) * E.s + off - E.s = k * E.s + off := by rw [Nat.add_mul]; omega
      rw [e]
      exact ih (by simpa using h)
theorem all_take (l : List α) (k : Nat) : (E.all l).take (k * E.s) = E.all (l.take k) := by
  induction l generalizing k with
  | nil => simp
  | cons y r ih =>
    cases k with
    | zero => simp
    | succ k =>
      have e : (k + 1) * E.s = (E.enc y).length + k * E.s := by rw [E.len, Nat.add_mul]; omega
      rw [all_cons, List.take_succ_cons, all_cons, e, List.take_length_add_append, ih]
theorem all_drop (l : List α) (k : Nat) : (E.all l).drop (k * E.s) = E.all (l.drop k) := by
  induction l generalizing k with
  | nil => simp
  | cons y r ih =>
    cases k with
    | zero => simp
    | succ k =>
      have e : (k + 1) * E.s = (E.enc y).length + k * E.s := by rw [E.len, Nat.add_mul]; omega
      rw [all_cons, List.drop_succ_cons, e, List.drop_length_add_append, ih]
end Enc

/-- The slice v reads as the list l. -/
def RdL {α : Type} (w : World) (v : Value) (E : Enc α) (l : List α) : Prop := Rd w v l.length (E.all l)
/-- The slice v is the call's own and holds the list l. -/
def cL {α : Type} (v : Value) (e : Nat) (E : Enc α) (l : List α) : Chunk := cSl v e E.s l.length (E.all l)

theorem RdL.ext {α : Type} {w w' : World} {v : Value} {E : Enc α} {l : List α} (h : RdL w v E l) (he : Ext w w') : RdL w' v E l := Rd.ext h he
theorem RdL.nil {α : Type} (w : World) (E : Enc α) : RdL w (.slice none 0 0) E [] := Rd.nil w
theorem Sat.rdL {α : Type} {w0 w : World} {cs : List Chunk} (h : Sat w0 cs w) {e : Nat} {v : Value} {E : Enc α} {l : List α} (i : Nat) (hi : cs[i]? = some (cL v e E l)) : RdL w v E l := h.rd hi
theorem RdL.oneCell {α : Type} {w : World} {v : Value} {E : Enc α} {l : List α} (h : RdL w v E l) : v.oneCell' = true := Rd.oneCell h
theorem RdL.sub {α : Type} {w : World} {v : Value} {E : Enc α} {l : List α} (hr : RdL w v E l) {a b : Nat} (h1 : a ≤ b) (h2 : b ≤ l.length) : RdL w (subSl E.s v a b) E ((l.take b).drop a) := by
  have := Rd.sub hr (size := E.s) h1 h2
  rw [E.all_take, E.all_drop] at this
  unfold RdL
  rw [show ((l.take b).drop a).length = b - a by simp; omega]
  exact this

section
variable {P : Program} {n : Nat} {L : Know} {w w0 : World} {cs : List Chunk} {K : Value → World → Prop} {d : Option Nat} {ty : TypeId} {pos : String} {af : Array Edge} {g : Option (Nat × Bool)} {α : Type} {E : Enc α}

theorem Ev.lenL {x : Operand} {t e : TypeId} {v : Value} {l : List α} (hu : P.underlying t = some (.slice e)) (hx : evK L x = some v) (h : RdL w v E l) :
    Ev P n L w ⟨d, .call ⟨.builtin .len, #[x], #[t]⟩, ty, pos, af, g⟩ (.int .i64 (l.length : Int)) := Ev.lenSl hu hx h

theorem Ev.idxL {x i : Operand} {t e b : Nat} {z v : Value} {j : Nat} {l : List α} {k : IntKind} (hty : SlTy P t e E.s z b) (hx : evK L x = some v) (hi : evK L i = some (.int k (j : Int))) (h : RdL w v E l) (hj : j < l.length) :
    Ev P n L w ⟨d, .indexAddr t x i, ty, pos, af, g⟩ (elPtr v (j * E.s)) := Ev.indexAddr hty hx hi h (E.all_length l) hj

/-- A load of an element of one cell. -/
theorem Ev.ldL {x : Operand} {T : TypeId} {v u : Value} {j : Nat} {l : List α} {a : α} (hT : scalB P T = true) (hx : evK L x = some (elPtr v (j * E.s))) (h : RdL w v E l) (ha : l[j]? = some a) (hs : 0 < E.s) (hu : (E.enc a)[0]? = some u) :
    Ev P n L w ⟨d, .load T x, ty, pos, af, g⟩ u := Ev.loadEl hT hx h (by have := E.all_get ha hs; rw [Nat.add_zero] at this; rw [this]; exact hu)
/-- A load of a cell of an element. -/
theorem Ev.ldLF {x : Operand} {T : TypeId} {v u : Value} {j off : Nat} {l : List α} {a : α} (hT : scalB P T = true) (hx : evK L x = some (elPtr v (j * E.s + off))) (h : RdL w v E l) (ha : l[j]? = some a) (hs : off < E.s) (hu : (E.enc a)[off]? = some u) :
    Ev P n L w ⟨d, .load T x, ty, pos, af, g⟩ u := Ev.loadEl hT hx h (by rw [E.all_get ha hs]; exact hu)
theorem Ev.fldL {x : Operand} {T : TypeId} {f off : Nat} {v : Value} {j : Nat} {l : List α} (hf : fldB P T f off = true) (hx : evK L x = some (elPtr v (j * E.s))) (h : RdL w v E l) (hj : j < l.length) (hs : 0 < E.s) :
    Ev P n L w ⟨d, .fieldAddr T x f, ty, pos, af, g⟩ (elPtr v (j * E.s + off)) :=
  Ev.fieldEl hf hx h (by rw [E.all_length]; exact Nat.mul_lt_mul_of_pos_right hj hs) rfl

theorem Ev.sliceL {x : Operand} {lo hi : Option Operand} {t e b : Nat} {z v : Value} {a c : Nat} {l : List α} (hty : SlTy P t e E.s z b) (hx : evK L x = some v) (hr : RdL w v E l)
    (hl : BoundIs L 0 lo a) (hh : BoundIs L l.length hi c) (h1 : a ≤ c) (h2 : c ≤ l.length) : Ev P n L w ⟨d, .slice t x lo hi none, ty, pos, af, g⟩ (subSl E.s v a c) := Ev.slice hty hx hr hl hh h1 h2

theorem Src.of_rdL {s tx e' : Nat} {y : Value} {l : List α} (hs : E.s = s) (hk : P.underlying tx = some (.slice e')) (h : RdL w y E l) : Src P s tx y l.length (E.all l) w := by
  subst hs
  exact Src.of_rd hk h (E.all_length l) (E.all_oneCell l)

theorem OpE.appendL {x y : Operand} {t tx e b e' : Nat} {z v u : Value} {l m : List α} (i : Nat) (hty : SlTy P t e E.s z b) (hs : Sat w0 cs w) (hi : cs[i]? = some (cL v e E l)) (hx : evK L x = some v) (hy : evK L y = some u)
    (hk : P.underlying tx = some (.slice e')) (hr : RdL w u E m) (h63 : l.length + m.length ≤ 9223372036854775807) (hb : (l.length + m.length) * b ≤ 140737488355328) (hc : ∀ v' w', Sat w0 (cs.set i (cL v' e E (l ++ m))) w' → Chg (slFoot v) w w' → K v' w') :
    OpE P n L w ⟨d, .call ⟨.builtin .append, #[x, y], #[t, tx]⟩, ty, pos, af, g⟩ K :=
  OpE.append hty hs hi hx hy (Src.of_rdL rfl hk hr) (by unfold maxLen; omega) hb fun v' w' h1 h2 => hc v' w' (by unfold cL; rw [E.all_append, List.length_append]; exact h1) h2

/-- A source that is no slice of such things (a string onto a []byte). -/
theorem OpE.appendSrc {x y : Operand} {t tx e b : Nat} {z v u : Value} {l m : List α} (i : Nat) (hty : SlTy P t e E.s z b) (hs : Sat w0 cs w) (hi : cs[i]? = some (cL v e E l)) (hx : evK L x = some v) (hy : evK L y = some u)
    (hr : Src P E.s tx u m.length (E.all m) w) (h63 : l.length + m.length ≤ 9223372036854775807) (hb : (l.length + m.length) * b ≤ 140737488355328) (hc : ∀ v' w', Sat w0 (cs.set i (cL v' e E (l ++ m))) w' → Chg (slFoot v) w w' → K v' w') :
    OpE P n L w ⟨d, .call ⟨.builtin .append, #[x, y], #[t, tx]⟩, ty, pos, af, g⟩ K :=
  OpE.append hty hs hi hx hy hr (by unfold maxLen; omega) hb fun v' w' h1 h2 => hc v' w' (by unfold cL; rw [E.all_append, List.length_append]; exact h1) h2

/-- A slice literal of one element of one cell. -/
theorem OpE.lit1 {x : Operand} {t e b : Nat} {z v : Value} (E : Enc α) (a : α) (hty : SlTy P t e E.s z b) (he : E.enc a = [v]) (hs : Sat w0 cs w) (hx : evK L x = some v)
    (hk : ∀ u w', Sat w0 (cs ++ [cL u e E [a]]) w' → Chg [] w w' → K u w') : OpE P n L w ⟨d, .buildSlice t 1 #[(0, x)], ty, pos, af, g⟩ K := by
  have h1 : E.s = 1 := by have := E.len a; rw [he] at this; simpa using this.symm
  refine OpE.slice1 (h1 ▸ hty) hs hx (E.one a v (by rw [he]; simp)) fun u w' hS hC => hk u w' ?_ hC
  unfold cL
  rw [E.all_one, he, h1]; exact hS

theorem replicate_all {z : Value} {a : α} (he : E.enc a = [z]) (h1 : E.s = 1) (c l : Nat) (hz : z.oneCell' = true) (h : l ≤ c) : (madeCells z.cells (c * E.s)).toList.take (l * E.s) = E.all (List.replicate l a) := by
  have hvc : z.cells = #[z] := by cases z <;> first | rfl | cases hz
  rw [h1, Nat.mul_one, Nat.mul_one, hvc, toList_madeCells_one, List.take_replicate, Nat.min_eq_left h]
  induction l with
  | zero => simp
  | succ l ih => rw [List.replicate_succ, List.replicate_succ, Enc.all_cons, he, ← ih (by omega)]; rfl

/-- make([]T, l, c), T of one cell. -/
theorem OpE.makeL {x y : Operand} {t e b l c : Nat} {z : Value} {k k' : IntKind} (E : Enc α) (a : α) (hty : SlTy P t e E.s z b) (he : E.enc a = [z]) (hs : Sat w0 cs w) (hx : evK L x = some (.int k (l : Int))) (hy : evK L y = some (.int k' (c : Int)))
    (hlc : l ≤ c) (hb : b * c ≤ 281474976710656) (h63 : c ≤ 9223372036854775807) (hk : ∀ v w', Sat w0 (cs ++ [cL v e E (List.replicate l a)]) w' → Chg [] w w' → K v w') : OpE P n L w ⟨d, .makeSlice t x y, ty, pos, af, g⟩ K := by
  have h1 : E.s = 1 := by have := E.len a; rw [he] at this; simpa using this.symm
  refine OpE.makeSlice hty hs hx hy hlc hb h63 fun v w' hS hC => hk v w' ?_ hC
  rw [replicate_all he h1 c l (E.one a z (by rw [he]; simp)) hlc] at hS
  unfold cL
  rw [List.length_replicate]
  exact hS

theorem all_set {l : List α} {j : Nat} {a : α} {u : Value} (he : E.enc a = [u]) (hj : j < l.length) : (E.all l).set (j * E.s) u = E.all (l.set j a) := by
  have h1 : E.s = 1 := by have := E.len a; rw [he] at this; simpa using this.symm
  have e1 : l = l.take j ++ l[j] :: l.drop (j + 1) := by simp
  have e2 : l.set j a = l.take j ++ a :: l.drop (j + 1) := by
    rw [List.set_eq_take_append_cons_drop]; simp [hj]
  obtain ⟨q, hq⟩ := List.length_eq_one_iff.1 (by rw [E.len l[j], h1] : (E.enc l[j]).length = 1)
  have hl : (E.all (l.take j)).length = j := by rw [E.all_length, h1]; simp; omega
  rw [e2, E.all_append, E.all_cons, he]
  conv => lhs; rw [e1, E.all_append, E.all_cons, hq]
  rw [h1, Nat.mul_one, List.set_append_right _ _ (by omega), hl, Nat.sub_self]
  rfl

/-- out[j] = a. -/
theorem OpE.setL {x y : Operand} {T e j : Nat} {v u : Value} {l : List α} {a : α} (i : Nat) (hT : (P.info? T).map (·.size) = some 1) (hs : Sat w0 cs w) (hi : cs[i]? = some (cL v e E l)) (hx : evK L x = some (elPtr v (j * E.s)))
    (hy : evK L y = some u) (he : E.enc a = [u]) (hj : j < l.length) (hk : ∀ w', Sat w0 (cs.set i (cL v e E (l.set j a))) w' → Chg (slFoot v) w w' → K undef w') : OpE P n L w ⟨d, .store T x y, ty, pos, af, g⟩ K := by
  have h1 : E.s = 1 := by have := E.len a; rw [he] at this; simpa using this.symm
  have hget : (E.all l)[j * E.s]? = some _ := List.getElem?_eq_getElem (by rw [E.all_length]; exact Nat.mul_lt_mul_of_pos_right hj (by omega))
  refine OpE.storeEl hT hs hi hx hy (E.one a u (by rw [he]; simp)) hget fun w' hS hC => hk w' ?_ hC
  rw [all_set he hj] at hS
  unfold cL
  rw [List.length_set]; exact hS

theorem Sat.newNilL {w0 w : World} {cs : List Chunk} (h : Sat w0 cs w) (e : Nat) (E : Enc α) : Sat w0 (cs ++ [cL (.slice none 0 0) e E []]) w := h.newNil e E.s

/-- copy(out, src), out a row of the call's own. -/
theorem OpE.copyL {x y : Operand} {t tx e b : Nat} {z v u : Value} {l m : List α} (i : Nat) (hty : SlTy P t e E.s z b) (h1 : E.s = 1) (hs : Sat w0 cs w) (hi : cs[i]? = some (cL v e E l)) (hx : evK L x = some v) (hy : evK L y = some u)
    (hr : RdL w u E m) (hk : ∀ w', Sat w0 (cs.set i (cL v e E (m.take l.length ++ l.drop m.length))) w' → Chg (slFoot v) w w' → K (.int .i64 ((min m.length l.length : Nat) : Int)) w') :
    OpE P n L w ⟨d, .call ⟨.builtin .copy, #[x, y], #[t, tx]⟩, ty, pos, af, g⟩ K := by
  obtain ⟨inf, i1, i2, i3, i4⟩ := hty.info
  have hsz : (P.info? e).map (·.size) = some 1 := by rw [i1]; simp [i3, h1]
  have hown := hs.get hi
  have run : ∀ w' : World, (Builtin.copy_ #[t, tx] ty #[v, u]).run P w = .ok (.int .i64 ((min m.length l.length : Nat) : Int)) w' → K (.int .i64 ((min m.length l.length : Nat) : Int)) w' →
      OpE P n L w ⟨d, .call ⟨.builtin .copy, #[x, y], #[t, tx]⟩, ty, pos, af, g⟩ K := fun w' hrun hK => by
    refine .val (fun ρ hρ => ?_) hK
    have e1 := hρ hx
    have e2 := hρ hy
    simp only [BigFrame.execOp_builtin, BigFrame.builtin_copy]
    simp only [List.map_toArray, List.map_cons, List.map_nil, e1, e2, Sem.run_bind, hrun, Result.andThen_ok, Sem.run_pure]
  obtain ⟨ua, ucap, rfl, hucap, huc⟩ := id hr
  by_cases hz : min m.length l.length = 0
  · have hnone : (Builtin.copy_ #[t, tx] ty #[v, .slice ua m.length ucap]).run P w = .ok (.int .i64 ((min m.length l.length : Nat) : Int)) w := by
      rcases hown.2 with ⟨rfl, hl0⟩ | ⟨gg, cap, cur, rfl, _⟩
      · rw [hz]; exact run_copy_none w t tx ty e none ua 0 0 m.length ucap hty.und hsz (by simp)
      · rw [hz]; exact run_copy_none w t tx ty e _ ua l.length cap m.length ucap hty.und hsz hz
    refine run w hnone (hk w ?_ ⟨rfl, rfl, rfl, Nat.le_refl _, fun _ _ _ => rfl⟩)
    have hsame : m.take l.length ++ l.drop m.length = l := by
      rcases Nat.eq_zero_or_pos l.length with h | h
      · rw [List.eq_nil_of_length_eq_zero h]; simp
      · have : m.length = 0 := by omega
        rw [List.eq_nil_of_length_eq_zero this]; simp
    rw [hsame]
    exact hs.set i hi ⟨rfl, rfl, rfl, Nat.le_refl _, fun _ _ _ => rfl⟩ hown (fun _ hk => .inl hk)
  · obtain ⟨hlen, ⟨rfl, hl0⟩ | ⟨gg, cap, cur, rfl, hg0, hh, hnc, hcm, hcs, ht⟩⟩ := hown
    · omega
    have hun : ∃ ub uo, ua = some ⟨ub, uo, none⟩ := by
      have hpos : 0 < (E.all m).length := by rw [E.all_length, h1]; omega
      obtain ⟨bb, o, ha, _⟩ := huc 0 _ (List.getElem?_eq_getElem hpos)
      exact ⟨bb, o, ha⟩
    obtain ⟨ub, uo, rfl⟩ := hun
    rw [h1, Nat.mul_one] at hlen hcs ht
    have hml : (E.all m).length = m.length := by rw [E.all_length, h1, Nat.mul_one]
    have hrun := run_copy_row (P := P) w t tx ty e gg 0 l.length cap ⟨ub, uo, none⟩ m.length ucap cur e ((E.all m).take l.length) hty.und hsz hh
      (by rw [List.length_take, hml, Nat.min_comm])
      (fun j q hq => by
        rw [List.getElem?_take] at hq
        split at hq
        · obtain ⟨b2, o2, hb2, hc2⟩ := huc j q hq
          cases hb2; rw [Addr.add_lit]; exact hc2
        · cases hq)
      (by rw [List.length_take, hml, hcs]; omega) (fun q hq => E.all_oneCell m q (List.take_subset _ _ hq))
    have hn : ((E.all m).take l.length).length = min m.length l.length := by rw [List.length_take, hml]; omega
    rw [hn] at hrun
    refine run _ hrun (hk _ (hs.set i hi ⟨rfl, rfl, rfl, by simp, fun k _ hk => setRow_other w gg k _ (fun e => hk (by simp [cL, cSl, slFoot, e]))⟩ ?_ (fun _ hk => .inl hk)) ⟨rfl, rfl, rfl, by simp, fun k _ hk => setRow_other w gg k _ (fun e => hk (by simp [slFoot, e]))⟩)
    have hl2 : (m.take l.length ++ l.drop m.length).length = l.length := by simp; omega
    refine ⟨E.all_length _, .inr ⟨gg, cap, _, ?_, hg0, setRow_heap w gg cur _ e _ hh, by omega, hcm, ?_, ?_⟩⟩
    · rw [hl2]
    · simp only [List.size_toArray, List.length_append, List.length_take, List.length_drop, Array.length_toList, h1]
      omega
    · rw [hl2, h1, Nat.mul_one, E.all_append]
      have e1 := E.all_take m l.length
      have e2 := E.all_drop l m.length
      rw [h1, Nat.mul_one] at e1 e2
      rw [← e1, ← e2, ← ht]
      simp only [List.take_zero, List.nil_append, Nat.zero_add]
      rw [List.take_append, hn, List.take_of_length_le (by rw [hn]; omega)]
      congr 1
      rcases Nat.le_total m.length l.length with h | h
      · rw [Nat.min_eq_left h, List.drop_take]
      · rw [Nat.min_eq_right h, Nat.sub_self, List.take_zero, List.drop_of_length_le (by rw [List.length_take]; omega)]
end
end Go.Kw
