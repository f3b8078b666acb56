/-
  KG: fields of elements written, units as values, strings put together, for the program logic of Kw. Our own text; it names no program.
-/
import Derived.Test.YtfhbflhnelbkfaaKf
import Derived.Test.YtfhbflhnelbkfaaKu
import Derived.Laws.Concat
set_option linter.unusedSimpArgs false
set_option linter.unusedVariables false
set_option linter.unusedSectionVars false
namespace Go.Kw
open Go.RowKit
section
variable {α : Type} {E : Enc α} {P : Program} {n : Nat} {L : Know} {w w0 : World} {cs : List Chunk} {K : Value → World → Prop} {d : Option Nat} {ty : TypeId} {pos : String} {af : Array Edge} {g : Option (Nat × Bool)}
theorem all_setF {l : List α} {j off : Nat} {a a' : α} {u : Value} (ha : l[j]? = some a) (he : E.enc a' = (E.enc a).set off u) (ho : off < E.s) : (E.all l).set (j * E.s + off) u = E.all (l.set j a') := by
  have hj : j < l.length := (List.getElem?_eq_some_iff.1 ha).1
  have e1 : l = l.take j ++ a :: l.drop (j + 1) := by
    have := (List.getElem?_eq_some_iff.1 ha).2
    conv => lhs; rw [← List.take_append_drop j l, List.drop_eq_getElem_cons hj, this]
  have e2 : l.set j a' = l.take j ++ a' :: l.drop (j + 1) := by
    rw [List.set_eq_take_append_cons_drop]; simp [hj]
  have hl : (E.all (l.take j)).length = j * E.s := by rw [E.all_length]; simp; rw [Nat.min_eq_left (by omega)]
  rw [e2, E.all_append, E.all_cons, he]
  conv => lhs; rw [e1, E.all_append, E.all_cons]
  rw [List.set_append_right _ _ (by omega), hl, Nat.add_sub_cancel_left, List.set_append_left _ _ (by rw [E.len]; exact ho)]
/-- l[j].f = u -/
theorem OpE.setFL {x y : Operand} {T e j off : Nat} {v u : Value} {l : List α} {a : α} (i : Nat) (a' : α) (hT : (P.info? T).map (·.size) = some 1) (hs : Sat w0 cs w) (hi : cs[i]? = some (cL v e E l)) (hx : evK L x = some (elPtr v (j * E.s + off)))
    (hy : evK L y = some u) (h1 : u.oneCell' = true) (ha : l[j]? = some a) (he : E.enc a' = (E.enc a).set off u) (ho : off < E.s) (hk : ∀ w', Sat w0 (cs.set i (cL v e E (l.set j a'))) w' → Chg (slFoot v) w w' → K undef w') : OpE P n L w ⟨d, .store T x y, ty, pos, af, g⟩ K := by
  have hj : j < l.length := (List.getElem?_eq_some_iff.1 ha).1
  have hlt : j * E.s + off < (E.all l).length := by
    rw [E.all_length]
    have : (j + 1) * E.s ≤ l.length * E.s := Nat.mul_le_mul_right _ hj
    rw [Nat.add_mul, Nat.one_mul] at this; omega
  refine OpE.storeEl hT hs hi hx hy h1 (List.getElem?_eq_getElem hlt) fun w' hS hC => hk w' ?_ hC
  rw [all_setF ha he ho] at hS
  unfold cL
  rw [List.length_set]; exact hS
end
/-! ## Units as the reference has them -/
structure RU where
  r : Nat
  at_ : Nat
  size : Nat
  ok : Bool
def encRU : Enc RU := ⟨4, fun u => [.int .i32 (u.r : Int), .int .i64 (u.at_ : Int), .int .i64 (u.size : Int), .bool u.ok], fun _ => rfl, fun x v h => by
  simp only [List.mem_cons, List.not_mem_nil, or_false] at h; rcases h with rfl | rfl | rfl | rfl <;> rfl⟩
def ruF (u : Un) : RU := ⟨u.r, u.at_, u.size, false⟩
def ruT (u : Un) : RU := ⟨u.r, u.at_, u.size, u.ok⟩

theorem drop_at {α : Type} {l : List α} {k : Nat} {x : α} (h : l[k]? = some x) : l.drop k = x :: l.drop (k + 1) := by
  obtain ⟨hk, rfl⟩ := List.getElem?_eq_some_iff.1 h
  exact List.drop_eq_getElem_cons hk
theorem all_snoc {α : Type} {p : α → Bool} {l : List α} {k : Nat} {x : α} (h : (l.take k).all p = true) (hx : l[k]? = some x) (hp : p x = true) : (l.take (k + 1)).all p = true := by
  rw [List.take_add_one, hx, List.all_append, h]; simp [hp]
/-! ## Pieces of strings -/
def pieceL (s : ByteArray) (u : Un) : List UInt8 := (s.data.toList.drop u.at_).take u.size
theorem ext_list (s : ByteArray) (a b : Nat) : (s.extract a b).data.toList = (s.data.toList.drop a).take (b - a) := by
  have : (s.extract a b).data = s.data.extract a b := by simp
  rw [this, Array.toList_extract]
theorem piece_ext (s : ByteArray) (u : Un) : (s.extract u.at_ (u.at_ + u.size)).data.toList = pieceL s u := by
  rw [ext_list, Nat.add_sub_cancel_left]; rfl
/-- Some units' bytes, the last unit ahead. -/
def revP (s : ByteArray) (us : List Un) : ByteArray := ⟨(us.reverse.flatMap (pieceL s)).toArray⟩
theorem revP_snoc (s : ByteArray) (us : List Un) (u : Un) : revP s (us ++ [u]) = s.extract u.at_ (u.at_ + u.size) ++ revP s us := by
  apply bytes_ext
  have : (s.extract u.at_ (u.at_ + u.size) ++ revP s us).data = (s.extract u.at_ (u.at_ + u.size)).data ++ (revP s us).data := by simp
  rw [this, Array.toList_append, piece_ext]
  simp [revP]
theorem revP_uns (s : ByteArray) : revP s (uns s.data.toList) = revN s := by
  apply bytes_ext
  show (uns s.data.toList).reverse.flatMap (pieceL s) = revL s.data.toList
  unfold revL
  rw [← uns_chop, ← List.map_reverse, List.flatMap_map]
  rfl
theorem revP_size (s : ByteArray) (us : List Un) : (revP s us).size = (us.map Un.size).sum ∨ True := .inr trivial
/-- A string's bytes as numbers. -/
def strB (s : ByteArray) : List Nat := s.data.toList.map fun b => b.toNat
theorem strB_length (s : ByteArray) : (strB s).length = s.size := by unfold strB; rw [List.length_map, bsz]
theorem strB_lt (s : ByteArray) : ∀ x ∈ strB s, x < 256 := fun x hx => by
  obtain ⟨b, _, rfl⟩ := List.mem_map.1 hx; exact b.toNat_lt
theorem srcStr {P : Program} {tx : TypeId} {w : World} (hk : P.underlying tx = some .string) (s : ByteArray) : Src P 1 tx (.string s) (strB s).length ((encN .u8).all (strB s)) w := by
  have h := Src.ofString w hk s
  have e : (encN .u8).all (strB s) = byteCells s := by
    unfold strB byteCells
    generalize s.data.toList = l
    induction l with
    | nil => rfl
    | cons b l ih => rw [List.map_cons, List.map_cons, Enc.all_cons, ih]; rfl
  rw [e, strB_length]; exact h
theorem strOf_bytes (l : List UInt8) : strOf (l.map fun b => b.toNat) = ⟨l.toArray⟩ := by
  apply bytes_ext
  simp [strOf, List.map_map, Function.comp_def]
/-- The bytes of some units, the last one ahead, as numbers. -/
def revB (s : ByteArray) (us : List Un) : List Nat := us.reverse.flatMap fun u => strB (s.extract u.at_ (u.at_ + u.size))
theorem revB_str (s : ByteArray) (us : List Un) : strOf (revB s us) = revP s us := by
  have : revB s us = (us.reverse.flatMap (pieceL s)).map fun b => b.toNat := by
    unfold revB
    rw [List.map_flatMap]
    congr 1
    funext u
    rw [strB, piece_ext]
  rw [this, strOf_bytes]; rfl
theorem revB_cons (s : ByteArray) (us : List Un) (u : Un) : revB s (u :: us) = revB s us ++ strB (s.extract u.at_ (u.at_ + u.size)) := by
  simp [revB]
theorem ru_get {us : List Un} {k : Nat} {u : Un} (hu : us[k]? = some u) : ((us.take k).map ruT ++ (us.drop k).map ruF)[k]? = some (ruF u) := by
  have hk := (List.getElem?_eq_some_iff.1 hu).1
  rw [List.getElem?_append_right (by simp; exact Nat.min_le_left _ _), List.length_map, List.length_take, Nat.min_eq_left (by omega), Nat.sub_self, List.getElem?_map, List.getElem?_drop, Nat.add_zero, hu]; rfl
theorem ru_step {us : List Un} {k : Nat} {u : Un} (hu : us[k]? = some u) {b : Bool} (hb : b = u.ok) :
    ((us.take k).map ruT ++ (us.drop k).map ruF).set k ⟨u.r, u.at_, u.size, b⟩ = (us.take (k + 1)).map ruT ++ (us.drop (k + 1)).map ruF := by
  obtain ⟨hk, he⟩ := List.getElem?_eq_some_iff.1 hu
  subst hb
  have e1 : us.take (k + 1) = us.take k ++ [u] := by rw [List.take_add_one, hu]; rfl
  have e2 : us.drop k = u :: us.drop (k + 1) := by rw [List.drop_eq_getElem_cons hk, he]
  rw [List.set_append_right _ _ (by simp; exact Nat.min_le_left _ _), List.length_map, List.length_take, Nat.min_eq_left (by omega), Nat.sub_self, e2, e1]
  simp [ruT]
theorem ru_ok_t {u : Un} (h : (ruF u).r ≠ 65533) : true = u.ok := by
  have h1 : u.r ≠ 65533 := h
  simp [Un.ok, h1]
theorem ru_ok_f {u : Un} (h : ¬ (ruF u).r ≠ 65533) : decide ((ruF u).size = 3) = u.ok := by
  have h1 : u.r = 65533 := Decidable.not_not.1 h
  show decide (u.size = 3) = _
  by_cases h2 : u.size = 3 <;> simp [Un.ok, h1, h2]
theorem ru_last {l : List RU} {done : List Un} {r a : Nat} (hl : l = done.map ruF ++ [⟨r, a, 0, false⟩]) : l[l.length - 1]? = some ⟨r, a, 0, false⟩ := by
  rw [hl]; simp
theorem ru_put {l : List RU} {done : List Un} {r a : Nat} (z : Nat) (hl : l = done.map ruF ++ [⟨r, a, 0, false⟩]) : l.set (l.length - 1) ⟨r, a, z, false⟩ = (done ++ [(⟨r, a, z⟩ : Un)]).map ruF := by
  rw [hl, List.length_append, List.length_map, List.length_singleton, Nat.add_sub_cancel, List.set_append_right _ _ (by simp), List.length_map, Nat.sub_self]
  simp [ruF]
/-- A result that lies in a cell. -/
theorem post1s {P : Program} {n : Nat} {L : Know} {w : World} {fn : Func} {Φ : Value → World → Prop} {t T b : Nat} {u : Value} (hr : fn.results = #[.cell t T]) (hv : look L t = some (.pointer (some ⟨b, 0, none⟩))) (hT : scalB P T = true)
    (hc : w.cell? ⟨b, 0, none⟩ = some u) (h : Φ u w) : PostK P n fn Φ L w := fun a ha => by
  have h1 := ha.slot t _ hv
  refine ⟨_, ?_, h⟩
  have hl : (loadVar T ⟨b, 0, none⟩).run P w = .ok u w := by
    unfold scalB at hT
    cases hun : P.underlying T with
    | none => simp [hun] at hT
    | some D => cases D <;> simp [hun] at hT <;> simp [loadVar, isAgg, run_underlying hun, hc, go_sem]
  simp [results, hr, Array.getD_eq_getD_getElem?, h1, asAddr, hl]
theorem Ev.strAdd {P : Program} {n : Nat} {L : Know} {w : World} {d : Option Nat} {ty : TypeId} {pos : String} {af : Array Edge} {g : Option (Nat × Bool)} {x y : Operand} {t T : TypeId} {a b : ByteArray}
    (hx : evK L x = some (.string a)) (hy : evK L y = some (.string b)) (h : a.size + b.size ≤ 9223372036854775807) : Ev P n L w ⟨d, .binOp .add t x y T, ty, pos, af, g⟩ (.string (a ++ b)) :=
  .bin hx hy (by rfl) fun w => by rw [binOp_string_add]; exact run_string_add_sum w a b h
end Go.Kw
