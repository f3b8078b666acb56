/-
  KT: strings: bytes made a string, comparisons, sources of appends. Our own text; it names no program.
-/
import Derived.Test.YtfhbflhnelbkfaaKr
import Derived.Laws.BytesString
import Derived.Laws.Strings
import Derived.Laws.Cover1
set_option linter.unusedSimpArgs false
set_option linter.unusedVariables false
set_option linter.unusedSectionVars false
namespace Go.Kw
open Go.RowKit
/-- The string of some bytes. -/
def strOf (l : List Nat) : ByteArray := ⟨(l.map fun n => UInt8.ofNat n).toArray⟩
theorem strOf_size (l : List Nat) : (strOf l).size = l.length := by simp [strOf, ByteArray.size]
theorem foldl_push (l : List Nat) : ∀ r : ByteArray, (l.map fun n => ((n : Nat) : Int)).foldl (fun r n => r.push (UInt8.ofNat n.toNat)) r = ⟨r.data ++ (l.map fun n => UInt8.ofNat n).toArray⟩ := by
  induction l with
  | nil => intro r; simp
  | cons b l ih => intro r; simp only [List.map_cons, List.foldl_cons]; rw [ih]; simp [ByteArray.push]
theorem strOf_inj {a b : List Nat} (ha : ∀ x ∈ a, x < 256) (hb : ∀ x ∈ b, x < 256) : strOf a = strOf b ↔ a = b := by
  refine ⟨fun h => ?_, fun h => by rw [h]⟩
  have h1 : a.map (fun n => UInt8.ofNat n) = b.map (fun n => UInt8.ofNat n) := by
    have := congrArg (fun s : ByteArray => s.data.toList) h
    simpa [strOf] using this
  have h2 := congrArg (List.map UInt8.toNat) h1
  rw [List.map_map, List.map_map] at h2
  have e : ∀ l : List Nat, (∀ x ∈ l, x < 256) → l.map (UInt8.toNat ∘ fun n => UInt8.ofNat n) = l := fun l hl => by
    conv => rhs; rw [← List.map_id l]
    refine List.map_congr_left fun x hx => ?_
    have := hl x hx
    simp [UInt8.toNat_ofNat, Nat.mod_eq_of_lt this]
  rwa [e a ha, e b hb] at h2
theorem bytes_all (l : List Nat) : (encN .u8).all l = (l.map fun n => ((n : Nat) : Int)).map (Value.int .u8) := by
  induction l with
  | nil => rfl
  | cons y r ih => rw [Enc.all_cons, List.map_cons, List.map_cons]; exact congrArg (Value.int .u8 ((y : Nat) : Int) :: ·) ih
theorem str_eq {a b : ByteArray} : (a.toList == b.toList) = decide (a = b) := by
  have h : a.toList = b.toList ↔ a = b := ⟨fun h => by
    rw [ByteArray.toList_eq, ByteArray.toList_eq] at h
    obtain ⟨⟨x⟩⟩ := a; obtain ⟨⟨y⟩⟩ := b
    simp at h; rw [h], fun h => by rw [h]⟩
  by_cases hab : a = b
  · subst hab; simp
  · rw [decide_eq_false hab]; simp; exact fun h' => hab (h.1 h')
section
variable {P : Program} {n : Nat} {L : Know} {w w0 : World} {cs : List Chunk} {K : Value → World → Prop} {d : Option Nat} {ty : TypeId} {pos : String} {af : Array Edge} {g : Option (Nat × Bool)}
/-- string(b) -/
theorem Ev.bytesStr {x : Operand} {s t e : TypeId} {v : Value} {l : List Nat} (hs : P.underlying s = some (.slice e)) (ht : P.underlying t = some .string) (he : P.underlying e = some (.int .u8)) (hx : evK L x = some v) (h : RdL w v (encN .u8) l) :
    Ev P n L w ⟨d, .convert s t x, ty, pos, af, g⟩ (.string (strOf l)) := .of fun ρ hρ => by
  obtain ⟨a, cap, rfl, hn, hc⟩ := h
  have hrun : (convert s t (.slice a l.length cap)).run P w = .ok (.string (strOf l)) w := by
    rw [run_convert_bytes_string w s t e a l.length cap hs he ht]
    have hall := bytes_all l
    cases a with
    | none =>
      have hl : l = [] := by
        cases l with
        | nil => rfl
        | cons y r => obtain ⟨b, o, ha, _⟩ := hc 0 (.int .u8 ((y : Nat) : Int)) (by rw [Enc.all_cons]; rfl); cases ha
      subst hl
      simp [Conv.bytesToString, Sem.run_pure]; rfl
    | some a =>
      have hlen : ((encN .u8).all l).length = l.length := by rw [(encN .u8).all_length]; exact Nat.mul_one _
      have hld := run_loadCells_list (P := P) w a ((encN .u8).all l) fun q u hu => by
        obtain ⟨b, o, hb, hw⟩ := hc q u hu
        cases hb; rw [Addr.add_lit]; exact hw
      rw [hlen, hall] at hld
      rw [run_bytesToString w a l.length cap _ hld, foldl_push]
      simp [strOf]
  simp only [execOp, hρ hx]
  simp [hrun]
theorem Ev.strEql {x y : Operand} {t T : TypeId} {a b : ByteArray} (hx : evK L x = some (.string a)) (hy : evK L y = some (.string b)) : Ev P n L w ⟨d, .binOp .eql t x y T, ty, pos, af, g⟩ (.bool (decide (a = b))) :=
  .bin hx hy (by rfl) fun w => by rw [binOp_string_eql, str_eq]; rfl
theorem Ev.strNeq {x y : Operand} {t T : TypeId} {a b : ByteArray} (hx : evK L x = some (.string a)) (hy : evK L y = some (.string b)) : Ev P n L w ⟨d, .binOp .neq t x y T, ty, pos, af, g⟩ (.bool (decide (a ≠ b))) :=
  .bin hx hy (by rfl) fun w => by rw [binOp_string_neq, str_eq, ← decide_not]; rfl
end
end Go.Kw
