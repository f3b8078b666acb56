/-
  M42c: how the text of a manifest grows. No program in sight.
-/
import Derived.Test.YtecfgjdpghddgaaGreatDoorM42
import Derived.Test.YtecfgjdpghddgaaGreatDoorM02
import Derived.Test.YtecfgjdpghddgaaGreatDoorKp
import Derived.Test.YtecfgjdpghddgaaGreatDoorKc
import Derived.Test.YtecfgjdpghddgaaGreatDoorM03c
set_option linter.unusedVariables false
set_option linter.unusedSimpArgs false
set_option linter.unusedSectionVars false
namespace Go.Kw
theorem lit_size (a : Array UInt8) : (ByteArray.mk a).size = a.size := rfl
def toN (l : List UInt8) : List Nat := l.map fun b => b.toNat
theorem toN_lt (l : List UInt8) : ∀ x ∈ toN l, x < 256 := strB_lt (bs l)
theorem toN_len (l : List UInt8) : (toN l).length = l.length := by unfold toN; simp
theorem strOf_toN (l : List UInt8) : strOf (toN l) = bs l := strOf_bytes l
def manT (al : List (ByteArray × Bool)) (nx jr : Int) (ps : List (Int × List ByteArray)) : ByteArray := strOf (sealN (toN (manL al nx jr ps)))
section
variable {al : List (ByteArray × Bool)} {nx jr : Int} {pl : List Pc} {k : Nat}
def atP (al : List (ByteArray × Bool)) (nx jr : Int) (k : Nat) : List UInt8 := hdrL nx jr ++ (al.take k).flatMap fun x => nl (atS x)
def pcP (al : List (ByteArray × Bool)) (nx jr : Int) (pl : List Pc) (k : Nat) : List UInt8 := hdrL nx jr ++ al.flatMap (fun x => nl (atS x)) ++ (pl.take k).flatMap fun p => nl (pcS (pcV p))
def nmP (f : Int) (ns : List ByteArray) (j : Nat) : List UInt8 := kPiec ++ 32 :: decN f.toNat ++ (ns.take j).flatMap fun n => 32 :: n.data.toList
theorem atP_zero : atP al nx jr 0 = hdrL nx jr := by unfold atP; simp
theorem take1 {α : Type} {l : List α} {k : Nat} {x : α} (h : l[k]? = some x) : l.take (k + 1) = l.take k ++ [x] := by rw [List.take_add_one, h]; rfl
theorem atP_step {x : ByteArray × Bool} (h : al[k]? = some x) : atP al nx jr (k + 1) = atP al nx jr k ++ nl (atS x) := by
  unfold atP; rw [take1 h, List.flatMap_append, ← List.append_assoc]; simp
theorem pcP_zero (h : al.length ≤ k) : atP al nx jr k = pcP al nx jr pl 0 := by unfold pcP atP; rw [List.take_of_length_le h]; simp
theorem pcP_step {p : Pc} (h : pl[k]? = some p) : pcP al nx jr pl (k + 1) = pcP al nx jr pl k ++ nl (pcS (pcV p)) := by
  unfold pcP; rw [take1 h, List.flatMap_append, ← List.append_assoc]; simp
theorem pcP_all (h : pl.length ≤ k) : pcP al nx jr pl k = manL al nx jr (pl.map pcV) := by unfold pcP manL; rw [List.take_of_length_le h, List.flatMap_map]
theorem nmP_zero {f : Int} {ns : List ByteArray} : nmP f ns 0 = kPiec ++ 32 :: decN f.toNat := by unfold nmP; simp
theorem nmP_step {f : Int} {ns : List ByteArray} {n : ByteArray} (h : ns[k]? = some n) : nmP f ns (k + 1) = nmP f ns k ++ (32 :: n.data.toList) := by
  unfold nmP; rw [take1 h, List.flatMap_append, ← List.append_assoc]; simp
theorem nmP_all {p : Pc} (h : p.ns.length ≤ k) : nmP p.f p.ns k = pcS (pcV p) := by
  unfold nmP pcS lineL pcV; rw [List.take_of_length_le h, List.flatMap_cons, List.flatMap_map]; simp
theorem man_pre_le (h : stOk al nx jr pl) : (hdrL nx jr ++ al.flatMap fun x => nl (atS x)).length ≤ 405 := by
  have h1 := ats_len h
  have h3 := hdrL_len h.2.1 (show jr ≤ 1000000000 by have := h.2.1; have := h.2.2.2.1; omega)
  rw [List.length_append]; omega
theorem atP_len (h : stOk al nx jr pl) : (atP al nx jr k).length ≤ 405 := by
  have h1 := man_pre_le h
  have h2 := take_flatMap_le (f := fun x => nl (atS x)) (l := al) k
  unfold atP; rw [List.length_append] at h1 ⊢; omega
theorem pcP_len (h : stOk al nx jr pl) : (pcP al nx jr pl k).length ≤ 34485 := by
  have h1 := man_pre_le h; have h4 := pcs_len h
  have h2 := take_flatMap_le (f := fun p => nl (pcS (pcV p))) (l := pl) k
  unfold pcP; rw [List.length_append]; omega
theorem nmP_len {p : Pc} (h1 : p.f ≤ 1000000000) (h2 : delOk p.ns) : (nmP p.f p.ns k).length ≤ 2130 := by
  have h3 := pcS_len (p := pcV p) h1 h2.names h2.2
  have h4 := take_flatMap_le (f := fun n : ByteArray => 32 :: n.data.toList) (l := p.ns) k
  have h5 : (nmP p.f p.ns p.ns.length).length = (pcS (pcV p)).length := by rw [nmP_all (Nat.le_refl _)]
  unfold nmP at h5 ⊢
  unfold nl at h3
  rw [List.take_of_length_le (Nat.le_refl _)] at h5
  rw [List.length_append] at h3 h5 ⊢
  omega
theorem hdr_txt : bs [99, 111, 114, 112, 111, 114, 97, 32, 49, 10, 110, 101, 120, 116, 32] ++ decS nx.toNat ++ bs [10, 106, 111, 117, 114, 110, 97, 108, 32] ++ decS jr.toNat ++ bs [10] = bs (atP al nx jr 0) := ba_ext (by
  rw [atP_zero]
  unfold hdrL hdrS decS
  simp only [app_data, bs_data, List.flatMap_cons, List.flatMap_nil, nl, lineL, kCorp, kNext, kJour, List.append_nil, List.append_assoc, List.cons_append, List.nil_append])
theorem at_txt {out : ByteArray} {x : ByteArray × Bool} {b : Bool} (ho : out = bs (atP al nx jr k)) (hx : al[k]? = some x) (hb : x.2 = b) {q : ByteArray} (hq : q = bs (32 :: setL b ++ [10])) : out ++ (bs [97, 116, 116, 114, 105, 98, 117, 116, 101, 32] ++ x.1) ++ q = bs (atP al nx jr (k + 1)) := ba_ext (by
  subst ho hq
  rw [atP_step hx]
  simp only [app_data, bs_data, nl, atS, lineL, kAttr, List.flatMap_cons, List.flatMap_nil, List.append_nil, List.append_assoc, List.cons_append, List.nil_append, hb])
theorem nm_txt0 {out : ByteArray} {f : Int} {ns : List ByteArray} {l : List UInt8} (ho : out = bs l) : out ++ (bs [112, 105, 101, 99, 101, 32] ++ decS f.toNat) = bs (l ++ nmP f ns 0) := ba_ext (by
  subst ho
  rw [nmP_zero]; unfold decS
  simp only [app_data, bs_data, kPiec, List.append_assoc, List.cons_append, List.nil_append])
theorem nm_txt {out : ByteArray} {f : Int} {ns : List ByteArray} {l : List UInt8} {n : ByteArray} (ho : out = bs (l ++ nmP f ns k)) (hn : ns[k]? = some n) : out ++ (bs [32] ++ n) = bs (l ++ nmP f ns (k + 1)) := ba_ext (by
  subst ho
  rw [nmP_step hn]
  simp only [app_data, bs_data, List.append_assoc, List.cons_append, List.nil_append])
theorem pc_txt {out : ByteArray} {p : Pc} {j : Nat} (ho : out = bs (pcP al nx jr pl k ++ nmP p.f p.ns j)) (hp : pl[k]? = some p) (hj : p.ns.length ≤ j) : out ++ bs [10] = bs (pcP al nx jr pl (k + 1)) := ba_ext (by
  subst ho
  rw [pcP_step hp, nmP_all hj]
  simp only [app_data, bs_data, nl, List.append_assoc])
theorem hdr_l : nl (lineL kCorp [[49]]) ++ nl (lineL kNext [decN nx.toNat]) ++ nl (lineL (ByteArray.mk #[106, 111, 117, 114, 110, 97, 108]).data.toList ([decS jr.toNat].map fun n => n.data.toList)) = atP al nx jr 0 := by
  rw [atP_zero]; unfold hdrL hdrS
  simp only [List.flatMap_cons, List.flatMap_nil, List.append_nil, List.append_assoc]; rfl
theorem at_l {x : ByteArray × Bool} {b : ByteArray} (hx : al[k]? = some x) (hb : b = bs (setL x.2)) : atP al nx jr k ++ nl (lineL (ByteArray.mk #[97, 116, 116, 114, 105, 98, 117, 116, 101]).data.toList ([x.1, b].map fun n => n.data.toList)) = atP al nx jr (k + 1) := by
  subst hb; rw [atP_step hx]; rfl
theorem pc_l {p : Pc} (hp : pl[k]? = some p) : pcP al nx jr pl k ++ nl (lineL (ByteArray.mk #[112, 105, 101, 99, 101]).data.toList ((decS p.f.toNat :: p.ns).map fun n => n.data.toList)) = pcP al nx jr pl (k + 1) := by
  rw [pcP_step hp]; rfl
end
end Go.Kw
