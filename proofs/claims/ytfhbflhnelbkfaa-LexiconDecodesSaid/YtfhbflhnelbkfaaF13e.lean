/- The walks of the functions of F13e, printed by our own program (kwgen.py) out of our descriptions (base.py). -/
import Derived.Test.YtfhbflhnelbkfaaF13c
import Derived.Test.YtfhbflhnelbkfaaF03L
import Derived.Test.YtfhbflhnelbkfaaKk
import Derived.Test.YtfhbflhnelbkfaaKg
import Derived.Test.YtfhbflhnelbkfaaTab
namespace Go.Proofs.Ytfhbflhnelbkfaa
open Go.RowKit Go.Kw
set_option maxRecDepth 100000
set_option linter.unusedVariables false
set_option linter.unusedSimpArgs false
def comL : List UInt8 → List UInt8 → Nat
  | x :: a, y :: b => if x = y then comL a b + 1 else 0
  | _, _ => 0
def comN (a b : ByteArray) : Nat := comL a.data.toList b.data.toList
theorem comL_le : ∀ (a b : List UInt8), comL a b ≤ b.length
  | x :: a, y :: b => by
    have := comL_le a b
    unfold comL
    split
    · simp; omega
    · omega
  | [], _ => by simp [comL]
  | _ :: _, [] => by simp [comL]
theorem comN_le (a b : ByteArray) : comN a b ≤ b.size := by have := comL_le a.data.toList b.data.toList; rw [bsz] at this; exact this
theorem com_go {a b : List UInt8} {k c : Nat} {x y : UInt8} (hx : a[k]? = some x) (hy : b[k]? = some y) (h : c = k + comL (a.drop k) (b.drop k)) (e : x.toNat = y.toNat) : c = k + 1 + comL (a.drop (k + 1)) (b.drop (k + 1)) := by
  have e2 : x = y := UInt8.toNat_inj.1 e
  rw [drop_at hx, drop_at hy, comL, if_pos e2] at h
  omega
theorem com_no {a b : List UInt8} {k c : Nat} {x y : UInt8} (hx : a[k]? = some x) (hy : b[k]? = some y) (h : c = k + comL (a.drop k) (b.drop k)) (e : ¬ x.toNat = y.toNat) : c = k := by
  rw [drop_at hx, drop_at hy, comL, if_neg fun e2 => e (by rw [e2])] at h
  exact h
theorem com_end1 {a b : List UInt8} {k c : Nat} (hk : a.length ≤ k) (h : c = k + comL (a.drop k) (b.drop k)) : c = k := by
  rw [List.drop_of_length_le hk] at h; simpa [comL] using h
theorem com_end2 {a b : List UInt8} {k c : Nat} (hk : b.length ≤ k) (h : c = k + comL (a.drop k) (b.drop k)) : c = k := by
  rw [List.drop_of_length_le hk] at h
  cases hd : a.drop k with
  | nil => rw [hd] at h; simpa [comL] using h
  | cons x r => rw [hd] at h; simpa [comL] using h
def prevN (W : List ByteArray) (k : Nat) : ByteArray := if k = 0 then ByteArray.mk #[] else W.getD (k - 1) ByteArray.empty
def enc1 (p x : ByteArray) (c : Nat) : List Nat := uv (comN p x) ++ uv (x.size - comN p x) ++ strB (x.extract (comN p x) x.size) ++ uv (c - 1)
def encA (W : List ByteArray) (C : List Nat) : Nat → List Nat
  | 0 => uv W.length
  | k + 1 => encA W C k ++ enc1 (prevN W k) (W.getD k ByteArray.empty) (C.getD k 0)
theorem enc1_length (p x : ByteArray) (c : Nat) : (enc1 p x c).length ≤ x.size + 30 := by
  have h1 := uv_le (comN p x); have h2 := uv_le (x.size - comN p x); have h3 := uv_le (c - 1)
  unfold enc1
  simp only [List.length_append, strB_length, ByteArray.size_extract]
  omega
theorem encA_lt (W : List ByteArray) (C : List Nat) : ∀ k, ∀ x ∈ encA W C k, x < 256
  | 0, x, h => uv_lt _ x h
  | k + 1, x, h => by
    simp only [encA, enc1, List.mem_append] at h
    rcases h with h | (((h | h) | h) | h)
    · exact encA_lt W C k x h
    · exact uv_lt _ x h
    · exact uv_lt _ x h
    · exact strB_lt _ x h
    · exact uv_lt _ x h
theorem encA_length {W : List ByteArray} (C : List Nat) (h : ∀ x ∈ W, x.size ≤ 120) : ∀ k, k ≤ W.length → (encA W C k).length ≤ 10 + k * 150
  | 0, _ => by have := uv_le W.length; simp only [encA]; omega
  | k + 1, hk => by
    have ih := encA_length C h k (by omega)
    have hx : W[k]? = some W[k] := List.getElem?_eq_getElem (by omega)
    have h1 := h _ (List.mem_of_getElem? hx)
    have h2 := enc1_length (prevN W k) (W.getD k ByteArray.empty) (C.getD k 0)
    rw [getD_of hx] at h2
    simp only [encA, List.length_append, getD_of hx]
    omega
theorem encA_step {W : List ByteArray} {C : List Nat} {k c : Nat} {p x : ByteArray} (hx : W[k]? = some x) (hc : C[k]? = some c) (hp : p = prevN W k) : encA W C k ++ uv (comN p x) ++ uv (x.size - comN p x) ++ strB (x.extract (comN p x) x.size) ++ uv (c - 1) = encA W C (k + 1) := by
  simp only [encA, enc1, getD_of hx, getD_of hc, ← hp, List.append_assoc]

theorem common_ok (a b : ByteArray) (w : World) (ha : a.size ≤ 1000000) :
    CallsV Try.prog 84 [(Value.string a), (Value.string b)] w fun r w' => r = .int .i64 ((comN a b : Nat) : Int) ∧ Sat w [] w' := by
  have hs0 := Sat.start w
  refine callsV_of Try.func84 rfl rfl ?_
  refine CW.seq ?_
  refine CW.region ?_
  refine RT.ev rfl rfl (Ev.assign rfl) ?_
  refine RT.nil ?_
  refine CW.seq ?_
  refine CW.region ?_
  refine RT.ev rfl rfl (Ev.assign rfl) ?_
  refine RT.nil ?_
  refine CW.seq ?_
  refine CW.block ?_
  refine CW.loop (α := Nat) (fun k => [(0, (Value.string a)), (1, (Value.string b)), (5, (Value.int .i64 ((k : Nat) : Int)))]) (fun k w' => Sat w [] w' ∧ (k ≤ a.size) ∧ (comN a b = k + comL (a.data.toList.drop k) (b.data.toList.drop k))) (fun k => a.size - k) 0 ⟨rfl, rfl, rfl, trivial⟩ ⟨hs0, Nat.zero_le _, by rw [List.drop_zero, List.drop_zero, Nat.zero_add]; rfl⟩ ?_
  rintro k w_1 ⟨hs_1, hk, hcom⟩
  show CW _ _ _ _ [(0, (Value.string a)), (1, (Value.string b)), (5, (Value.int .i64 ((k : Nat) : Int)))] _
  refine CW.seq ?_
  refine CW.seq ?_
  rcases (show ¬ k < a.size ∨ (k < a.size ∧ ¬ k < b.size) ∨ (k < a.size ∧ k < b.size) by omega) with hcw | hcw | hcw
  · refine CW.draw (fun w' => Sat w [] w') (.free 0 (.free 1 (.free 2 (.free 3 (.free 4 (.free 5 (.free 6 (.free 7 (.free 8 (.free 9 (.free 10 (.free 11 (.free 12 (.free 13 (.free 14 (.free 15 (.free 16 (.free 17 (.free 18 .fin))))))))))))))))))) mixed (by kernel_rfl) ?_
    have hs_2 := hs_1.drew
    refine RP.ev rfl rfl rfl (fun w' hS' => Ev.move rfl) hs_2 ?_
    refine RP.ev rfl rfl rfl (fun w' hS' => Ev.move rfl) hs_2 ?_
    refine RP.ev rfl rfl rfl (fun w' hS' => Ev.lenStr Try.underlying9 rfl) hs_2 ?_
    refine RP.ev rfl rfl rfl (fun w' hS' => Ev.lssN rfl rfl) hs_2 ?_
    refine RP.ev rfl rfl rfl (fun w' hS' => Ev.move rfl) hs_2 ?_
    refine RP.no rfl rfl rfl rfl (decide_eq_false hcw) rfl hs_2 ?_
    refine RP.no rfl rfl rfl rfl (decide_eq_false hcw) rfl hs_2 ?_
    refine RP.no rfl rfl rfl rfl (decide_eq_false hcw) rfl hs_2 ?_
    refine RP.no rfl rfl rfl rfl (decide_eq_false hcw) rfl hs_2 ?_
    refine RP.ev rfl rfl rfl (fun w' hS' => Ev.pickN rfl (decide_eq_false hcw) rfl) hs_2 ?_
    refine RP.ev rfl rfl rfl (fun w' hS' => Ev.move rfl) hs_2 ?_
    refine RP.no rfl rfl rfl rfl (rfl) rfl hs_2 ?_
    refine RP.no rfl rfl rfl rfl (rfl) rfl hs_2 ?_
    refine RP.no rfl rfl rfl rfl (rfl) rfl hs_2 ?_
    refine RP.no rfl rfl rfl rfl (rfl) rfl hs_2 ?_
    refine RP.no rfl rfl rfl rfl (rfl) rfl hs_2 ?_
    refine RP.no rfl rfl rfl rfl (rfl) rfl hs_2 ?_
    refine RP.no rfl rfl rfl rfl (rfl) rfl hs_2 ?_
    refine RP.ev rfl rfl rfl (fun w' hS' => Ev.pickN rfl (rfl) rfl) hs_2 ?_
    refine RP.fin ?_
    refine CW.condF rfl (rfl) ?_
    refine CW.exit0 ?_
    refine CW.seq ?_
    refine CW.region ?_
    refine RT.ev rfl rfl (Ev.move rfl) ?_
    refine RT.ev rfl rfl (Ev.assign rfl) ?_
    refine RT.nil ?_
    refine CW.ret ?_
    show PostK _ _ _ _ _ _
    refine post1 rfl rfl ?_
    have hq : comN a b = k := com_end1 (by rw [bsz]; omega) hcom
    rw [hq]
    exact ⟨rfl, hs_2⟩
  · refine CW.draw (fun w' => Sat w [] w') (.free 0 (.free 1 (.free 2 (.free 3 (.free 4 (.free 5 (.free 6 (.free 7 (.free 8 (.free 9 (.free 10 (.free 11 (.free 12 (.free 13 (.free 14 (.free 15 (.free 16 (.free 17 (.free 18 .fin))))))))))))))))))) mixed (by kernel_rfl) ?_
    have hs_3 := hs_1.drew
    refine RP.ev rfl rfl rfl (fun w' hS' => Ev.move rfl) hs_3 ?_
    refine RP.ev rfl rfl rfl (fun w' hS' => Ev.move rfl) hs_3 ?_
    refine RP.ev rfl rfl rfl (fun w' hS' => Ev.lenStr Try.underlying9 rfl) hs_3 ?_
    refine RP.ev rfl rfl rfl (fun w' hS' => Ev.lssN rfl rfl) hs_3 ?_
    refine RP.ev rfl rfl rfl (fun w' hS' => Ev.move rfl) hs_3 ?_
    refine RP.evYes rfl rfl rfl rfl (decide_eq_true hcw.1) rfl (fun w' hS' => Ev.move rfl) hs_3 ?_
    refine RP.evYes rfl rfl rfl rfl (decide_eq_true hcw.1) rfl (fun w' hS' => Ev.move rfl) hs_3 ?_
    refine RP.evYes rfl rfl rfl rfl (decide_eq_true hcw.1) rfl (fun w' hS' => Ev.lenStr Try.underlying9 rfl) hs_3 ?_
    refine RP.evYes rfl rfl rfl rfl (decide_eq_true hcw.1) rfl (fun w' hS' => Ev.lssN rfl rfl) hs_3 ?_
    refine RP.ev rfl rfl rfl (fun w' hS' => Ev.pickY rfl (decide_eq_true hcw.1) rfl) hs_3 ?_
    refine RP.ev rfl rfl rfl (fun w' hS' => Ev.move rfl) hs_3 ?_
    refine RP.no rfl rfl rfl rfl (decide_eq_false hcw.2) rfl hs_3 ?_
    refine RP.no rfl rfl rfl rfl (decide_eq_false hcw.2) rfl hs_3 ?_
    refine RP.no rfl rfl rfl rfl (decide_eq_false hcw.2) rfl hs_3 ?_
    refine RP.no rfl rfl rfl rfl (decide_eq_false hcw.2) rfl hs_3 ?_
    refine RP.no rfl rfl rfl rfl (decide_eq_false hcw.2) rfl hs_3 ?_
    refine RP.no rfl rfl rfl rfl (decide_eq_false hcw.2) rfl hs_3 ?_
    refine RP.no rfl rfl rfl rfl (decide_eq_false hcw.2) rfl hs_3 ?_
    refine RP.ev rfl rfl rfl (fun w' hS' => Ev.pickN rfl (decide_eq_false hcw.2) rfl) hs_3 ?_
    refine RP.fin ?_
    refine CW.condF rfl (rfl) ?_
    refine CW.exit0 ?_
    refine CW.seq ?_
    refine CW.region ?_
    refine RT.ev rfl rfl (Ev.move rfl) ?_
    refine RT.ev rfl rfl (Ev.assign rfl) ?_
    refine RT.nil ?_
    refine CW.ret ?_
    show PostK _ _ _ _ _ _
    refine post1 rfl rfl ?_
    have hq : comN a b = k := com_end2 (by rw [bsz]; omega) hcom
    rw [hq]
    exact ⟨rfl, hs_3⟩
  · obtain ⟨x, hx⟩ : ∃ x, a.data.toList[k]? = some x := ⟨_, List.getElem?_eq_getElem (by rw [bsz]; omega)⟩
    obtain ⟨y, hy⟩ : ∃ y, b.data.toList[k]? = some y := ⟨_, List.getElem?_eq_getElem (by rw [bsz]; omega)⟩
    refine CW.draw (fun w' => Sat w [] w') (.free 0 (.free 1 (.free 2 (.free 3 (.free 4 (.free 5 (.free 6 (.free 7 (.free 8 (.free 9 (.free 10 (.free 11 (.free 12 (.free 13 (.free 14 (.free 15 (.free 16 (.free 17 (.free 18 .fin))))))))))))))))))) mixed (by kernel_rfl) ?_
    have hs_4 := hs_1.drew
    refine RP.ev rfl rfl rfl (fun w' hS' => Ev.move rfl) hs_4 ?_
    refine RP.ev rfl rfl rfl (fun w' hS' => Ev.move rfl) hs_4 ?_
    refine RP.ev rfl rfl rfl (fun w' hS' => Ev.lenStr Try.underlying9 rfl) hs_4 ?_
    refine RP.ev rfl rfl rfl (fun w' hS' => Ev.lssN rfl rfl) hs_4 ?_
    refine RP.ev rfl rfl rfl (fun w' hS' => Ev.move rfl) hs_4 ?_
    refine RP.evYes rfl rfl rfl rfl (decide_eq_true hcw.1) rfl (fun w' hS' => Ev.move rfl) hs_4 ?_
    refine RP.evYes rfl rfl rfl rfl (decide_eq_true hcw.1) rfl (fun w' hS' => Ev.move rfl) hs_4 ?_
    refine RP.evYes rfl rfl rfl rfl (decide_eq_true hcw.1) rfl (fun w' hS' => Ev.lenStr Try.underlying9 rfl) hs_4 ?_
    refine RP.evYes rfl rfl rfl rfl (decide_eq_true hcw.1) rfl (fun w' hS' => Ev.lssN rfl rfl) hs_4 ?_
    refine RP.ev rfl rfl rfl (fun w' hS' => Ev.pickY rfl (decide_eq_true hcw.1) rfl) hs_4 ?_
    refine RP.ev rfl rfl rfl (fun w' hS' => Ev.move rfl) hs_4 ?_
    refine RP.evYes rfl rfl rfl rfl (decide_eq_true hcw.2) rfl (fun w' hS' => Ev.move rfl) hs_4 ?_
    refine RP.evYes rfl rfl rfl rfl (decide_eq_true hcw.2) rfl (fun w' hS' => Ev.move rfl) hs_4 ?_
    refine RP.evYes rfl rfl rfl rfl (decide_eq_true hcw.2) rfl (fun w' hS' => Ev.idxStr Try.underlying9 rfl rfl hx) hs_4 ?_
    refine RP.evYes rfl rfl rfl rfl (decide_eq_true hcw.2) rfl (fun w' hS' => Ev.move rfl) hs_4 ?_
    refine RP.evYes rfl rfl rfl rfl (decide_eq_true hcw.2) rfl (fun w' hS' => Ev.move rfl) hs_4 ?_
    refine RP.evYes rfl rfl rfl rfl (decide_eq_true hcw.2) rfl (fun w' hS' => Ev.idxStr Try.underlying9 rfl rfl hy) hs_4 ?_
    refine RP.evYes rfl rfl rfl rfl (decide_eq_true hcw.2) rfl (fun w' hS' => Ev.eqlN rfl rfl) hs_4 ?_
    refine RP.ev rfl rfl rfl (fun w' hS' => Ev.pickY rfl (decide_eq_true hcw.2) rfl) hs_4 ?_
    refine RP.fin ?_
    refine CW.condD rfl (fun hc_1 => ?_) (fun hc_1 => ?_)
    · refine CW.skip ?_
      refine CW.block ?_
      refine CW.region ?_
      refine RT.ev rfl rfl (Ev.move rfl) ?_
      refine RT.ev rfl rfl (Ev.addI (b := 1) rfl rfl (by omega)) ?_
      refine RT.ev rfl rfl (Ev.assign rfl) ?_
      refine RT.nil ?_
      exact ⟨k + 1, ⟨rfl, rfl, rfl, trivial⟩, ⟨hs_4, by omega, com_go hx hy hcom hc_1⟩, (show (a.size - (k + 1)) < (a.size - k) from by omega)⟩
    · refine CW.exit0 ?_
      refine CW.seq ?_
      refine CW.region ?_
      refine RT.ev rfl rfl (Ev.move rfl) ?_
      refine RT.ev rfl rfl (Ev.assign rfl) ?_
      refine RT.nil ?_
      refine CW.ret ?_
      show PostK _ _ _ _ _ _
      refine post1 rfl rfl ?_
      have hq : comN a b = k := com_no hx hy hcom hc_1
      rw [hq]
      exact ⟨rfl, hs_4⟩

theorem lexEnc_ok (g : Nat) (vw vc vo : Value) (W : List ByteArray) (C O : List Nat) (w : World) (h : LexAt w g vw vc vo W C O) (hCl : C.length = W.length) (hsz : ∀ x ∈ W, x.size ≤ 120) (hC : ∀ c ∈ C, 1 ≤ c ∧ c ≤ 1000000) (hn : W.length ≤ 10000) :
    CallsV Try.prog 50 [(Value.pointer (some ⟨g, 0, none⟩))] w fun r w' => Sat w [cL r 5 (encN .u8) (sealN (encA W C W.length))] w' := by
  have hs0 := Sat.start w
  refine callsV_of Try.func50 rfl rfl ?_
  refine CW.seq ?_
  refine CW.region ?_
  refine RT.ev rfl rfl (Ev.assign rfl) ?_
  refine RT.nil ?_
  refine CW.seq ?_
  refine CW.region ?_
  refine RT.ev rfl rfl (Ev.move rfl) ?_
  refine RT.ev rfl rfl (Ev.nilCheck rfl) ?_
  refine RT.ev rfl rfl (Ev.fieldAddr fld92_0 rfl rfl) ?_
  refine RT.ev rfl rfl (Ev.load scal45 rfl (hs0.ext _ _ h.c0)) ?_
  refine RT.ev rfl rfl (Ev.lenL Try.underlying45 rfl (h.hW.ext hs0.ext)) ?_
  refine RT.ev rfl rfl (Ev.convK (by rw [Try.underlying3]; rfl) Try.underlying108 rfl (wrap_u rfl (by (try simp only [IntKind.bits]); omega))) ?_
  refine RT.eff rfl rfl (OpE.call ent83 rfl ((put_ok (Value.slice none 0 0) ([]) (W.length) _ (RdL.nil _ _) (Nat.zero_le _) (by omega)).mono fun r_1 w_1 h_1 => ?_))
  have hp_1 := h_1
  have hs_1 : Sat w [cL r_1 5 (encN .u8) (uv (W.length))] _ := hs0.adds hp_1
  refine RT.ev rfl rfl (Ev.assign rfl) ?_
  refine RT.nil ?_
  refine CW.seq ?_
  refine CW.region ?_
  refine RT.ev rfl rfl (Ev.assign rfl) ?_
  refine RT.nil ?_
  refine CW.seq ?_
  refine CW.seq ?_
  have hs_2 : Sat w [cL r_1 5 (encN .u8) (encA W C 0)] w_1 := hs_1.reL 0 rfl (show uv (W.length) = encA W C 0 from rfl)
  refine CW.region ?_
  refine RT.ev rfl rfl (Ev.move rfl) ?_
  refine RT.ev rfl rfl (Ev.nilCheck rfl) ?_
  refine RT.ev rfl rfl (Ev.fieldAddr fld92_0 rfl rfl) ?_
  refine RT.ev rfl rfl (Ev.load scal45 rfl (hs_2.ext _ _ h.c0)) ?_
  refine RT.ev rfl rfl (Ev.lenL Try.underlying45 rfl (h.hW.ext hs_2.ext)) ?_
  refine RT.ev rfl rfl (Ev.move rfl) ?_
  refine RT.nil ?_
  refine CW.block ?_
  refine CW.loop (α := Nat × ByteArray × Value) (fun (k, p, v) => [(0, (Value.pointer (some ⟨g, 0, none⟩))), (3, v), (4, (Value.string p)), (18, vw), (19, (Value.int .i64 ((W.length : Nat) : Int))), (20, (Value.int .i64 ((k : Nat) : Int)))]) (fun (k, p, v) w' => Sat w [cL v 5 (encN .u8) (encA W C k)] w' ∧ (k ≤ W.length) ∧ (p = prevN W k) ∧ (p.size ≤ 120)) (fun (k, p, v) => W.length - k) (0, (ByteArray.mk #[]), r_1) ⟨rfl, rfl, rfl, rfl, rfl, rfl, trivial⟩ ⟨hs_2, Nat.zero_le _, rfl, Nat.zero_le _⟩ ?_
  rintro ⟨k, p, v⟩ w_2 ⟨hs_3, hk, hp, hpl⟩
  show CW _ _ _ _ [(0, (Value.pointer (some ⟨g, 0, none⟩))), (3, v), (4, (Value.string p)), (18, vw), (19, (Value.int .i64 ((W.length : Nat) : Int))), (20, (Value.int .i64 ((k : Nat) : Int)))] _
  refine CW.seq ?_
  refine CW.region ?_
  refine RT.ev rfl rfl (Ev.lssN rfl rfl) ?_
  refine RT.nil ?_
  refine CW.seq ?_
  refine CW.condD rfl (fun hc_1 => ?_) (fun hc_1 => ?_)
  · refine CW.skip ?_
    refine CW.seq ?_
    refine CW.block ?_
    refine CW.seq ?_
    obtain ⟨x, hx⟩ : ∃ x, (W)[k]? = some x := ⟨_, List.getElem?_eq_getElem hc_1⟩
    obtain ⟨c, hcc⟩ : ∃ c, C[k]? = some c := ⟨_, List.getElem?_eq_getElem (by omega)⟩
    have hxs := hsz x (List.mem_of_getElem? hx)
    have hcb := hC c (List.mem_of_getElem? hcc)
    have hcm := comN_le p x
    have hel := encA_length C hsz k (by omega)
    have hu1 := uv_le (comN p x)
    have hu2 := uv_le (x.size - comN p x)
    have hu3 := uv_le (c - 1)
    refine CW.region ?_
    refine RT.ev rfl rfl (Ev.move rfl) ?_
    refine RT.ev rfl rfl (Ev.idxL (E := encTx) sl45 rfl rfl (h.hW.ext hs_3.ext) (by omega)) ?_
    refine RT.ev rfl rfl (Ev.ldL (E := encTx) scal9 rfl (h.hW.ext hs_3.ext) hx (by decide) rfl) ?_
    refine RT.ev rfl rfl (Ev.assign rfl) ?_
    refine RT.ev rfl rfl (Ev.assign rfl) ?_
    refine RT.nil ?_
    refine CW.seq ?_
    refine CW.region ?_
    refine RT.ev rfl rfl (Ev.move rfl) ?_
    refine RT.ev rfl rfl (Ev.move rfl) ?_
    refine RT.eff rfl rfl (OpE.call ent84 rfl ((common_ok p x _ (by omega)).mono fun r_2 w_3 h_2 => ?_))
    obtain ⟨rfl, hp_2⟩ := h_2
    have hs_4 : Sat w [cL v 5 (encN .u8) (encA W C k)] _ := hs_3.adds hp_2
    refine RT.ev rfl rfl (Ev.assign rfl) ?_
    refine RT.nil ?_
    refine CW.seq ?_
    refine CW.region ?_
    refine RT.ev rfl rfl (Ev.move rfl) ?_
    refine RT.ev rfl rfl (Ev.move rfl) ?_
    refine RT.ev rfl rfl (Ev.convK (by rw [Try.underlying3]; rfl) Try.underlying108 rfl (wrap_u rfl (by (try simp only [IntKind.bits]); omega))) ?_
    refine RT.eff rfl rfl (OpE.call ent83 rfl ((put_ok v (encA W C k) ((comN p x)) _ (hs_4.rdL 0 rfl) (by (try simp only [List.length_append, strB_length, ByteArray.size_extract]); omega) (by omega)).mono fun r_3 w_4 h_3 => ?_))
    have hp_3 := h_3
    have hs_5 : Sat w [cL v 5 (encN .u8) (encA W C k), cL r_3 5 (encN .u8) (encA W C k ++ uv ((comN p x)))] _ := hs_4.adds hp_3
    refine RT.ev rfl rfl (Ev.assign rfl) ?_
    refine RT.nil ?_
    refine CW.seq ?_
    refine CW.region ?_
    refine RT.ev rfl rfl (Ev.move rfl) ?_
    refine RT.ev rfl rfl (Ev.move rfl) ?_
    refine RT.ev rfl rfl (Ev.lenStr Try.underlying9 rfl) ?_
    refine RT.ev rfl rfl (Ev.move rfl) ?_
    refine RT.ev rfl rfl (Ev.subI rfl rfl (by omega) (by omega)) ?_
    refine RT.ev rfl rfl (Ev.convK (by rw [Try.underlying3]; rfl) Try.underlying108 rfl (wrap_u rfl (by (try simp only [IntKind.bits]); omega))) ?_
    refine RT.eff rfl rfl (OpE.call ent83 rfl ((put_ok r_3 (encA W C k ++ uv ((comN p x))) ((x.size - (comN p x))) _ (hs_5.rdL 1 rfl) (by (try simp only [List.length_append, strB_length, ByteArray.size_extract]); omega) (by omega)).mono fun r_4 w_5 h_4 => ?_))
    have hp_4 := h_4
    have hs_6 : Sat w [cL v 5 (encN .u8) (encA W C k), cL r_3 5 (encN .u8) (encA W C k ++ uv ((comN p x))), cL r_4 5 (encN .u8) (encA W C k ++ uv ((comN p x)) ++ uv ((x.size - (comN p x))))] _ := hs_5.adds hp_4
    refine RT.ev rfl rfl (Ev.assign rfl) ?_
    refine RT.nil ?_
    refine CW.seq ?_
    refine CW.region ?_
    refine RT.ev rfl rfl (Ev.move rfl) ?_
    refine RT.ev rfl rfl (Ev.move rfl) ?_
    refine RT.ev rfl rfl (Ev.move rfl) ?_
    refine RT.ev rfl rfl (Ev.sliceStr (l := (comN p x)) (h := x.size) Try.underlying9 rfl ⟨_, rfl⟩ rfl (by omega) (by omega)) ?_
    refine RT.eff rfl rfl (OpE.appendSrc 2 sl40 hs_6 rfl rfl rfl (srcStr Try.underlying9 _) (by simp only [List.length_append, strB_length, ByteArray.size_extract]; omega) (by simp only [List.length_append, strB_length, ByteArray.size_extract]; omega) fun v_1 w_6 hs_7 hch_1 => ?_)
    have hs_7d : Sat w [cL v 5 (encN .u8) (encA W C k), cL r_3 5 (encN .u8) (encA W C k ++ uv ((comN p x))), cL v_1 5 (encN .u8) (encA W C k ++ uv ((comN p x)) ++ uv ((x.size - (comN p x))) ++ strB (x.extract (comN p x) x.size))] _ := hs_7
    refine RT.ev rfl rfl (Ev.assign rfl) ?_
    refine RT.nil ?_
    refine CW.seq ?_
    refine CW.region ?_
    refine RT.ev rfl rfl (Ev.move rfl) ?_
    refine RT.ev rfl rfl (Ev.move rfl) ?_
    refine RT.ev rfl rfl (Ev.nilCheck rfl) ?_
    refine RT.ev rfl rfl (Ev.fieldAddr fld92_1 rfl rfl) ?_
    refine RT.ev rfl rfl (Ev.load scal22 rfl (hs_7d.ext _ _ h.c1)) ?_
    refine RT.ev rfl rfl (Ev.move rfl) ?_
    refine RT.ev rfl rfl (Ev.idxL (E := encN .i64) sl22 rfl rfl (h.hC.ext hs_7d.ext) (by omega)) ?_
    refine RT.ev rfl rfl (Ev.ldL (E := encN .i64) scal3 rfl (h.hC.ext hs_7d.ext) hcc (by decide) rfl) ?_
    refine RT.ev rfl rfl (Ev.subI (b := 1) rfl rfl (by omega) (by omega)) ?_
    refine RT.ev rfl rfl (Ev.convK (by rw [Try.underlying3]; rfl) Try.underlying108 rfl (wrap_u rfl (by (try simp only [IntKind.bits]); omega))) ?_
    refine RT.eff rfl rfl (OpE.call ent83 rfl ((put_ok v_1 (encA W C k ++ uv ((comN p x)) ++ uv ((x.size - (comN p x))) ++ strB (x.extract (comN p x) x.size)) ((c - 1)) _ (hs_7d.rdL 2 rfl) (by (try simp only [List.length_append, strB_length, ByteArray.size_extract]); omega) (by omega)).mono fun r_5 w_7 h_5 => ?_))
    have hp_5 := h_5
    have hs_8 : Sat w [cL v 5 (encN .u8) (encA W C k), cL r_3 5 (encN .u8) (encA W C k ++ uv ((comN p x))), cL v_1 5 (encN .u8) (encA W C k ++ uv ((comN p x)) ++ uv ((x.size - (comN p x))) ++ strB (x.extract (comN p x) x.size)), cL r_5 5 (encN .u8) (encA W C k ++ uv ((comN p x)) ++ uv ((x.size - (comN p x))) ++ strB (x.extract (comN p x) x.size) ++ uv ((c - 1)))] _ := hs_7d.adds hp_5
    refine RT.ev rfl rfl (Ev.assign rfl) ?_
    refine RT.nil ?_
    refine CW.weaken [(0, _), (3, _), (4, _), (5, _), (6, _), (7, _), (18, _), (19, _), (20, _), (21, _)] ⟨rfl, rfl, rfl, rfl, rfl, rfl, rfl, rfl, rfl, rfl, trivial⟩ ?_
    refine CW.region ?_
    refine RT.ev rfl rfl (Ev.move rfl) ?_
    refine RT.ev rfl rfl (Ev.assign rfl) ?_
    refine RT.nil ?_
    refine CW.region ?_
    refine RT.ev rfl rfl (Ev.addI (b := 1) rfl rfl (by omega)) ?_
    refine RT.ev rfl rfl (Ev.move rfl) ?_
    refine RT.nil ?_
    have hs_9 : Sat w [cL v 5 (encN .u8) (encA W C k), cL r_3 5 (encN .u8) (encA W C k ++ uv ((comN p x))), cL v_1 5 (encN .u8) (encA W C k ++ uv ((comN p x)) ++ uv ((x.size - (comN p x))) ++ strB (x.extract (comN p x) x.size)), cL r_5 5 (encN .u8) (encA W C (k + 1))] w_7 := hs_8.reL 3 rfl (show encA W C k ++ uv ((comN p x)) ++ uv ((x.size - (comN p x))) ++ strB (x.extract (comN p x) x.size) ++ uv ((c - 1)) = encA W C (k + 1) from encA_step hx hcc hp)
    have hs_10 : Sat w [cL r_5 5 (encN .u8) (encA W C (k + 1))] w_7 := hs_9.sub ((.cons _ (.cons _ (.cons _ (.cons_cons _ .slnil)))))
    exact ⟨(k + 1, x, r_5), ⟨rfl, rfl, rfl, rfl, rfl, rfl, trivial⟩, ⟨hs_10, by omega, by unfold prevN; rw [if_neg (by omega), Nat.add_sub_cancel, getD_of hx], hxs⟩, (show (W.length - (k + 1)) < (W.length - k) from by omega)⟩
  · refine CW.exit0 ?_
    refine CW.seq ?_
    have hs_11 : Sat w [cL v 5 (encN .u8) (encA W C W.length)] w_2 := hs_3.reL 0 rfl (show encA W C k = encA W C W.length from by rw [show k = W.length by omega])
    have hel := encA_length C hsz W.length (Nat.le_refl _)
    refine CW.region ?_
    refine RT.ev rfl rfl (Ev.move rfl) ?_
    refine RT.eff rfl rfl (OpE.call ent62 rfl ((seal_ok _ (encA W C W.length) _ (hs_11.rdL 0 rfl) (encA_lt W C _) (by omega)).mono fun r_6 w_8 h_6 => ?_))
    have hp_6 := h_6
    have hs_12 : Sat w [cL v 5 (encN .u8) (encA W C W.length), cL r_6 5 (encN .u8) (sealN (encA W C W.length))] _ := hs_11.adds hp_6
    refine RT.ev rfl rfl (Ev.assign rfl) ?_
    refine RT.nil ?_
    refine CW.ret ?_
    show PostK _ _ _ _ _ _
    refine post1 rfl rfl ?_
    have hs_13 : Sat w [cL r_6 5 (encN .u8) (sealN (encA W C W.length))] w_8 := hs_12.sub ((.cons _ (.cons_cons _ .slnil)))
    exact hs_13

end Go.Proofs.Ytfhbflhnelbkfaa
