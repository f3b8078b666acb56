/- The walks of the functions of F13e, printed by our own program (kwgen.py) out of our descriptions (base.py). -/
import Derived.Test.YtecfgjdpghddgaaGreatF01
import Derived.Test.YtecfgjdpghddgaaGreatF16
import Derived.Test.YtecfgjdpghddgaaGreatKk
import Derived.Test.YtecfgjdpghddgaaGreatTab
set_option linter.unusedVariables false
set_option linter.unusedSimpArgs false
set_option linter.unusedSectionVars false
namespace Go.Proofs.YtecfgjdpghddgaaGreat
open Go.RowKit Go.Kw
set_option maxRecDepth 100000
def comL : List UInt8 → List UInt8 → Nat
  | x :: a, y :: b => if x = y then comL a b + 1 else 0
  | _, _ => 0
def comN (a b : ByteArray) : Nat := comL a.data.toList b.data.toList
theorem comL_le : ∀ (a b : List UInt8), comL a b ≤ b.length
  | x :: a, y :: b => by
    have := comL_le a b
    unfold comL
    split
    · simp; omega
    · omega
  | [], _ => by simp [comL]
  | _ :: _, [] => by simp [comL]
theorem comN_le (a b : ByteArray) : comN a b ≤ b.size := by have := comL_le a.data.toList b.data.toList; rw [bsz] at this; exact this
theorem com_go {a b : List UInt8} {k c : Nat} {x y : UInt8} (hx : a[k]? = some x) (hy : b[k]? = some y) (h : c = k + comL (a.drop k) (b.drop k)) (e : x.toNat = y.toNat) : c = k + 1 + comL (a.drop (k + 1)) (b.drop (k + 1)) := by
  have e2 : x = y := UInt8.toNat_inj.1 e
  rw [drop_at hx, drop_at hy, comL, if_pos e2] at h
  omega
theorem com_no {a b : List UInt8} {k c : Nat} {x y : UInt8} (hx : a[k]? = some x) (hy : b[k]? = some y) (h : c = k + comL (a.drop k) (b.drop k)) (e : ¬ x.toNat = y.toNat) : c = k := by
  rw [drop_at hx, drop_at hy, comL, if_neg fun e2 => e (by rw [e2])] at h
  exact h
theorem com_end1 {a b : List UInt8} {k c : Nat} (hk : a.length ≤ k) (h : c = k + comL (a.drop k) (b.drop k)) : c = k := by
  rw [List.drop_of_length_le hk] at h; simpa [comL] using h
theorem com_end2 {a b : List UInt8} {k c : Nat} (hk : b.length ≤ k) (h : c = k + comL (a.drop k) (b.drop k)) : c = k := by
  rw [List.drop_of_length_le hk] at h
  cases hd : a.drop k with
  | nil => rw [hd] at h; simpa [comL] using h
  | cons x r => rw [hd] at h; simpa [comL] using h
def prevN (W : List ByteArray) (k : Nat) : ByteArray := if k = 0 then ByteArray.mk #[] else W.getD (k - 1) ByteArray.empty
def enc1 (p x : ByteArray) (c : Nat) : List Nat := uv (comN p x) ++ uv (x.size - comN p x) ++ strB (x.extract (comN p x) x.size) ++ uv (c - 1)
def encA (W : List ByteArray) (C : List Nat) : Nat → List Nat
  | 0 => uv W.length
  | k + 1 => encA W C k ++ enc1 (prevN W k) (W.getD k ByteArray.empty) (C.getD k 0)
theorem enc1_length (p x : ByteArray) (c : Nat) : (enc1 p x c).length ≤ x.size + 30 := by
  have h1 := uv_le (comN p x); have h2 := uv_le (x.size - comN p x); have h3 := uv_le (c - 1)
  unfold enc1
  simp only [List.length_append, strB_length, ByteArray.size_extract]
  omega
theorem encA_lt (W : List ByteArray) (C : List Nat) : ∀ k, ∀ x ∈ encA W C k, x < 256
  | 0, x, h => uv_lt _ x h
  | k + 1, x, h => by
    simp only [encA, enc1, List.mem_append] at h
    rcases h with h | (((h | h) | h) | h)
    · exact encA_lt W C k x h
    · exact uv_lt _ x h
    · exact uv_lt _ x h
    · exact strB_lt _ x h
    · exact uv_lt _ x h
theorem encA_length {W : List ByteArray} (C : List Nat) (h : ∀ x ∈ W, x.size ≤ 120) : ∀ k, k ≤ W.length → (encA W C k).length ≤ 10 + k * 150
  | 0, _ => by have := uv_le W.length; simp only [encA]; omega
  | k + 1, hk => by
    have ih := encA_length C h k (by omega)
    have hx : W[k]? = some W[k] := List.getElem?_eq_getElem (by omega)
    have h1 := h _ (List.mem_of_getElem? hx)
    have h2 := enc1_length (prevN W k) (W.getD k ByteArray.empty) (C.getD k 0)
    rw [getD_of hx] at h2
    simp only [encA, List.length_append, getD_of hx]
    omega
theorem encA_step {W : List ByteArray} {C : List Nat} {k c : Nat} {p x : ByteArray} (hx : W[k]? = some x) (hc : C[k]? = some c) (hp : p = prevN W k) : encA W C k ++ uv (comN p x) ++ uv (x.size - comN p x) ++ strB (x.extract (comN p x) x.size) ++ uv (c - 1) = encA W C (k + 1) := by
  simp only [encA, enc1, getD_of hx, getD_of hc, ← hp, List.append_assoc]
theorem common_ok (a b : ByteArray) (w : World) (ha : a.size ≤ 1000000) :
    CallsV Tryz.prog 40 [(.string a), (.string b)] w fun r w' => r = .int .i64 ((comN a b : Nat) : Int) ∧ Sat w [] w' := by
  have hs0 := Sat.start w
  refine callsV_of Tryz.func40 rfl rfl ?_
  refine .seq <| .region <| .s rfl rfl <| .nil <| .seq <| .region <| .s rfl rfl <| .nil <| .seq <| .block <| .loop (α := Nat) (fun k => [(0, (.string a)), (1, (.string b)), (5, (.int .i64 k))]) (fun k w' => Sat w [] w' ∧ (k ≤ a.size) ∧ (comN a b = k + comL (a.data.toList.drop k) (b.data.toList.drop k))) (fun k => a.size - k) 0 ⟨rfl, rfl, rfl, trivial⟩ ⟨hs0, Nat.zero_le _, by rw [List.drop_zero, List.drop_zero, Nat.zero_add]; rfl⟩ ?_
  rintro k w_1 ⟨hs_1, hk, hcom⟩
  show CW _ _ _ _ [(0, (.string a)), (1, (.string b)), (5, (.int .i64 k))] _
  refine .seq <| .seq ?_
  rcases (show ¬ k < a.size ∨ (k < a.size ∧ ¬ k < b.size) ∨ (k < a.size ∧ k < b.size) by omega) with hcw | hcw | hcw
  · refine .draw (fun w' => Sat w [] w') (.free 0 (.free 1 (.free 2 (.free 3 (.free 4 (.free 5 (.free 6 (.free 7 (.free 8 (.free 9 (.free 10 (.free 11 (.free 12 (.free 13 (.free 14 (.free 15 (.free 16 (.free 17 (.free 18 .fin))))))))))))))))))) mixed (by kernel_rfl) ?_
    have hs_2 := hs_1.drew
    refine .m rfl rfl hs_2 <| .m rfl rfl hs_2 <| .e rfl (fun w' hS' => .lenStr Tryz.underlying9 rfl) hs_2 <| .e rfl (fun w' hS' => .lssN rfl rfl) hs_2 <| .m rfl rfl hs_2 <| .no rfl rfl rfl rfl (decide_eq_false hcw) rfl hs_2 <| .no rfl rfl rfl rfl (decide_eq_false hcw) rfl hs_2 <| .no rfl rfl rfl rfl (decide_eq_false hcw) rfl hs_2 <| .no rfl rfl rfl rfl (decide_eq_false hcw) rfl hs_2 <| .e rfl (fun w' hS' => .pickN rfl (decide_eq_false hcw) rfl) hs_2 <| .m rfl rfl hs_2 <| .no rfl rfl rfl rfl (rfl) rfl hs_2 <| .no rfl rfl rfl rfl (rfl) rfl hs_2 <| .no rfl rfl rfl rfl (rfl) rfl hs_2 <| .no rfl rfl rfl rfl (rfl) rfl hs_2 <| .no rfl rfl rfl rfl (rfl) rfl hs_2 <| .no rfl rfl rfl rfl (rfl) rfl hs_2 <| .no rfl rfl rfl rfl (rfl) rfl hs_2 <| .e rfl (fun w' hS' => .pickN rfl (rfl) rfl) hs_2 <| .fin <| .condF rfl (rfl) <| .exit0 <| .seq <| .region <| .m rfl rfl <| .s rfl rfl <| .nil <| .ret ?_
    show PostK _ _ _ _ _ _
    refine post1 rfl rfl ?_
    have hq : comN a b = k := com_end1 (by rw [bsz]; omega) hcom
    rw [hq]
    exact ⟨rfl, hs_2⟩
  · refine .draw (fun w' => Sat w [] w') (.free 0 (.free 1 (.free 2 (.free 3 (.free 4 (.free 5 (.free 6 (.free 7 (.free 8 (.free 9 (.free 10 (.free 11 (.free 12 (.free 13 (.free 14 (.free 15 (.free 16 (.free 17 (.free 18 .fin))))))))))))))))))) mixed (by kernel_rfl) ?_
    have hs_3 := hs_1.drew
    refine .m rfl rfl hs_3 <| .m rfl rfl hs_3 <| .e rfl (fun w' hS' => .lenStr Tryz.underlying9 rfl) hs_3 <| .e rfl (fun w' hS' => .lssN rfl rfl) hs_3 <| .m rfl rfl hs_3 <| .evYes rfl rfl rfl rfl (decide_eq_true hcw.1) rfl (fun w' hS' => .move rfl) hs_3 <| .evYes rfl rfl rfl rfl (decide_eq_true hcw.1) rfl (fun w' hS' => .move rfl) hs_3 <| .evYes rfl rfl rfl rfl (decide_eq_true hcw.1) rfl (fun w' hS' => .lenStr Tryz.underlying9 rfl) hs_3 <| .evYes rfl rfl rfl rfl (decide_eq_true hcw.1) rfl (fun w' hS' => .lssN rfl rfl) hs_3 <| .e rfl (fun w' hS' => .pickY rfl (decide_eq_true hcw.1) rfl) hs_3 <| .m rfl rfl hs_3 <| .no rfl rfl rfl rfl (decide_eq_false hcw.2) rfl hs_3 <| .no rfl rfl rfl rfl (decide_eq_false hcw.2) rfl hs_3 <| .no rfl rfl rfl rfl (decide_eq_false hcw.2) rfl hs_3 <| .no rfl rfl rfl rfl (decide_eq_false hcw.2) rfl hs_3 <| .no rfl rfl rfl rfl (decide_eq_false hcw.2) rfl hs_3 <| .no rfl rfl rfl rfl (decide_eq_false hcw.2) rfl hs_3 <| .no rfl rfl rfl rfl (decide_eq_false hcw.2) rfl hs_3 <| .e rfl (fun w' hS' => .pickN rfl (decide_eq_false hcw.2) rfl) hs_3 <| .fin <| .condF rfl (rfl) <| .exit0 <| .seq <| .region <| .m rfl rfl <| .s rfl rfl <| .nil <| .ret ?_
    show PostK _ _ _ _ _ _
    refine post1 rfl rfl ?_
    have hq : comN a b = k := com_end2 (by rw [bsz]; omega) hcom
    rw [hq]
    exact ⟨rfl, hs_3⟩
  · obtain ⟨x, hx⟩ : ∃ x, a.data.toList[k]? = some x := ⟨_, List.getElem?_eq_getElem (by rw [bsz]; omega)⟩
    obtain ⟨y, hy⟩ : ∃ y, b.data.toList[k]? = some y := ⟨_, List.getElem?_eq_getElem (by rw [bsz]; omega)⟩
    refine .draw (fun w' => Sat w [] w') (.free 0 (.free 1 (.free 2 (.free 3 (.free 4 (.free 5 (.free 6 (.free 7 (.free 8 (.free 9 (.free 10 (.free 11 (.free 12 (.free 13 (.free 14 (.free 15 (.free 16 (.free 17 (.free 18 .fin))))))))))))))))))) mixed (by kernel_rfl) ?_
    have hs_4 := hs_1.drew
    refine .m rfl rfl hs_4 <| .m rfl rfl hs_4 <| .e rfl (fun w' hS' => .lenStr Tryz.underlying9 rfl) hs_4 <| .e rfl (fun w' hS' => .lssN rfl rfl) hs_4 <| .m rfl rfl hs_4 <| .evYes rfl rfl rfl rfl (decide_eq_true hcw.1) rfl (fun w' hS' => .move rfl) hs_4 <| .evYes rfl rfl rfl rfl (decide_eq_true hcw.1) rfl (fun w' hS' => .move rfl) hs_4 <| .evYes rfl rfl rfl rfl (decide_eq_true hcw.1) rfl (fun w' hS' => .lenStr Tryz.underlying9 rfl) hs_4 <| .evYes rfl rfl rfl rfl (decide_eq_true hcw.1) rfl (fun w' hS' => .lssN rfl rfl) hs_4 <| .e rfl (fun w' hS' => .pickY rfl (decide_eq_true hcw.1) rfl) hs_4 <| .m rfl rfl hs_4 <| .evYes rfl rfl rfl rfl (decide_eq_true hcw.2) rfl (fun w' hS' => .move rfl) hs_4 <| .evYes rfl rfl rfl rfl (decide_eq_true hcw.2) rfl (fun w' hS' => .move rfl) hs_4 <| .evYes rfl rfl rfl rfl (decide_eq_true hcw.2) rfl (fun w' hS' => .idxStr Tryz.underlying9 rfl rfl hx) hs_4 <| .evYes rfl rfl rfl rfl (decide_eq_true hcw.2) rfl (fun w' hS' => .move rfl) hs_4 <| .evYes rfl rfl rfl rfl (decide_eq_true hcw.2) rfl (fun w' hS' => .move rfl) hs_4 <| .evYes rfl rfl rfl rfl (decide_eq_true hcw.2) rfl (fun w' hS' => .idxStr Tryz.underlying9 rfl rfl hy) hs_4 <| .evYes rfl rfl rfl rfl (decide_eq_true hcw.2) rfl (fun w' hS' => .eqlN rfl rfl) hs_4 <| .e rfl (fun w' hS' => .pickY rfl (decide_eq_true hcw.2) rfl) hs_4 <| .fin <| .condD rfl (fun hc_1 => ?_) (fun hc_1 => ?_)
    · refine .skip <| .block <| .region <| .m rfl rfl <| .e rfl (.addI (b := 1) rfl rfl (by omega)) <| .s rfl rfl <| .nil ?_
      exact ⟨k + 1, ⟨rfl, rfl, rfl, trivial⟩, ⟨hs_4, by omega, com_go hx hy hcom hc_1⟩, (show (a.size - (k + 1)) < (a.size - k) from by omega)⟩
    · refine .exit0 <| .seq <| .region <| .m rfl rfl <| .s rfl rfl <| .nil <| .ret ?_
      show PostK _ _ _ _ _ _
      refine post1 rfl rfl ?_
      have hq : comN a b = k := com_no hx hy hcom hc_1
      rw [hq]
      exact ⟨rfl, hs_4⟩
theorem lexEnc_ok (g : Nat) (vw vc vo : Value) (W : List ByteArray) (C O : List Nat) (w : World) (h : LexAt w g vw vc vo W C O) (hCl : C.length = W.length) (hsz : ∀ x ∈ W, x.size ≤ 120) (hC : ∀ c ∈ C, 1 ≤ c ∧ c ≤ 1000000) (hn : W.length ≤ 10000) :
    CallsV Tryz.prog 15 [(.pointer (some ⟨g, 0, none⟩))] w fun r w' => Sat w [cL r 5 (encN .u8) (sealN (encA W C W.length))] w' := by
  have hs0 := Sat.start w
  refine callsV_of Tryz.func15 rfl rfl ?_
  refine .seq <| .region <| .s rfl rfl <| .nil <| .seq <| .region <| .m rfl rfl <| .e rfl (.nilCheck rfl) <| .e rfl (.fieldAddr fld71_0 rfl rfl) <| .e rfl (.load scal36 rfl (hs0.ext _ _ h.c0)) <| .e rfl (.lenL Tryz.underlying36 rfl (h.hW.ext hs0.ext)) <| .e rfl (.convK (by rw [Tryz.underlying3]; rfl) Tryz.underlying56 rfl (wrap_u rfl (by (try simp only [IntKind.bits]); omega))) <| .f rfl (.call ent39 rfl ((put_ok (Value.slice none 0 0) ([]) (W.length) _ (RdL.nil _ _) (Nat.zero_le _) (by omega)).mono fun r_1 w_1 h_1 => ?_))
  have hp_1 := h_1
  have hs_1 := hs0.adds hp_1
  refine .s rfl rfl <| .nil <| .seq <| .region <| .s rfl rfl <| .nil <| .seq <| .seq ?_
  have hs_2 : Sat w [cL r_1 5 (encN .u8) (encA W C 0)] w_1 := hs_1.reL 0 rfl (show uv (W.length) = encA W C 0 from rfl)
  refine .region <| .m rfl rfl <| .e rfl (.nilCheck rfl) <| .e rfl (.fieldAddr fld71_0 rfl rfl) <| .e rfl (.load scal36 rfl (hs_2.ext _ _ h.c0)) <| .e rfl (.lenL Tryz.underlying36 rfl (h.hW.ext hs_2.ext)) <| .m rfl rfl <| .nil <| .block <| .loop (α := Nat × ByteArray × Value) (fun (k, p, v) => [(0, (.pointer (some ⟨g, 0, none⟩))), (3, v), (4, (.string p)), (18, vw), (19, (.int .i64 W.length)), (20, (.int .i64 k))]) (fun (k, p, v) w' => Sat w [cL v 5 (encN .u8) (encA W C k)] w' ∧ (k ≤ W.length) ∧ (p = prevN W k) ∧ (p.size ≤ 120)) (fun (k, p, v) => W.length - k) (0, (ByteArray.mk #[]), r_1) ⟨rfl, rfl, rfl, rfl, rfl, rfl, trivial⟩ ⟨hs_2, Nat.zero_le _, rfl, Nat.zero_le _⟩ ?_
  rintro ⟨k, p, v⟩ w_2 ⟨hs_3, hk, hp, hpl⟩
  show CW _ _ _ _ [(0, (.pointer (some ⟨g, 0, none⟩))), (3, v), (4, (.string p)), (18, vw), (19, (.int .i64 W.length)), (20, (.int .i64 k))] _
  refine .seq <| .region <| .e rfl (.lssN rfl rfl) <| .nil <| .seq <| .condD rfl (fun hc_1 => ?_) (fun hc_1 => ?_)
  · refine .skip <| .seq <| .block <| .seq ?_
    obtain ⟨x, hx⟩ : ∃ x, (W)[k]? = some x := ⟨_, List.getElem?_eq_getElem hc_1⟩
    obtain ⟨c, hcc⟩ : ∃ c, C[k]? = some c := ⟨_, List.getElem?_eq_getElem (by omega)⟩
    have hxs := hsz x (List.mem_of_getElem? hx)
    have hcb := hC c (List.mem_of_getElem? hcc)
    have hcm := comN_le p x
    have hel := encA_length C hsz k (by omega)
    have hu1 := uv_le (comN p x)
    have hu2 := uv_le (x.size - comN p x)
    have hu3 := uv_le (c - 1)
    refine .region <| .m rfl rfl <| .e rfl (.idxL (E := encTx) sl36 rfl rfl (h.hW.ext hs_3.ext) (by omega)) <| .e rfl (.ldL (E := encTx) scal9 rfl (h.hW.ext hs_3.ext) hx (by decide) rfl) <| .s rfl rfl <| .s rfl rfl <| .nil <| .seq <| .region <| .m rfl rfl <| .m rfl rfl <| .f rfl (.call ent40 rfl ((common_ok p x _ (by omega)).mono fun r_2 w_3 h_2 => ?_))
    obtain ⟨rfl, hp_2⟩ := h_2
    have hs_4 := hs_3.adds hp_2
    refine .s rfl rfl <| .nil <| .seq <| .region <| .m rfl rfl <| .m rfl rfl <| .e rfl (.convK (by rw [Tryz.underlying3]; rfl) Tryz.underlying56 rfl (wrap_u rfl (by (try simp only [IntKind.bits]); omega))) <| .f rfl (.call ent39 rfl ((put_ok v (encA W C k) ((comN p x)) _ (hs_4.rdL 0 rfl) (by (try simp only [List.length_append, strB_length, ByteArray.size_extract]); omega) (by omega)).mono fun r_3 w_4 h_3 => ?_))
    have hp_3 := h_3
    have hs_5 := hs_4.adds hp_3
    refine .s rfl rfl <| .nil <| .seq <| .region <| .m rfl rfl <| .m rfl rfl <| .e rfl (.lenStr Tryz.underlying9 rfl) <| .m rfl rfl <| .e rfl (.subI rfl rfl (by omega) (by omega)) <| .e rfl (.convK (by rw [Tryz.underlying3]; rfl) Tryz.underlying56 rfl (wrap_u rfl (by (try simp only [IntKind.bits]); omega))) <| .f rfl (.call ent39 rfl ((put_ok r_3 (encA W C k ++ uv ((comN p x))) ((x.size - (comN p x))) _ (hs_5.rdL 1 rfl) (by (try simp only [List.length_append, strB_length, ByteArray.size_extract]); omega) (by omega)).mono fun r_4 w_5 h_4 => ?_))
    have hp_4 := h_4
    have hs_6 : Sat w [_, _, cL r_4 5 (encN .u8) (encA W C k ++ uv ((comN p x)) ++ uv ((x.size - (comN p x))))] _ := hs_5.adds hp_4
    refine .s rfl rfl <| .nil <| .seq <| .region <| .m rfl rfl <| .m rfl rfl <| .m rfl rfl <| .e rfl (.sliceStr (l := (comN p x)) (h := x.size) Tryz.underlying9 rfl ⟨_, rfl⟩ rfl (by omega) (by omega)) <| .f rfl (.appendSrc 2 sl22 hs_6 rfl rfl rfl (srcStr Tryz.underlying9 _) (by simp only [List.length_append, strB_length, ByteArray.size_extract]; omega) (by simp only [List.length_append, strB_length, ByteArray.size_extract]; omega) fun v_1 w_6 hs_7 hch_1 => ?_)
    refine .s rfl rfl <| .nil <| .seq <| .region <| .m rfl rfl <| .m rfl rfl <| .e rfl (.nilCheck rfl) <| .e rfl (.fieldAddr fld71_1 rfl rfl) <| .e rfl (.load scal27 rfl (hs_7.ext _ _ h.c1)) <| .m rfl rfl <| .e rfl (.idxL (E := encN .i64) sl27 rfl rfl (h.hC.ext hs_7.ext) (by omega)) <| .e rfl (.ldL (E := encN .i64) scal3 rfl (h.hC.ext hs_7.ext) hcc (by decide) rfl) <| .e rfl (.subI (b := 1) rfl rfl (by omega) (by omega)) <| .e rfl (.convK (by rw [Tryz.underlying3]; rfl) Tryz.underlying56 rfl (wrap_u rfl (by (try simp only [IntKind.bits]); omega))) <| .f rfl (.call ent39 rfl ((put_ok v_1 (encA W C k ++ uv ((comN p x)) ++ uv ((x.size - (comN p x))) ++ strB (x.extract (comN p x) x.size)) ((c - 1)) _ (hs_7.rdL 2 rfl) (by (try simp only [List.length_append, strB_length, ByteArray.size_extract]); omega) (by omega)).mono fun r_5 w_7 h_5 => ?_))
    have hp_5 := h_5
    have hs_8 := hs_7.adds hp_5
    refine .s rfl rfl <| .nil <| .weaken [(0, _), (3, _), (4, _), (5, _), (6, _), (7, _), (18, _), (19, _), (20, _), (21, _)] ⟨rfl, rfl, rfl, rfl, rfl, rfl, rfl, rfl, rfl, rfl, trivial⟩ <| .region <| .m rfl rfl <| .s rfl rfl <| .nil <| .region <| .e rfl (.addI (b := 1) rfl rfl (by omega)) <| .m rfl rfl <| .nil ?_
    have hs_9 : Sat w [_, _, _, cL r_5 5 (encN .u8) (encA W C (k + 1))] w_7 := hs_8.reL 3 rfl (show encA W C k ++ uv ((comN p x)) ++ uv ((x.size - (comN p x))) ++ strB (x.extract (comN p x) x.size) ++ uv ((c - 1)) = encA W C (k + 1) from encA_step hx hcc hp)
    have hs_10 : Sat w [_] w_7 := hs_9.sub ((.cons _ (.cons _ (.cons _ (.cons_cons _ .slnil)))))
    exact ⟨(k + 1, x, r_5), ⟨rfl, rfl, rfl, rfl, rfl, rfl, trivial⟩, ⟨hs_10, by omega, by unfold prevN; rw [if_neg (by omega), Nat.add_sub_cancel, getD_of hx], hxs⟩, (show (W.length - (k + 1)) < (W.length - k) from by omega)⟩
  · refine .exit0 <| .seq ?_
    have hs_11 : Sat w [cL v 5 (encN .u8) (encA W C W.length)] w_2 := hs_3.reL 0 rfl (show encA W C k = encA W C W.length from by rw [show k = W.length by omega])
    have hel := encA_length C hsz W.length (Nat.le_refl _)
    refine .region <| .m rfl rfl <| .f rfl (.call ent29 rfl ((seal_ok _ (encA W C W.length) _ (hs_11.rdL 0 rfl) (encA_lt W C _) (by omega)).mono fun r_6 w_8 h_6 => ?_))
    have hp_6 := h_6
    have hs_12 := hs_11.adds hp_6
    refine .s rfl rfl <| .nil <| .ret ?_
    show PostK _ _ _ _ _ _
    refine post1 rfl rfl ?_
    have hs_13 : Sat w [_] w_8 := hs_12.sub ((.cons _ (.cons_cons _ .slnil)))
    exact hs_13
end Go.Proofs.YtecfgjdpghddgaaGreat
