/- The walks of the functions of F13d, printed by our own program (kwgen.py) out of our descriptions (base.py). -/
import Derived.Test.YtecfgjdpghddgaaGreatF13e
import Derived.Test.YtecfgjdpghddgaaGreatF16t
import Derived.Test.YtecfgjdpghddgaaGreatF01
import Derived.Test.YtecfgjdpghddgaaGreatTab
set_option linter.unusedVariables false
set_option linter.unusedSimpArgs false
set_option linter.unusedSectionVars false
namespace Go.Proofs.YtecfgjdpghddgaaGreat
open Go.RowKit Go.Kw
set_option maxRecDepth 100000
def encL (p : ByteArray) : List ByteArray → List Nat → List Nat
  | x :: W, c :: C => enc1 p x c ++ encL x W C
  | _, _ => []
theorem prevN_succ {W : List ByteArray} {k : Nat} {x : ByteArray} (hx : W[k]? = some x) : prevN W (k + 1) = x := by
  unfold prevN; rw [if_neg (by omega), Nat.add_sub_cancel, getD_of hx]
theorem encL_at {W : List ByteArray} {C : List Nat} {k c : Nat} {x : ByteArray} (hx : W[k]? = some x) (hc : C[k]? = some c) : encL (prevN W k) (W.drop k) (C.drop k) = uv (comN (prevN W k) x) ++ (uv (x.size - comN (prevN W k) x) ++ (strB (x.extract (comN (prevN W k) x) x.size) ++ (uv (c - 1) ++ encL x (W.drop (k + 1)) (C.drop (k + 1))))) := by
  rw [drop_at hx, drop_at hc, encL, enc1]
  simp only [List.append_assoc]
theorem encA_encL {W : List ByteArray} {C : List Nat} (h : C.length = W.length) : ∀ k, k ≤ W.length → encA W C k ++ encL (prevN W k) (W.drop k) (C.drop k) = uv W.length ++ encL (prevN W 0) W C
  | 0, _ => rfl
  | k + 1, hk => by
    rw [← encA_encL h k (by omega)]
    have hx : W[k]? = some W[k] := List.getElem?_eq_getElem (by omega)
    have hc : C[k]? = some C[k] := List.getElem?_eq_getElem (by omega)
    rw [encL_at hx hc, encA, getD_of hx, getD_of hc, prevN_succ hx, enc1]
    simp only [List.append_assoc]
theorem encA_all {W : List ByteArray} {C : List Nat} (h : C.length = W.length) : encA W C W.length = uv W.length ++ encL (prevN W 0) W C := by
  have := encA_encL h W.length (Nat.le_refl _)
  rw [List.drop_of_length_le (Nat.le_refl _)] at this
  simpa [encL] using this
theorem comL_take : ∀ (a b : List UInt8), a.take (comL a b) = b.take (comL a b)
  | x :: a, y :: b => by
    unfold comL
    split
    · rename_i h; rw [List.take_succ_cons, List.take_succ_cons, h, comL_take a b]
    · simp
  | [], _ => by simp [comL]
  | _ :: _, [] => by simp [comL]
theorem comL_le1 : ∀ (a b : List UInt8), comL a b ≤ a.length
  | x :: a, y :: b => by
    have := comL_le1 a b
    unfold comL
    split
    · simp; omega
    · omega
  | [], _ => by simp [comL]
  | _ :: _, [] => by simp [comL]
theorem comN_le1 (a b : ByteArray) : comN a b ≤ a.size := by have := comL_le1 a.data.toList b.data.toList; rw [bsz] at this; exact this
theorem strOf_strB (s : ByteArray) : strOf (strB s) = s := by unfold strB; rw [strOf_bytes]
theorem com_cat (p x : ByteArray) : p.extract 0 (comN p x) ++ strOf (strB (x.extract (comN p x) x.size)) = x := by
  rw [strOf_strB]
  refine bytes_ext ?_
  have e : (p.extract 0 (comN p x) ++ x.extract (comN p x) x.size).data.toList = (p.extract 0 (comN p x)).data.toList ++ (x.extract (comN p x) x.size).data.toList := by simp
  rw [e, ext_list, ext_list, List.drop_zero, Nat.sub_zero]
  have h := comL_take p.data.toList x.data.toList
  show p.data.toList.take (comL p.data.toList x.data.toList) ++ _ = _
  have h2 : (x.data.toList.drop (comN p x)).take (x.size - comN p x) = x.data.toList.drop (comN p x) := List.take_of_length_le (by rw [List.length_drop, bsz]; exact Nat.le_refl _)
  rw [h, h2]
  exact List.take_append_drop _ _
theorem encL_at2 {W : List ByteArray} {C : List Nat} {k c : Nat} {p x : ByteArray} (hx : W[k]? = some x) (hc : C[k]? = some c) (hp : p = prevN W k) : encL p (W.drop k) (C.drop k) = uv (comN p x) ++ (uv (x.size - comN p x) ++ (strB (x.extract (comN p x) x.size) ++ (uv (c - 1) ++ encL x (W.drop (k + 1)) (C.drop (k + 1))))) := by
  subst hp; exact encL_at hx hc
theorem lt_app {a b : List Nat} (ha : ∀ y ∈ a, y < 256) (hb : ∀ y ∈ b, y < 256) : ∀ y ∈ a ++ b, y < 256 := fun y hy => (List.mem_append.1 hy).elim (ha y) (hb y)
theorem enc1_lt (p x : ByteArray) (c : Nat) : ∀ y ∈ enc1 p x c, y < 256 := lt_app (lt_app (lt_app (uv_lt _) (uv_lt _)) (strB_lt _)) (uv_lt _)
theorem encL_lt : ∀ (p : ByteArray) (W : List ByteArray) (C : List Nat), ∀ y ∈ encL p W C, y < 256
  | p, x :: W, c :: C => lt_app (enc1_lt p x c) (encL_lt x W C)
  | _, [], _ => fun y h => by simp [encL] at h
  | _, _ :: _, [] => fun y h => by simp [encL] at h
theorem encL_length : ∀ (p : ByteArray) (W : List ByteArray) (C : List Nat), (∀ x ∈ W, x.size ≤ 120) → (encL p W C).length ≤ W.length * 150
  | p, x :: W, c :: C, h => by
    have h1 := enc1_length p x c
    have h2 := h x (List.mem_cons_self ..)
    have h3 := encL_length x W C fun y hy => h y (List.mem_cons_of_mem _ hy)
    simp only [encL, List.length_append, List.length_cons]
    omega
  | _, [], _, _ => by simp [encL]
  | _, _ :: _, [], _ => by simp [encL]
theorem encL_drop {W : List ByteArray} (C : List Nat) (p : ByteArray) (k : Nat) (h : ∀ x ∈ W, x.size ≤ 120) (hn : W.length ≤ 1024) : (encL p (W.drop k) (C.drop k)).length ≤ 153600 := by
  have h1 := encL_length p (W.drop k) (C.drop k) fun x hx => h x (List.mem_of_mem_drop hx)
  rw [List.length_drop] at h1
  omega
theorem seal_lt {p : List Nat} (hp : ∀ x ∈ p, x < 256) : ∀ x ∈ sealN p, x < 256 := lt_app hp (byts_lt _)
theorem rnum_ok (w0 w : World) (cs : List Chunk) (g : Nat) (bv : Value) (x lim : Nat) (rest : List Nat) (hs : Sat w0 ([cObj g 76 [bv, .bool true]] ++ cs) w) (hb : RdL w0 bv (encN .u8) (uv x ++ rest)) (hbb : ∀ y ∈ uv x ++ rest, y < 256) (hn : (uv x ++ rest).length ≤ 1000000000) (hx64 : x < 2 ^ 64) (hxl : x ≤ lim) (hlim : lim ≤ 1000000000000) :
    CallsV Tryz.prog 37 [(.pointer (some ⟨g, 0, none⟩)), (.int .i64 lim)] w fun r w' => r = .int .i64 ((x : Nat) : Int) ∧ ∃ bv', RdL w0 bv' (encN .u8) rest ∧ Sat w0 ([cObj g 76 [bv', .bool true]] ++ cs) w' := by
  refine callsV_of Tryz.func37 rfl rfl ?_
  refine .seq <| .region <| .s rfl rfl <| .nil <| .seq <| .region <| .m rfl rfl <| .e rfl (.nilCheck rfl) <| .e rfl (.fieldAddr fld76_0 rfl rfl) <| .e rfl (.load scal22 rfl (hs.cell (i := 0) (j := 0) rfl rfl)) <| .f rfl (.call ent69 rfl ((uvarint_ok _ (uv x ++ rest) _ (hb.ext hs.ext) (hbb)).mono fun r_1 w_1 h_1 => ?_))
  obtain ⟨rfl, hp_1⟩ := h_1
  have hs_1 : Sat w0 ([cObj g 76 [bv, (.bool true)]] ++ cs) _ := (hs.adds hp_1).mid
  refine .m rfl rfl <| .e rfl (.extract rfl rfl) <| .e rfl (.extract rfl rfl) <| .e rfl (.extract rfl rfl) <| .s rfl rfl <| .s rfl rfl <| .s rfl rfl <| .nil <| .seq <| .seq ?_
  have hu := uvR_uv hx64 rest
  refine .weaken [(0, _), (1, _), (4, _), (5, (.int .u64 x)), (6, _), (7, _), (8, _), (9, _), (10, _), (11, _), (12, _), (13, _), (14, _), (15, _), (16, _)] ⟨rfl, rfl, rfl, congrArg some (congrArg (fun q : Nat × Nat × Nat => Value.int .u64 ((q.1 : Nat) : Int)) hu), rfl, rfl, rfl, rfl, rfl, rfl, rfl, rfl, rfl, rfl, rfl, trivial⟩ <| .weaken [(0, _), (1, _), (4, _), (5, _), (6, (.int .i64 ((uv x).length : Nat))), (7, _), (8, _), (9, _), (10, _), (11, _), (12, _), (13, _), (14, _), (15, _), (16, _)] ⟨rfl, rfl, rfl, rfl, congrArg some (congrArg (fun q : Nat × Nat × Nat => Value.int .i64 ((q.2.1 : Nat) : Int)) hu), rfl, rfl, rfl, rfl, rfl, rfl, rfl, rfl, rfl, rfl, trivial⟩ <| .weaken [(0, _), (1, _), (4, _), (5, _), (6, _), (7, (.int .i64 (0 : Nat))), (8, _), (9, _), (10, _), (11, _), (12, _), (13, _), (14, _), (15, _), (16, _)] ⟨rfl, rfl, rfl, rfl, rfl, congrArg some (congrArg (fun q : Nat × Nat × Nat => Value.int .i64 ((q.2.2 : Nat) : Int)) hu), rfl, rfl, rfl, rfl, rfl, rfl, rfl, rfl, rfl, trivial⟩ <| .region <| .m rfl rfl <| .e rfl (.nilCheck rfl) <| .e rfl (.fieldAddr fld76_1 rfl rfl) <| .e rfl (.load scal4 rfl (hs_1.cell (i := 0) (j := 1) rfl rfl)) <| .e rfl (.notB rfl) <| .m rfl rfl <| .yes rfl rfl rfl (rfl) <| .m rfl rfl <| .yes rfl rfl rfl (rfl) <| .e rfl (.neqN (a := 0) (b := 0) rfl rfl) <| .e rfl (.pickN rfl (rfl) rfl) <| .m rfl rfl <| .yes rfl rfl rfl (rfl) <| .m rfl rfl <| .yes rfl rfl rfl (rfl) <| .m rfl rfl <| .yes rfl rfl rfl (rfl) <| .e rfl (.convK (by rw [Tryz.underlying3]; rfl) Tryz.underlying56 rfl (wrap_u rfl (by (try simp only [IntKind.bits]); omega))) <| .yes rfl rfl rfl (rfl) <| .e rfl (.gtrN rfl rfl) <| .e rfl (.pickN rfl (rfl) rfl) <| .nil <| .condF rfl (decide_eq_false (Nat.not_lt.2 hxl)) <| .skip <| .seq <| .region <| .m rfl rfl <| .m rfl rfl <| .e rfl (.nilCheck rfl) <| .e rfl (.fieldAddr fld76_0 rfl rfl) <| .e rfl (.load scal22 rfl (hs_1.cell (i := 0) (j := 0) rfl rfl)) <| .m rfl rfl <| .e rfl (.sliceL (E := encN .u8) (a := (uv x).length) (c := (uv x ++ rest).length) sl22 rfl (hb.ext hs_1.ext) ⟨_, rfl⟩ rfl (by rw [List.length_append]; omega) (Nat.le_refl _)) <| .e rfl (.nilCheck rfl) <| .e rfl (.fieldAddr fld76_0 rfl rfl) <| .f rfl (.storeObj one22 hs_1 (i := 0) rfl rfl rfl ((((hb.ext hs_1.ext)).sub (a := (uv x).length) (b := (uv x ++ rest).length) (by rw [List.length_append]; omega) (Nat.le_refl _)).oneCell) rfl fun w_2 hs_2 hch_1 => ?_)
  refine .nil <| .seq <| .region <| .m rfl rfl <| .e rfl (.convK (by rw [Tryz.underlying56]; rfl) Tryz.underlying3 rfl (wrap_i (by omega))) <| .s rfl rfl <| .nil <| .ret ?_
  show PostK _ _ _ _ _ _
  refine post1 rfl rfl ?_
  have hs_3 : Sat w0 ([_] ++ cs) w_2 := hs_2.sub ((.cons_cons _ (.refl _)))
  refine ⟨rfl, _, ?_, hs_3⟩
  have hsub := hb.sub (a := (uv x).length) (b := (uv x ++ rest).length) (by rw [List.length_append]; omega) (Nat.le_refl _)
  rw [List.take_length, List.drop_left] at hsub
  exact hsub
theorem rtext_ok (w0 w : World) (cs : List Chunk) (g : Nat) (bv : Value) (n : Nat) (s rest : List Nat) (hs : Sat w0 ([cObj g 76 [bv, .bool true]] ++ cs) w) (hb : RdL w0 bv (encN .u8) (s ++ rest)) (hbb : ∀ y ∈ s ++ rest, y < 256) (hn : (s ++ rest).length ≤ 1000000000) (hns : n = s.length) :
    CallsV Tryz.prog 38 [(.pointer (some ⟨g, 0, none⟩)), (.int .i64 n)] w fun r w' => r = .string (strOf s) ∧ ∃ bv', RdL w0 bv' (encN .u8) rest ∧ Sat w0 ([cObj g 76 [bv', .bool true]] ++ cs) w' := by
  refine callsV_of Tryz.func38 rfl rfl ?_
  refine .seq <| .region <| .s rfl rfl <| .nil <| .seq <| .seq <| .region <| .m rfl rfl <| .e rfl (.nilCheck rfl) <| .e rfl (.fieldAddr fld76_1 rfl rfl) <| .e rfl (.load scal4 rfl (hs.cell (i := 0) (j := 1) rfl rfl)) <| .e rfl (.notB rfl) <| .m rfl rfl <| .yes rfl rfl rfl (rfl) <| .m rfl rfl <| .yes rfl rfl rfl (rfl) <| .m rfl rfl <| .yes rfl rfl rfl (rfl) <| .e rfl (.nilCheck rfl) <| .yes rfl rfl rfl (rfl) <| .e rfl (.fieldAddr fld76_0 rfl rfl) <| .yes rfl rfl rfl (rfl) <| .e rfl (.load scal22 rfl (hs.cell (i := 0) (j := 0) rfl rfl)) <| .yes rfl rfl rfl (rfl) <| .e rfl (.lenL Tryz.underlying22 rfl (hb.ext hs.ext)) <| .yes rfl rfl rfl (rfl) <| .e rfl (.gtrN rfl rfl) <| .e rfl (.pickN rfl (rfl) rfl) <| .nil <| .condF rfl (decide_eq_false (by rw [List.length_append]; omega)) <| .skip <| .seq <| .region <| .m rfl rfl <| .e rfl (.nilCheck rfl) <| .e rfl (.fieldAddr fld76_0 rfl rfl) <| .e rfl (.load scal22 rfl (hs.cell (i := 0) (j := 0) rfl rfl)) <| .m rfl rfl <| .e rfl (.sliceL (E := encN .u8) (a := 0) (c := n) sl22 rfl (hb.ext hs.ext) rfl ⟨_, rfl⟩ (by omega) (by rw [List.length_append]; omega)) <| .e rfl (.bytesStr Tryz.underlying22 Tryz.underlying9 Tryz.underlying5 rfl (((hb.ext hs.ext)).sub (a := 0) (b := n) (by omega) (by rw [List.length_append]; omega))) <| .s rfl rfl <| .nil <| .seq <| .region <| .m rfl rfl <| .m rfl rfl <| .e rfl (.nilCheck rfl) <| .e rfl (.fieldAddr fld76_0 rfl rfl) <| .e rfl (.load scal22 rfl (hs.cell (i := 0) (j := 0) rfl rfl)) <| .m rfl rfl <| .e rfl (.sliceL (E := encN .u8) (a := n) (c := (s ++ rest).length) sl22 rfl (hb.ext hs.ext) ⟨_, rfl⟩ rfl (by rw [List.length_append]; omega) (Nat.le_refl _)) <| .e rfl (.nilCheck rfl) <| .e rfl (.fieldAddr fld76_0 rfl rfl) <| .f rfl (.storeObj one22 hs (i := 0) rfl rfl rfl ((((hb.ext hs.ext)).sub (a := n) (b := (s ++ rest).length) (by rw [List.length_append]; omega) (Nat.le_refl _)).oneCell) rfl fun w_1 hs_1 hch_1 => ?_)
  refine .nil <| .seq <| .region <| .m rfl rfl <| .s rfl rfl <| .nil <| .ret ?_
  show PostK _ _ _ _ _ _
  refine post1 rfl rfl ?_
  have hs_2 : Sat w0 ([_] ++ cs) w_1 := hs_1.sub ((.cons_cons _ (.refl _)))
  refine ⟨by rw [hns, List.take_left, List.drop_zero], _, ?_, hs_2⟩
  have hsub := hb.sub (a := n) (b := (s ++ rest).length) (by rw [List.length_append]; omega) (Nat.le_refl _)
  rw [List.take_length, show List.drop n (s ++ rest) = rest by rw [hns, List.drop_left]] at hsub
  exact hsub
theorem ldec_ok (v : Value) (b : List Nat) (W : List ByteArray) (C : List Nat) (w : World) (hv : RdL w v (encN .u8) b) (he : b = sealN (encA W C W.length)) (hok : okW W) (hCl : C.length = W.length) (hsz : ∀ x ∈ W, x.size ≤ 120) (hC : ∀ c ∈ C, 1 ≤ c ∧ c ≤ 4096) (hsum : C.sum ≤ 4096) (hn : W.length ≤ 1024) :
    CallsV Tryz.prog 14 [v] w fun r w' => ∃ g vw vc vo, r = .tuple #[.pointer (some ⟨g, 0, none⟩), .int .i64 0] ∧ Sat w [cObj g 71 [vw, vc, vo], cL vw 9 encTx W, cL vc 3 (encN .i64) C, cL vo 3 (encN .i64) (ordN W)] w' := by
  have hs0 := Sat.start w
  refine callsV_of Tryz.func14 rfl rfl ?_
  refine .seq <| .region <| .s rfl rfl <| .s rfl rfl <| .nil <| .seq ?_
  have hal := encA_length C hsz W.length (Nat.le_refl _)
  refine .region <| .m rfl rfl <| .f rfl (.call ent18 rfl ((unseal_p _ (b) (encA W C W.length) _ (hv.ext hs0.ext) (he) (encA_lt W C _) (by omega)).mono fun r_1 w_1 h_1 => ?_))
  obtain ⟨uv_1, rfl, hp_1⟩ := h_1
  have hs_1 := hs0.adds hp_1
  refine .m rfl rfl <| .e rfl (.extract rfl rfl) <| .e rfl (.extract rfl rfl) <| .s rfl rfl <| .s rfl rfl <| .nil <| .seq <| .seq <| .region <| .m rfl rfl <| .e rfl (.neqN (a := 0) (b := 0) rfl rfl) <| .nil <| .condF rfl (rfl) <| .skip <| .seq ?_
  have hpay := hs_1.rdL 0 rfl
  rw [encA_all hCl] at hpay
  have hv1 := hv.ext hs_1.ext
  have hsb : Sat w_1 [] w_1 := Sat.start _
  have hel0 := encL_length (prevN W 0) W C hsz
  have huw := uv_le W.length
  refine .region <| .m rfl rfl <| .e rfl (.build bt76 rfl ⟨(hpay.ext hsb.ext).oneCell, rfl, trivial⟩ rfl) <| .f rfl (.alloc hsb zero76 fun b_1 w_2 hs_2 hch_1 hb_1 => ?_)
  refine .f rfl (.storeObjA (vs := [uv_1, (.bool true)]) agg76 hs_2 (i := 0) rfl rfl rfl rfl (fun v h => by simp only [List.mem_cons, List.not_mem_nil, or_false] at h; rcases h with rfl | rfl; exact (hpay.ext hs_2.ext).oneCell; exact rfl) fun w_3 hs_3 hch_2 => ?_)
  refine .nil <| .seq <| .region <| .e rfl (.build bt71 rfl trivial rfl) <| .f rfl (.box hs_3 rfl fun b_2 w_4 hs_4 hch_3 hb_2 => ?_)
  have hs_4d : Sat w_1 [cObj b_1 76 [uv_1, (.bool true)], cObj b_2 71 [(.slice none 0 0), (.slice none 0 0), (.slice none 0 0)]] _ := hs_4
  refine .s rfl rfl <| .nil <| .seq <| .region <| .s rfl rfl <| .s rfl rfl <| .nil <| .seq <| .seq <| .region ?_
  have hA_1 : Sat w_1 ([cObj b_1 76 [uv_1, (.bool true)]] ++ ([cObj b_2 71 [(.slice none 0 0), (.slice none 0 0), (.slice none 0 0)]] ++ [])) _ := (Sat.order [0, 1] (by decide) hs_4d.tail).cut 1
  refine .f rfl (.call ent37 rfl ((rnum_ok _ _ _ _ _ (W.length) (1024) (encL (prevN W 0) W C) hA_1 hpay (lt_app (uv_lt _) (encL_lt _ _ _)) (by simp only [List.length_append, strB_length, ByteArray.size_extract]; omega) (by omega) (by omega) (by omega)).mono fun r_2 w_5 h_2 => ?_))
  obtain ⟨rfl, bv_1, hbv_1, hp_2⟩ := h_2
  have hs_5 : Sat w_1 [cObj b_1 76 [bv_1, (.bool true)], cObj b_2 71 [(.slice none 0 0), (.slice none 0 0), (.slice none 0 0)]] _ := (Sat.order [0, 1] (by decide) hp_2.join).untail
  refine .s rfl rfl <| .nil <| .block ?_
  have hs_6 := hs_5.newNilL 9 (encTx)
  have hs_7 := hs_6.newNilL 3 (encN .i64)
  have hs_8 : Sat w_1 [_, _, cL (Value.slice none 0 0) 9 (encTx) (W.take 0), _] w_5 := hs_7.reL 2 rfl (show [] = W.take 0 from rfl)
  have hs_9 : Sat w_1 [_, _, _, cL (Value.slice none 0 0) 3 (encN .i64) (C.take 0)] w_5 := hs_8.reL 3 rfl (show [] = C.take 0 from rfl)
  refine .loop (α := Nat × Value × ByteArray × Nat × Value × Value) (fun (k, bv, p, z, vw, vc) => [(0, v), (6, (.pointer (some ⟨b_1, 0, none⟩))), (7, (.pointer (some ⟨b_2, 0, none⟩))), (8, (.string p)), (9, (.int .i64 z)), (10, (.int .i64 ((W.length - k) : Nat)))]) (fun (k, bv, p, z, vw, vc) w' => Sat w_1 [cObj b_1 76 [bv, (.bool true)], cObj b_2 71 [vw, vc, (.slice none 0 0)], cL vw 9 (encTx) (W.take k), cL vc 3 (encN .i64) (C.take k)] w' ∧ (k ≤ W.length) ∧ (RdL w_1 bv (encN .u8) (encL p (W.drop k) (C.drop k))) ∧ (p = prevN W k) ∧ (p.size ≤ 120) ∧ (z = (C.take k).sum)) (fun (k, bv, p, z, vw, vc) => W.length - k) (0, bv_1, (ByteArray.mk #[]), 0, (.slice none 0 0), (.slice none 0 0)) ⟨rfl, rfl, rfl, rfl, rfl, rfl, trivial⟩ ⟨hs_9, Nat.zero_le _, by rw [List.drop_zero, List.drop_zero]; exact hbv_1, rfl, by decide, rfl⟩ ?_
  rintro ⟨k, bv, p, z, vw, vc⟩ w_6 ⟨hs_10, hk, hbv, hp, hpl, hz⟩
  show CW _ _ _ _ [(0, v), (6, (.pointer (some ⟨b_1, 0, none⟩))), (7, (.pointer (some ⟨b_2, 0, none⟩))), (8, (.string p)), (9, (.int .i64 z)), (10, (.int .i64 ((W.length - k) : Nat)))] _
  refine .seq <| .seq <| .region <| .m rfl rfl <| .e rfl (.gtrN (b := 0) rfl rfl) <| .m rfl rfl ?_
  by_cases hg_1 : 0 < (W.length - k)
  · refine .yes rfl rfl rfl (decide_eq_true hg_1) <| .e rfl (.fieldAddr fld76_1 rfl rfl) <| .yes rfl rfl rfl (decide_eq_true hg_1) <| .e rfl (.load scal4 rfl (hs_10.cell (i := 0) (j := 1) rfl rfl)) <| .e rfl (.pickY rfl (decide_eq_true hg_1) rfl) <| .nil <| .condT rfl (rfl) <| .skip <| .seq <| .block <| .seq ?_
    obtain ⟨x, hx⟩ : ∃ x, W[k]? = some x := ⟨_, List.getElem?_eq_getElem (by omega)⟩
    obtain ⟨c, hcc⟩ : ∃ c, C[k]? = some c := ⟨_, List.getElem?_eq_getElem (by omega)⟩
    have hxs := hsz x (List.mem_of_getElem? hx)
    have hcb := hC c (List.mem_of_getElem? hcc)
    have hcm := comN_le p x
    have hcm1 := comN_le1 p x
    have hel := encL_drop C x (k + 1) hsz hn
    have hu1 := uv_le (comN p x)
    have hu2 := uv_le (x.size - comN p x)
    have hu3 := uv_le (c - 1)
    have hsl := sum_take_le C (k + 1)
    rw [sum_take_snoc hcc] at hsl
    have hb1 := hbv
    rw [encL_at2 hx hcc hp] at hb1
    refine .region <| .m rfl rfl <| .e rfl (.lenStr Tryz.underlying9 rfl) ?_
    have hA_2 : Sat w_1 ([cObj b_1 76 [bv, (.bool true)]] ++ ([cObj b_2 71 [vw, vc, (.slice none 0 0)], cL vw 9 (encTx) (W.take k), cL vc 3 (encN .i64) (C.take k)] ++ [])) _ := (Sat.order [0, 1, 2, 3] (by decide) hs_10.tail).cut 1
    refine .f rfl (.call ent37 rfl ((rnum_ok _ _ _ _ _ (comN p x) (p.size) (uv (x.size - comN p x) ++ (strB (x.extract (comN p x) x.size) ++ (uv (c - 1) ++ encL x (W.drop (k + 1)) (C.drop (k + 1))))) hA_2 hb1 (lt_app (uv_lt _) (lt_app (uv_lt _) (lt_app (strB_lt _) (lt_app (uv_lt _) (encL_lt _ _ _))))) (by simp only [List.length_append, strB_length, ByteArray.size_extract]; omega) (by omega) (by omega) (by omega)).mono fun r_3 w_7 h_3 => ?_))
    obtain ⟨rfl, bv_2, hbv_2, hp_3⟩ := h_3
    have hs_11 : Sat w_1 [cObj b_1 76 [bv_2, (.bool true)], cObj b_2 71 [vw, vc, (.slice none 0 0)], cL vw 9 (encTx) (W.take k), cL vc 3 (encN .i64) (C.take k)] _ := (Sat.order [0, 1, 2, 3] (by decide) hp_3.join).untail
    refine .s rfl rfl <| .nil <| .seq <| .draw (fun w' => Sat w_1 [cObj b_2 71 [vw, vc, (.slice none 0 0)], cL vw 9 (encTx) (W.take k), cL vc 3 (encN .i64) (C.take k)] w') (.free 0 (.free 1 (.free 2 (.one 3 (.one 4 (.free 5 (.free 6 .fin))))))) mixed (by kernel_rfl) ?_
    have hs_12 := hs_11.drew
    have hS_1 : Sat w_1 [_, _, _] _ := hs_12.sub ((.cons _ (.cons_cons _ (.cons_cons _ (.cons_cons _ .slnil)))))
    refine .m rfl rfl hS_1 <| .m rfl rfl hS_1 <| .e rfl (fun w' hS' => .sliceStr (l := 0) (h := (comN p x)) Tryz.underlying9 rfl rfl ⟨_, rfl⟩ (by omega) (by omega)) hS_1 ?_
    have hA_3 : Sat w_1 ([cObj b_1 76 [bv_2, (.bool true)]] ++ ([cObj b_2 71 [vw, vc, (.slice none 0 0)], cL vw 9 (encTx) (W.take k), cL vc 3 (encN .i64) (C.take k)] ++ [])) _ := (Sat.order [0, 1, 2, 3] (by decide) hs_12.tail).cut 1
    refine .f rfl (.call ent37 rfl ((rnum_ok _ _ _ _ _ (x.size - comN p x) (120) (strB (x.extract (comN p x) x.size) ++ (uv (c - 1) ++ encL x (W.drop (k + 1)) (C.drop (k + 1)))) hA_3 hbv_2 (lt_app (uv_lt _) (lt_app (strB_lt _) (lt_app (uv_lt _) (encL_lt _ _ _)))) (by simp only [List.length_append, strB_length, ByteArray.size_extract]; omega) (by omega) (by omega) (by omega)).mono fun r_4 w_8 h_4 => ?_))
    obtain ⟨rfl, bv_3, hbv_3, hp_4⟩ := h_4
    have hs_13 : Sat w_1 [cObj b_1 76 [bv_3, (.bool true)], cObj b_2 71 [vw, vc, (.slice none 0 0)], cL vw 9 (encTx) (W.take k), cL vc 3 (encN .i64) (C.take k)] _ := (Sat.order [0, 1, 2, 3] (by decide) hp_4.join).untail
    have hS_2 : Sat w_1 [_, _, _] _ := hs_13.sub ((.cons _ (.cons_cons _ (.cons_cons _ (.cons_cons _ .slnil)))))
    refine ⟨hS_2, ?_⟩
    have hA_4 : Sat w_1 ([cObj b_1 76 [bv_3, (.bool true)]] ++ ([cObj b_2 71 [vw, vc, (.slice none 0 0)], cL vw 9 (encTx) (W.take k), cL vc 3 (encN .i64) (C.take k)] ++ [])) _ := (Sat.order [0, 1, 2, 3] (by decide) hs_13.tail).cut 1
    refine .f rfl (.call ent38 rfl ((rtext_ok _ _ _ _ _ ((x.size - comN p x)) (strB (x.extract (comN p x) x.size)) (uv (c - 1) ++ encL x (W.drop (k + 1)) (C.drop (k + 1))) hA_4 hbv_3 (lt_app (strB_lt _) (lt_app (uv_lt _) (encL_lt _ _ _))) (by simp only [List.length_append, strB_length, ByteArray.size_extract]; omega) (by rw [strB_length, ByteArray.size_extract]; omega)).mono fun r_5 w_9 h_5 => ?_))
    obtain ⟨rfl, bv_4, hbv_4, hp_5⟩ := h_5
    have hs_14 : Sat w_1 [cObj b_1 76 [bv_4, (.bool true)], cObj b_2 71 [vw, vc, (.slice none 0 0)], cL vw 9 (encTx) (W.take k), cL vc 3 (encN .i64) (C.take k)] _ := (Sat.order [0, 1, 2, 3] (by decide) hp_5.join).untail
    have hS_3 : Sat w_1 [_, _, _] _ := hs_14.sub ((.cons _ (.cons_cons _ (.cons_cons _ (.cons_cons _ .slnil)))))
    refine ⟨hS_3, ?_⟩
    refine .e rfl (fun w' hS' => .strAdd rfl rfl (by rw [strOf_strB, ByteArray.size_extract, ByteArray.size_extract]; omega)) hS_3 <| .e rfl (fun w' hS' => .assign rfl) hS_3 <| .fin <| .seq <| .weaken [(0, _), (6, _), (7, _), (8, _), (9, _), (10, _), (11, _), (12, (.string x)), (26, _), (27, _), (28, _), (29, _), (30, _), (31, _), (34, _), (35, _), (36, _), (37, _), (38, _), (39, _), (40, _), (41, _), (42, _)] ⟨rfl, rfl, rfl, rfl, rfl, rfl, rfl, congrArg some (congrArg Value.string (com_cat p x)), rfl, rfl, rfl, rfl, rfl, rfl, rfl, rfl, rfl, rfl, rfl, rfl, rfl, rfl, rfl, trivial⟩ <| .region ?_
    have hA_5 : Sat w_1 ([cObj b_1 76 [bv_4, (.bool true)]] ++ ([cObj b_2 71 [vw, vc, (.slice none 0 0)], cL vw 9 (encTx) (W.take k), cL vc 3 (encN .i64) (C.take k)] ++ [])) _ := (Sat.order [0, 1, 2, 3] (by decide) hs_14.tail).cut 1
    refine .f rfl (.call ent37 rfl ((rnum_ok _ _ _ _ _ (c - 1) (4095) (encL x (W.drop (k + 1)) (C.drop (k + 1))) hA_5 hbv_4 (lt_app (uv_lt _) (encL_lt _ _ _)) (by simp only [List.length_append, strB_length, ByteArray.size_extract]; omega) (by omega) (by omega) (by omega)).mono fun r_6 w_10 h_6 => ?_))
    obtain ⟨rfl, bv_5, hbv_5, hp_6⟩ := h_6
    have hs_15 : Sat w_1 [cObj b_1 76 [bv_5, (.bool true)], cObj b_2 71 [vw, vc, (.slice none 0 0)], cL vw 9 (encTx) (W.take k), cL vc 3 (encN .i64) (C.take k)] _ := (Sat.order [0, 1, 2, 3] (by decide) hp_6.join).untail
    refine .e rfl (.addI (b := 1) rfl rfl (by omega)) <| .s rfl rfl <| .nil <| .seq <| .weaken [(0, _), (6, _), (7, _), (8, _), (9, _), (10, _), (11, _), (12, _), (13, (.int .i64 c)), (26, _), (27, _), (28, _), (29, _), (30, _), (31, _), (34, _), (35, _), (36, _), (37, _), (38, _), (39, _), (40, _), (41, _), (42, _), (43, _), (44, _)] ⟨rfl, rfl, rfl, rfl, rfl, rfl, rfl, rfl, congrArg some (congrArg (fun q : Nat => Value.int .i64 (q : Int)) (show c - 1 + 1 = c by omega)), rfl, rfl, rfl, rfl, rfl, rfl, rfl, rfl, rfl, rfl, rfl, rfl, rfl, rfl, rfl, rfl, rfl, trivial⟩ <| .region <| .m rfl rfl <| .m rfl rfl <| .e rfl (.addI rfl rfl (by omega)) <| .s rfl rfl <| .nil <| .seq <| .seq ?_
    rcases Nat.eq_zero_or_pos k with hk0 | hk0
    · refine .region <| .m rfl rfl <| .e rfl (.nilCheck rfl) <| .e rfl (.fieldAddr fld71_0 rfl rfl) <| .e rfl (.load scal36 rfl (hs_15.cell (i := 1) (j := 0) rfl rfl)) <| .e rfl (.lenL Tryz.underlying36 rfl (hs_15.rdL 2 rfl)) <| .e rfl (.gtrN (b := 0) rfl rfl) <| .m rfl rfl <| .no rfl rfl rfl (decide_eq_false (by rw [List.length_take]; omega)) rfl <| .no rfl rfl rfl (decide_eq_false (by rw [List.length_take]; omega)) rfl <| .no rfl rfl rfl (decide_eq_false (by rw [List.length_take]; omega)) rfl <| .e rfl (.pickN rfl (decide_eq_false (by rw [List.length_take]; omega)) rfl) <| .m rfl rfl <| .yes rfl rfl rfl (rfl) <| .m rfl rfl <| .yes rfl rfl rfl (rfl) <| .e rfl (.lenStr Tryz.underlying9 rfl) <| .yes rfl rfl rfl (rfl) <| .e rfl (.gtrN (b := 120) rfl rfl) <| .e rfl (.pickN rfl (rfl) rfl) <| .m rfl rfl <| .yes rfl rfl rfl (decide_eq_false (by omega)) <| .m rfl rfl <| .yes rfl rfl rfl (decide_eq_false (by omega)) <| .f rfl (.call ent31 rfl ((lx_valid_ok x _ (by omega)).mono fun r_7 w_11 h_7 => ?_))
      obtain ⟨rfl, hp_7⟩ := h_7
      have hs_16 := hs_15.adds hp_7
      refine .yes rfl rfl rfl (decide_eq_false (by omega)) <| .e rfl (.notB rfl) <| .e rfl (.pickN rfl (decide_eq_false (by omega)) rfl) <| .m rfl rfl <| .yes rfl rfl rfl (by rw [hok.2 x (List.mem_of_getElem? hx)]; rfl) <| .m rfl rfl <| .yes rfl rfl rfl (by rw [hok.2 x (List.mem_of_getElem? hx)]; rfl) <| .e rfl (.gtrN (b := 4096) rfl rfl) <| .e rfl (.pickN rfl (by rw [hok.2 x (List.mem_of_getElem? hx)]; rfl) rfl) <| .nil <| .condF rfl (decide_eq_false (by omega)) <| .skip <| .seq <| .weaken [(0, _), (6, _), (7, _), (8, _), (9, _), (10, _), (11, _), (12, _), (13, _), (31, _), (72, _)] ⟨rfl, rfl, rfl, rfl, rfl, rfl, rfl, rfl, rfl, rfl, rfl, trivial⟩ ?_
      have hshp_1 := (hs_16.rdL (E := encTx) 2 rfl).shp (by decide)
      have hshp_2 := (hs_16.rdL (E := encN .i64) 3 rfl).shp (by decide)
      refine .draw2 (fun w' => Sat w_1 [cObj b_1 76 [bv_5, (.bool true)], cObj b_2 71 [vw, vc, (.slice none 0 0)]] w') (fun w' => Sat w_1 [cObj b_1 76 [bv_5, (.bool true)]] w') 18 (.free 0 (.loose 1 (.free 2 (.free 3 (.free 4 (.free 5 (.free 6 (.loose 9 (.loose 10 (.loose 11 (.free 12 (.loose 13 (.two 7 14 (.two 8 14 (.one 14 (.one 15 (.loose 16 (.free 17 (.bar 18 (.free 19 (.free 20 (.one 21 .fin)))))))) (.one 8 (.one 15 (.loose 16 (.free 17 (.bar 18 (.free 19 (.free 20 (.one 21 .fin))))))))) (.one 7 (.one 8 (.one 15 (.loose 16 (.free 17 (.bar 18 (.free 19 (.free 20 (.one 21 .fin)))))))))))))))))))))) (fun w' h => h.sub ((.cons_cons _ (.cons _ .slnil)))) mixed (by kernel_rfl) ?_
      have hs_17 := hs_16.drew
      have hS_4 : Sat w_1 [_, _] _ := hs_17.sub ((.cons_cons _ (.cons_cons _ (.cons _ (.cons _ .slnil)))))
      refine .m rfl rfl hS_4 <| .loose rfl rfl rfl (fun w' hS' => .move rfl) hS_4 <| .m rfl rfl hS_4 <| .e rfl (fun w' hS' => .nilCheck rfl) hS_4 <| .e rfl (fun w' hS' => .fieldAddr fld71_0 rfl rfl) hS_4 <| .e rfl (fun w' hS' => .load scal36 rfl (hS'.cell (i := 1) (j := 0) rfl rfl)) hS_4 <| .m rfl rfl hS_4 <| .loose rfl rfl rfl (fun w' hS' => .move rfl) hS_4 <| .loose rfl rfl rfl (fun w' hS' => .nilCheck rfl) hS_4 <| .loose rfl rfl rfl (fun w' hS' => .fieldAddr fld71_1 rfl rfl) hS_4 <| .e rfl (fun w' hS' => .load scal27 rfl (hS'.cell (i := 1) (j := 1) rfl rfl)) hS_4 <| .loose rfl rfl rfl (fun w' hS' => .move rfl) hS_4 <| .two rfl rfl rfl rfl rfl rfl (OpE.lit1 (encTx) x sl36 rfl hs_17 rfl fun v_1 w_12 hs_18 hch_4 => ?_) (OpE.lit1 (encN .i64) c sl27 rfl hs_17 rfl fun v_2 w_13 hs_19 hch_5 => ?_)
      · skip
        have hS_5 : Sat w_1 [_, _] _ := hs_18.sub ((.cons_cons _ (.cons_cons _ (.cons _ (.cons _ (.cons _ .slnil))))))
        refine ⟨hS_5, ?_⟩
        refine .two rfl rfl rfl rfl rfl rfl (OpE.appendL 2 sl36 hs_18 rfl rfl rfl Tryz.underlying36 (hs_18.rdL 4 rfl) (by simp only [List.length_append, List.length_take, List.length_cons, List.length_nil]; omega) (by simp only [List.length_append, List.length_take, List.length_cons, List.length_nil]; omega) fun v_3 w_14 hs_20 hch_6 => ?_) (OpE.lit1 (encN .i64) c sl27 rfl hs_18 rfl fun v_4 w_15 hs_21 hch_7 => ?_)
        · have hs_20d : Sat w_1 [_, _, cL v_3 9 (encTx) (W.take k ++ [x]), cL vc 3 (encN .i64) (C.take k)] _ := hs_20.drop 4
          have hS_6 : Sat w_1 [_, _] _ := hs_20d.sub ((.cons_cons _ (.cons_cons _ (.cons _ (.cons _ .slnil)))))
          refine ⟨hS_6, ?_⟩
          refine .f rfl (.lit1 (encN .i64) c sl27 rfl hs_20d rfl fun v_5 w_16 hs_22 hch_8 => ?_)
          have hS_7 : Sat w_1 [_, _] _ := hs_22.sub ((.cons_cons _ (.cons_cons _ (.cons _ (.cons _ (.cons _ .slnil))))))
          refine ⟨hS_7, ?_⟩
          refine .f rfl (.appendL 3 sl27 hs_22 rfl rfl rfl Tryz.underlying27 (hs_22.rdL 4 rfl) (by simp only [List.length_append, List.length_take, List.length_cons, List.length_nil]; omega) (by simp only [List.length_append, List.length_take, List.length_cons, List.length_nil]; omega) fun v_6 w_17 hs_23 hch_9 => ?_)
          have hs_23d : Sat w_1 [_, _, cL v_3 9 (encTx) (W.take k ++ [x]), cL v_6 3 (encN .i64) (C.take k ++ [c])] _ := hs_23.drop 4
          have hS_8 : Sat w_1 [_, _] _ := hs_23d.sub ((.cons_cons _ (.cons_cons _ (.cons _ (.cons _ .slnil)))))
          refine ⟨hS_8, ?_⟩
          refine .loose rfl rfl rfl (fun w' hS' => .nilCheck rfl) hS_8 <| .e rfl (fun w' hS' => .fieldAddr fld71_0 rfl rfl) hS_8 <| .bar rfl rfl rfl (OpE.storeObj one36 hs_23d (i := 1) rfl rfl rfl ((hs_23d.rdL 2 rfl).oneCell) rfl fun w_18 hs_24 hch_10 => ?_)
          have hS_9 : Sat w_1 [_] _ := hs_24.sub ((.cons_cons _ (.cons _ (.cons _ (.cons _ .slnil)))))
          refine ⟨hS_9, ?_⟩
          refine .e rfl (fun w' hS' => .nilCheck rfl) hS_9 <| .e rfl (fun w' hS' => .fieldAddr fld71_1 rfl rfl) hS_9 <| .f rfl (.storeObj one27 hs_24 (i := 1) rfl rfl rfl ((hs_24.rdL 3 rfl).oneCell) rfl fun w_19 hs_25 hch_11 => ?_)
          have hS_10 : Sat w_1 [_] _ := hs_25.sub ((.cons_cons _ (.cons _ (.cons _ (.cons _ .slnil)))))
          refine ⟨hS_10, ?_⟩
          refine .fin <| .region <| .m rfl rfl <| .s rfl rfl <| .nil <| .region <| .m rfl rfl <| .e rfl (.subI (b := 1) rfl rfl (by omega) (by omega)) <| .s rfl rfl <| .nil ?_
          have hs_26 : Sat w_1 [_, cObj b_2 71 [v_3, v_6, (.slice none 0 0)], cL v_3 9 (encTx) (W.take (k + 1)), cL v_6 3 (encN .i64) (C.take k ++ [c])] w_19 := hs_25.reL 2 rfl (show W.take k ++ [x] = W.take (k + 1) from (take_snoc hx).symm)
          have hs_27 : Sat w_1 [_, _, _, cL v_6 3 (encN .i64) (C.take (k + 1))] w_19 := hs_26.reL 3 rfl (show C.take k ++ [c] = C.take (k + 1) from (take_snoc hcc).symm)
          have hs_28 : Sat w_1 [_, _, _, _] w_19 := hs_27.sub ((.cons_cons _ (.cons_cons _ (.cons_cons _ (.cons_cons _ .slnil)))))
          exact ⟨(k + 1, bv_5, x, (z + c), v_3, v_6), ⟨rfl, rfl, rfl, rfl, rfl, congrArg some (congrArg (fun q : Nat => Value.int .i64 (q : Int)) (show W.length - k - 1 = W.length - (k + 1) by omega)), trivial⟩, ⟨hs_28, by omega, hbv_5, (prevN_succ hx).symm, by omega, by rw [sum_take_snoc hcc, hz]⟩, (show (W.length - (k + 1)) < (W.length - k) from by omega)⟩
        · skip
          have hS_11 : Sat w_1 [_, _] _ := hs_21.sub ((.cons_cons _ (.cons_cons _ (.cons _ (.cons _ (.cons _ (.cons _ .slnil)))))))
          refine ⟨hS_11, ?_⟩
          refine .f rfl (.appendL 2 sl36 hs_21 rfl rfl rfl Tryz.underlying36 (hs_21.rdL 4 rfl) (by simp only [List.length_append, List.length_take, List.length_cons, List.length_nil]; omega) (by simp only [List.length_append, List.length_take, List.length_cons, List.length_nil]; omega) fun v_7 w_20 hs_29 hch_12 => ?_)
          have hs_29d : Sat w_1 [_, _, cL v_7 9 (encTx) (W.take k ++ [x]), cL vc 3 (encN .i64) (C.take k), cL v_4 3 (encN .i64) ([c])] _ := hs_29.drop 4
          have hS_12 : Sat w_1 [_, _] _ := hs_29d.sub ((.cons_cons _ (.cons_cons _ (.cons _ (.cons _ (.cons _ .slnil))))))
          refine ⟨hS_12, ?_⟩
          refine .f rfl (.appendL 3 sl27 hs_29d rfl rfl rfl Tryz.underlying27 (hs_29d.rdL 4 rfl) (by simp only [List.length_append, List.length_take, List.length_cons, List.length_nil]; omega) (by simp only [List.length_append, List.length_take, List.length_cons, List.length_nil]; omega) fun v_8 w_21 hs_30 hch_13 => ?_)
          have hs_30d : Sat w_1 [_, _, cL v_7 9 (encTx) (W.take k ++ [x]), cL v_8 3 (encN .i64) (C.take k ++ [c])] _ := hs_30.drop 4
          have hS_13 : Sat w_1 [_, _] _ := hs_30d.sub ((.cons_cons _ (.cons_cons _ (.cons _ (.cons _ .slnil)))))
          refine ⟨hS_13, ?_⟩
          refine .loose rfl rfl rfl (fun w' hS' => .nilCheck rfl) hS_13 <| .e rfl (fun w' hS' => .fieldAddr fld71_0 rfl rfl) hS_13 <| .bar rfl rfl rfl (OpE.storeObj one36 hs_30d (i := 1) rfl rfl rfl ((hs_30d.rdL 2 rfl).oneCell) rfl fun w_22 hs_31 hch_14 => ?_)
          have hS_14 : Sat w_1 [_] _ := hs_31.sub ((.cons_cons _ (.cons _ (.cons _ (.cons _ .slnil)))))
          refine ⟨hS_14, ?_⟩
          refine .e rfl (fun w' hS' => .nilCheck rfl) hS_14 <| .e rfl (fun w' hS' => .fieldAddr fld71_1 rfl rfl) hS_14 <| .f rfl (.storeObj one27 hs_31 (i := 1) rfl rfl rfl ((hs_31.rdL 3 rfl).oneCell) rfl fun w_23 hs_32 hch_15 => ?_)
          have hS_15 : Sat w_1 [_] _ := hs_32.sub ((.cons_cons _ (.cons _ (.cons _ (.cons _ .slnil)))))
          refine ⟨hS_15, ?_⟩
          refine .fin <| .region <| .m rfl rfl <| .s rfl rfl <| .nil <| .region <| .m rfl rfl <| .e rfl (.subI (b := 1) rfl rfl (by omega) (by omega)) <| .s rfl rfl <| .nil ?_
          have hs_33 : Sat w_1 [_, cObj b_2 71 [v_7, v_8, (.slice none 0 0)], cL v_7 9 (encTx) (W.take (k + 1)), cL v_8 3 (encN .i64) (C.take k ++ [c])] w_23 := hs_32.reL 2 rfl (show W.take k ++ [x] = W.take (k + 1) from (take_snoc hx).symm)
          have hs_34 : Sat w_1 [_, _, _, cL v_8 3 (encN .i64) (C.take (k + 1))] w_23 := hs_33.reL 3 rfl (show C.take k ++ [c] = C.take (k + 1) from (take_snoc hcc).symm)
          have hs_35 : Sat w_1 [_, _, _, _] w_23 := hs_34.sub ((.cons_cons _ (.cons_cons _ (.cons_cons _ (.cons_cons _ .slnil)))))
          exact ⟨(k + 1, bv_5, x, (z + c), v_7, v_8), ⟨rfl, rfl, rfl, rfl, rfl, congrArg some (congrArg (fun q : Nat => Value.int .i64 (q : Int)) (show W.length - k - 1 = W.length - (k + 1) by omega)), trivial⟩, ⟨hs_35, by omega, hbv_5, (prevN_succ hx).symm, by omega, by rw [sum_take_snoc hcc, hz]⟩, (show (W.length - (k + 1)) < (W.length - k) from by omega)⟩
      · skip
        have hS_16 : Sat w_1 [_, _] _ := hs_19.sub ((.cons_cons _ (.cons_cons _ (.cons _ (.cons _ (.cons _ .slnil))))))
        refine ⟨hS_16, ?_⟩
        refine .f rfl (.lit1 (encTx) x sl36 rfl hs_19 rfl fun v_9 w_24 hs_36 hch_16 => ?_)
        have hS_17 : Sat w_1 [_, _] _ := hs_36.sub ((.cons_cons _ (.cons_cons _ (.cons _ (.cons _ (.cons _ (.cons _ .slnil)))))))
        refine ⟨hS_17, ?_⟩
        refine .f rfl (.appendL 2 sl36 hs_36 rfl rfl rfl Tryz.underlying36 (hs_36.rdL 5 rfl) (by simp only [List.length_append, List.length_take, List.length_cons, List.length_nil]; omega) (by simp only [List.length_append, List.length_take, List.length_cons, List.length_nil]; omega) fun v_10 w_25 hs_37 hch_17 => ?_)
        have hs_37d : Sat w_1 [_, _, cL v_10 9 (encTx) (W.take k ++ [x]), cL vc 3 (encN .i64) (C.take k), cL v_2 3 (encN .i64) ([c])] _ := hs_37.drop 5
        have hS_18 : Sat w_1 [_, _] _ := hs_37d.sub ((.cons_cons _ (.cons_cons _ (.cons _ (.cons _ (.cons _ .slnil))))))
        refine ⟨hS_18, ?_⟩
        refine .f rfl (.appendL 3 sl27 hs_37d rfl rfl rfl Tryz.underlying27 (hs_37d.rdL 4 rfl) (by simp only [List.length_append, List.length_take, List.length_cons, List.length_nil]; omega) (by simp only [List.length_append, List.length_take, List.length_cons, List.length_nil]; omega) fun v_11 w_26 hs_38 hch_18 => ?_)
        have hs_38d : Sat w_1 [_, _, cL v_10 9 (encTx) (W.take k ++ [x]), cL v_11 3 (encN .i64) (C.take k ++ [c])] _ := hs_38.drop 4
        have hS_19 : Sat w_1 [_, _] _ := hs_38d.sub ((.cons_cons _ (.cons_cons _ (.cons _ (.cons _ .slnil)))))
        refine ⟨hS_19, ?_⟩
        refine .loose rfl rfl rfl (fun w' hS' => .nilCheck rfl) hS_19 <| .e rfl (fun w' hS' => .fieldAddr fld71_0 rfl rfl) hS_19 <| .bar rfl rfl rfl (OpE.storeObj one36 hs_38d (i := 1) rfl rfl rfl ((hs_38d.rdL 2 rfl).oneCell) rfl fun w_27 hs_39 hch_19 => ?_)
        have hS_20 : Sat w_1 [_] _ := hs_39.sub ((.cons_cons _ (.cons _ (.cons _ (.cons _ .slnil)))))
        refine ⟨hS_20, ?_⟩
        refine .e rfl (fun w' hS' => .nilCheck rfl) hS_20 <| .e rfl (fun w' hS' => .fieldAddr fld71_1 rfl rfl) hS_20 <| .f rfl (.storeObj one27 hs_39 (i := 1) rfl rfl rfl ((hs_39.rdL 3 rfl).oneCell) rfl fun w_28 hs_40 hch_20 => ?_)
        have hS_21 : Sat w_1 [_] _ := hs_40.sub ((.cons_cons _ (.cons _ (.cons _ (.cons _ .slnil)))))
        refine ⟨hS_21, ?_⟩
        refine .fin <| .region <| .m rfl rfl <| .s rfl rfl <| .nil <| .region <| .m rfl rfl <| .e rfl (.subI (b := 1) rfl rfl (by omega) (by omega)) <| .s rfl rfl <| .nil ?_
        have hs_41 : Sat w_1 [_, cObj b_2 71 [v_10, v_11, (.slice none 0 0)], cL v_10 9 (encTx) (W.take (k + 1)), cL v_11 3 (encN .i64) (C.take k ++ [c])] w_28 := hs_40.reL 2 rfl (show W.take k ++ [x] = W.take (k + 1) from (take_snoc hx).symm)
        have hs_42 : Sat w_1 [_, _, _, cL v_11 3 (encN .i64) (C.take (k + 1))] w_28 := hs_41.reL 3 rfl (show C.take k ++ [c] = C.take (k + 1) from (take_snoc hcc).symm)
        have hs_43 : Sat w_1 [_, _, _, _] w_28 := hs_42.sub ((.cons_cons _ (.cons_cons _ (.cons_cons _ (.cons_cons _ .slnil)))))
        exact ⟨(k + 1, bv_5, x, (z + c), v_10, v_11), ⟨rfl, rfl, rfl, rfl, rfl, congrArg some (congrArg (fun q : Nat => Value.int .i64 (q : Int)) (show W.length - k - 1 = W.length - (k + 1) by omega)), trivial⟩, ⟨hs_43, by omega, hbv_5, (prevN_succ hx).symm, by omega, by rw [sum_take_snoc hcc, hz]⟩, (show (W.length - (k + 1)) < (W.length - k) from by omega)⟩
    · obtain ⟨y, hy⟩ : ∃ y, W[k - 1]? = some y := ⟨_, List.getElem?_eq_getElem (by omega)⟩
      have hpy : p = y := by rw [hp]; unfold prevN; rw [if_neg (by omega), getD_of hy]
      have hlt := hok.1.lt hy hx (by omega)
      rw [← hpy] at hlt
      refine .region <| .m rfl rfl <| .e rfl (.nilCheck rfl) <| .e rfl (.fieldAddr fld71_0 rfl rfl) <| .e rfl (.load scal36 rfl (hs_15.cell (i := 1) (j := 0) rfl rfl)) <| .e rfl (.lenL Tryz.underlying36 rfl (hs_15.rdL 2 rfl)) <| .e rfl (.gtrN (b := 0) rfl rfl) <| .m rfl rfl <| .yes rfl rfl rfl (decide_eq_true (by rw [List.length_take]; omega)) <| .m rfl rfl <| .yes rfl rfl rfl (decide_eq_true (by rw [List.length_take]; omega)) <| .m rfl rfl <| .yes rfl rfl rfl (decide_eq_true (by rw [List.length_take]; omega)) <| .e rfl (.strLeq rfl rfl) <| .e rfl (.pickY rfl (decide_eq_true (by rw [List.length_take]; omega)) rfl) <| .m rfl rfl <| .yes rfl rfl rfl (decide_eq_false (fun h9 => h9 hlt)) <| .m rfl rfl <| .yes rfl rfl rfl (decide_eq_false (fun h9 => h9 hlt)) <| .e rfl (.lenStr Tryz.underlying9 rfl) <| .yes rfl rfl rfl (decide_eq_false (fun h9 => h9 hlt)) <| .e rfl (.gtrN (b := 120) rfl rfl) <| .e rfl (.pickN rfl (decide_eq_false (fun h9 => h9 hlt)) rfl) <| .m rfl rfl <| .yes rfl rfl rfl (decide_eq_false (by omega)) <| .m rfl rfl <| .yes rfl rfl rfl (decide_eq_false (by omega)) <| .f rfl (.call ent31 rfl ((lx_valid_ok x _ (by omega)).mono fun r_8 w_29 h_8 => ?_))
      obtain ⟨rfl, hp_8⟩ := h_8
      have hs_44 := hs_15.adds hp_8
      refine .yes rfl rfl rfl (decide_eq_false (by omega)) <| .e rfl (.notB rfl) <| .e rfl (.pickN rfl (decide_eq_false (by omega)) rfl) <| .m rfl rfl <| .yes rfl rfl rfl (by rw [hok.2 x (List.mem_of_getElem? hx)]; rfl) <| .m rfl rfl <| .yes rfl rfl rfl (by rw [hok.2 x (List.mem_of_getElem? hx)]; rfl) <| .e rfl (.gtrN (b := 4096) rfl rfl) <| .e rfl (.pickN rfl (by rw [hok.2 x (List.mem_of_getElem? hx)]; rfl) rfl) <| .nil <| .condF rfl (decide_eq_false (by omega)) <| .skip <| .seq <| .weaken [(0, _), (6, _), (7, _), (8, _), (9, _), (10, _), (11, _), (12, _), (13, _), (31, _), (72, _)] ⟨rfl, rfl, rfl, rfl, rfl, rfl, rfl, rfl, rfl, rfl, rfl, trivial⟩ ?_
      have hshp_3 := (hs_44.rdL (E := encTx) 2 rfl).shp (by decide)
      have hshp_4 := (hs_44.rdL (E := encN .i64) 3 rfl).shp (by decide)
      refine .draw2 (fun w' => Sat w_1 [cObj b_1 76 [bv_5, (.bool true)], cObj b_2 71 [vw, vc, (.slice none 0 0)]] w') (fun w' => Sat w_1 [cObj b_1 76 [bv_5, (.bool true)]] w') 18 (.free 0 (.loose 1 (.free 2 (.free 3 (.free 4 (.free 5 (.free 6 (.loose 9 (.loose 10 (.loose 11 (.free 12 (.loose 13 (.two 7 14 (.two 8 14 (.one 14 (.one 15 (.loose 16 (.free 17 (.bar 18 (.free 19 (.free 20 (.one 21 .fin)))))))) (.one 8 (.one 15 (.loose 16 (.free 17 (.bar 18 (.free 19 (.free 20 (.one 21 .fin))))))))) (.one 7 (.one 8 (.one 15 (.loose 16 (.free 17 (.bar 18 (.free 19 (.free 20 (.one 21 .fin)))))))))))))))))))))) (fun w' h => h.sub ((.cons_cons _ (.cons _ .slnil)))) mixed (by kernel_rfl) ?_
      have hs_45 := hs_44.drew
      have hS_22 : Sat w_1 [_, _] _ := hs_45.sub ((.cons_cons _ (.cons_cons _ (.cons _ (.cons _ .slnil)))))
      refine .m rfl rfl hS_22 <| .loose rfl rfl rfl (fun w' hS' => .move rfl) hS_22 <| .m rfl rfl hS_22 <| .e rfl (fun w' hS' => .nilCheck rfl) hS_22 <| .e rfl (fun w' hS' => .fieldAddr fld71_0 rfl rfl) hS_22 <| .e rfl (fun w' hS' => .load scal36 rfl (hS'.cell (i := 1) (j := 0) rfl rfl)) hS_22 <| .m rfl rfl hS_22 <| .loose rfl rfl rfl (fun w' hS' => .move rfl) hS_22 <| .loose rfl rfl rfl (fun w' hS' => .nilCheck rfl) hS_22 <| .loose rfl rfl rfl (fun w' hS' => .fieldAddr fld71_1 rfl rfl) hS_22 <| .e rfl (fun w' hS' => .load scal27 rfl (hS'.cell (i := 1) (j := 1) rfl rfl)) hS_22 <| .loose rfl rfl rfl (fun w' hS' => .move rfl) hS_22 <| .two rfl rfl rfl rfl rfl rfl (OpE.lit1 (encTx) x sl36 rfl hs_45 rfl fun v_12 w_30 hs_46 hch_21 => ?_) (OpE.lit1 (encN .i64) c sl27 rfl hs_45 rfl fun v_13 w_31 hs_47 hch_22 => ?_)
      · skip
        have hS_23 : Sat w_1 [_, _] _ := hs_46.sub ((.cons_cons _ (.cons_cons _ (.cons _ (.cons _ (.cons _ .slnil))))))
        refine ⟨hS_23, ?_⟩
        refine .two rfl rfl rfl rfl rfl rfl (OpE.appendL 2 sl36 hs_46 rfl rfl rfl Tryz.underlying36 (hs_46.rdL 4 rfl) (by simp only [List.length_append, List.length_take, List.length_cons, List.length_nil]; omega) (by simp only [List.length_append, List.length_take, List.length_cons, List.length_nil]; omega) fun v_14 w_32 hs_48 hch_23 => ?_) (OpE.lit1 (encN .i64) c sl27 rfl hs_46 rfl fun v_15 w_33 hs_49 hch_24 => ?_)
        · have hs_48d : Sat w_1 [_, _, cL v_14 9 (encTx) (W.take k ++ [x]), cL vc 3 (encN .i64) (C.take k)] _ := hs_48.drop 4
          have hS_24 : Sat w_1 [_, _] _ := hs_48d.sub ((.cons_cons _ (.cons_cons _ (.cons _ (.cons _ .slnil)))))
          refine ⟨hS_24, ?_⟩
          refine .f rfl (.lit1 (encN .i64) c sl27 rfl hs_48d rfl fun v_16 w_34 hs_50 hch_25 => ?_)
          have hS_25 : Sat w_1 [_, _] _ := hs_50.sub ((.cons_cons _ (.cons_cons _ (.cons _ (.cons _ (.cons _ .slnil))))))
          refine ⟨hS_25, ?_⟩
          refine .f rfl (.appendL 3 sl27 hs_50 rfl rfl rfl Tryz.underlying27 (hs_50.rdL 4 rfl) (by simp only [List.length_append, List.length_take, List.length_cons, List.length_nil]; omega) (by simp only [List.length_append, List.length_take, List.length_cons, List.length_nil]; omega) fun v_17 w_35 hs_51 hch_26 => ?_)
          have hs_51d : Sat w_1 [_, _, cL v_14 9 (encTx) (W.take k ++ [x]), cL v_17 3 (encN .i64) (C.take k ++ [c])] _ := hs_51.drop 4
          have hS_26 : Sat w_1 [_, _] _ := hs_51d.sub ((.cons_cons _ (.cons_cons _ (.cons _ (.cons _ .slnil)))))
          refine ⟨hS_26, ?_⟩
          refine .loose rfl rfl rfl (fun w' hS' => .nilCheck rfl) hS_26 <| .e rfl (fun w' hS' => .fieldAddr fld71_0 rfl rfl) hS_26 <| .bar rfl rfl rfl (OpE.storeObj one36 hs_51d (i := 1) rfl rfl rfl ((hs_51d.rdL 2 rfl).oneCell) rfl fun w_36 hs_52 hch_27 => ?_)
          have hS_27 : Sat w_1 [_] _ := hs_52.sub ((.cons_cons _ (.cons _ (.cons _ (.cons _ .slnil)))))
          refine ⟨hS_27, ?_⟩
          refine .e rfl (fun w' hS' => .nilCheck rfl) hS_27 <| .e rfl (fun w' hS' => .fieldAddr fld71_1 rfl rfl) hS_27 <| .f rfl (.storeObj one27 hs_52 (i := 1) rfl rfl rfl ((hs_52.rdL 3 rfl).oneCell) rfl fun w_37 hs_53 hch_28 => ?_)
          have hS_28 : Sat w_1 [_] _ := hs_53.sub ((.cons_cons _ (.cons _ (.cons _ (.cons _ .slnil)))))
          refine ⟨hS_28, ?_⟩
          refine .fin <| .region <| .m rfl rfl <| .s rfl rfl <| .nil <| .region <| .m rfl rfl <| .e rfl (.subI (b := 1) rfl rfl (by omega) (by omega)) <| .s rfl rfl <| .nil ?_
          have hs_54 : Sat w_1 [_, cObj b_2 71 [v_14, v_17, (.slice none 0 0)], cL v_14 9 (encTx) (W.take (k + 1)), cL v_17 3 (encN .i64) (C.take k ++ [c])] w_37 := hs_53.reL 2 rfl (show W.take k ++ [x] = W.take (k + 1) from (take_snoc hx).symm)
          have hs_55 : Sat w_1 [_, _, _, cL v_17 3 (encN .i64) (C.take (k + 1))] w_37 := hs_54.reL 3 rfl (show C.take k ++ [c] = C.take (k + 1) from (take_snoc hcc).symm)
          have hs_56 : Sat w_1 [_, _, _, _] w_37 := hs_55.sub ((.cons_cons _ (.cons_cons _ (.cons_cons _ (.cons_cons _ .slnil)))))
          exact ⟨(k + 1, bv_5, x, (z + c), v_14, v_17), ⟨rfl, rfl, rfl, rfl, rfl, congrArg some (congrArg (fun q : Nat => Value.int .i64 (q : Int)) (show W.length - k - 1 = W.length - (k + 1) by omega)), trivial⟩, ⟨hs_56, by omega, hbv_5, (prevN_succ hx).symm, by omega, by rw [sum_take_snoc hcc, hz]⟩, (show (W.length - (k + 1)) < (W.length - k) from by omega)⟩
        · skip
          have hS_29 : Sat w_1 [_, _] _ := hs_49.sub ((.cons_cons _ (.cons_cons _ (.cons _ (.cons _ (.cons _ (.cons _ .slnil)))))))
          refine ⟨hS_29, ?_⟩
          refine .f rfl (.appendL 2 sl36 hs_49 rfl rfl rfl Tryz.underlying36 (hs_49.rdL 4 rfl) (by simp only [List.length_append, List.length_take, List.length_cons, List.length_nil]; omega) (by simp only [List.length_append, List.length_take, List.length_cons, List.length_nil]; omega) fun v_18 w_38 hs_57 hch_29 => ?_)
          have hs_57d : Sat w_1 [_, _, cL v_18 9 (encTx) (W.take k ++ [x]), cL vc 3 (encN .i64) (C.take k), cL v_15 3 (encN .i64) ([c])] _ := hs_57.drop 4
          have hS_30 : Sat w_1 [_, _] _ := hs_57d.sub ((.cons_cons _ (.cons_cons _ (.cons _ (.cons _ (.cons _ .slnil))))))
          refine ⟨hS_30, ?_⟩
          refine .f rfl (.appendL 3 sl27 hs_57d rfl rfl rfl Tryz.underlying27 (hs_57d.rdL 4 rfl) (by simp only [List.length_append, List.length_take, List.length_cons, List.length_nil]; omega) (by simp only [List.length_append, List.length_take, List.length_cons, List.length_nil]; omega) fun v_19 w_39 hs_58 hch_30 => ?_)
          have hs_58d : Sat w_1 [_, _, cL v_18 9 (encTx) (W.take k ++ [x]), cL v_19 3 (encN .i64) (C.take k ++ [c])] _ := hs_58.drop 4
          have hS_31 : Sat w_1 [_, _] _ := hs_58d.sub ((.cons_cons _ (.cons_cons _ (.cons _ (.cons _ .slnil)))))
          refine ⟨hS_31, ?_⟩
          refine .loose rfl rfl rfl (fun w' hS' => .nilCheck rfl) hS_31 <| .e rfl (fun w' hS' => .fieldAddr fld71_0 rfl rfl) hS_31 <| .bar rfl rfl rfl (OpE.storeObj one36 hs_58d (i := 1) rfl rfl rfl ((hs_58d.rdL 2 rfl).oneCell) rfl fun w_40 hs_59 hch_31 => ?_)
          have hS_32 : Sat w_1 [_] _ := hs_59.sub ((.cons_cons _ (.cons _ (.cons _ (.cons _ .slnil)))))
          refine ⟨hS_32, ?_⟩
          refine .e rfl (fun w' hS' => .nilCheck rfl) hS_32 <| .e rfl (fun w' hS' => .fieldAddr fld71_1 rfl rfl) hS_32 <| .f rfl (.storeObj one27 hs_59 (i := 1) rfl rfl rfl ((hs_59.rdL 3 rfl).oneCell) rfl fun w_41 hs_60 hch_32 => ?_)
          have hS_33 : Sat w_1 [_] _ := hs_60.sub ((.cons_cons _ (.cons _ (.cons _ (.cons _ .slnil)))))
          refine ⟨hS_33, ?_⟩
          refine .fin <| .region <| .m rfl rfl <| .s rfl rfl <| .nil <| .region <| .m rfl rfl <| .e rfl (.subI (b := 1) rfl rfl (by omega) (by omega)) <| .s rfl rfl <| .nil ?_
          have hs_61 : Sat w_1 [_, cObj b_2 71 [v_18, v_19, (.slice none 0 0)], cL v_18 9 (encTx) (W.take (k + 1)), cL v_19 3 (encN .i64) (C.take k ++ [c])] w_41 := hs_60.reL 2 rfl (show W.take k ++ [x] = W.take (k + 1) from (take_snoc hx).symm)
          have hs_62 : Sat w_1 [_, _, _, cL v_19 3 (encN .i64) (C.take (k + 1))] w_41 := hs_61.reL 3 rfl (show C.take k ++ [c] = C.take (k + 1) from (take_snoc hcc).symm)
          have hs_63 : Sat w_1 [_, _, _, _] w_41 := hs_62.sub ((.cons_cons _ (.cons_cons _ (.cons_cons _ (.cons_cons _ .slnil)))))
          exact ⟨(k + 1, bv_5, x, (z + c), v_18, v_19), ⟨rfl, rfl, rfl, rfl, rfl, congrArg some (congrArg (fun q : Nat => Value.int .i64 (q : Int)) (show W.length - k - 1 = W.length - (k + 1) by omega)), trivial⟩, ⟨hs_63, by omega, hbv_5, (prevN_succ hx).symm, by omega, by rw [sum_take_snoc hcc, hz]⟩, (show (W.length - (k + 1)) < (W.length - k) from by omega)⟩
      · skip
        have hS_34 : Sat w_1 [_, _] _ := hs_47.sub ((.cons_cons _ (.cons_cons _ (.cons _ (.cons _ (.cons _ .slnil))))))
        refine ⟨hS_34, ?_⟩
        refine .f rfl (.lit1 (encTx) x sl36 rfl hs_47 rfl fun v_20 w_42 hs_64 hch_33 => ?_)
        have hS_35 : Sat w_1 [_, _] _ := hs_64.sub ((.cons_cons _ (.cons_cons _ (.cons _ (.cons _ (.cons _ (.cons _ .slnil)))))))
        refine ⟨hS_35, ?_⟩
        refine .f rfl (.appendL 2 sl36 hs_64 rfl rfl rfl Tryz.underlying36 (hs_64.rdL 5 rfl) (by simp only [List.length_append, List.length_take, List.length_cons, List.length_nil]; omega) (by simp only [List.length_append, List.length_take, List.length_cons, List.length_nil]; omega) fun v_21 w_43 hs_65 hch_34 => ?_)
        have hs_65d : Sat w_1 [_, _, cL v_21 9 (encTx) (W.take k ++ [x]), cL vc 3 (encN .i64) (C.take k), cL v_13 3 (encN .i64) ([c])] _ := hs_65.drop 5
        have hS_36 : Sat w_1 [_, _] _ := hs_65d.sub ((.cons_cons _ (.cons_cons _ (.cons _ (.cons _ (.cons _ .slnil))))))
        refine ⟨hS_36, ?_⟩
        refine .f rfl (.appendL 3 sl27 hs_65d rfl rfl rfl Tryz.underlying27 (hs_65d.rdL 4 rfl) (by simp only [List.length_append, List.length_take, List.length_cons, List.length_nil]; omega) (by simp only [List.length_append, List.length_take, List.length_cons, List.length_nil]; omega) fun v_22 w_44 hs_66 hch_35 => ?_)
        have hs_66d : Sat w_1 [_, _, cL v_21 9 (encTx) (W.take k ++ [x]), cL v_22 3 (encN .i64) (C.take k ++ [c])] _ := hs_66.drop 4
        have hS_37 : Sat w_1 [_, _] _ := hs_66d.sub ((.cons_cons _ (.cons_cons _ (.cons _ (.cons _ .slnil)))))
        refine ⟨hS_37, ?_⟩
        refine .loose rfl rfl rfl (fun w' hS' => .nilCheck rfl) hS_37 <| .e rfl (fun w' hS' => .fieldAddr fld71_0 rfl rfl) hS_37 <| .bar rfl rfl rfl (OpE.storeObj one36 hs_66d (i := 1) rfl rfl rfl ((hs_66d.rdL 2 rfl).oneCell) rfl fun w_45 hs_67 hch_36 => ?_)
        have hS_38 : Sat w_1 [_] _ := hs_67.sub ((.cons_cons _ (.cons _ (.cons _ (.cons _ .slnil)))))
        refine ⟨hS_38, ?_⟩
        refine .e rfl (fun w' hS' => .nilCheck rfl) hS_38 <| .e rfl (fun w' hS' => .fieldAddr fld71_1 rfl rfl) hS_38 <| .f rfl (.storeObj one27 hs_67 (i := 1) rfl rfl rfl ((hs_67.rdL 3 rfl).oneCell) rfl fun w_46 hs_68 hch_37 => ?_)
        have hS_39 : Sat w_1 [_] _ := hs_68.sub ((.cons_cons _ (.cons _ (.cons _ (.cons _ .slnil)))))
        refine ⟨hS_39, ?_⟩
        refine .fin <| .region <| .m rfl rfl <| .s rfl rfl <| .nil <| .region <| .m rfl rfl <| .e rfl (.subI (b := 1) rfl rfl (by omega) (by omega)) <| .s rfl rfl <| .nil ?_
        have hs_69 : Sat w_1 [_, cObj b_2 71 [v_21, v_22, (.slice none 0 0)], cL v_21 9 (encTx) (W.take (k + 1)), cL v_22 3 (encN .i64) (C.take k ++ [c])] w_46 := hs_68.reL 2 rfl (show W.take k ++ [x] = W.take (k + 1) from (take_snoc hx).symm)
        have hs_70 : Sat w_1 [_, _, _, cL v_22 3 (encN .i64) (C.take (k + 1))] w_46 := hs_69.reL 3 rfl (show C.take k ++ [c] = C.take (k + 1) from (take_snoc hcc).symm)
        have hs_71 : Sat w_1 [_, _, _, _] w_46 := hs_70.sub ((.cons_cons _ (.cons_cons _ (.cons_cons _ (.cons_cons _ .slnil)))))
        exact ⟨(k + 1, bv_5, x, (z + c), v_21, v_22), ⟨rfl, rfl, rfl, rfl, rfl, congrArg some (congrArg (fun q : Nat => Value.int .i64 (q : Int)) (show W.length - k - 1 = W.length - (k + 1) by omega)), trivial⟩, ⟨hs_71, by omega, hbv_5, (prevN_succ hx).symm, by omega, by rw [sum_take_snoc hcc, hz]⟩, (show (W.length - (k + 1)) < (W.length - k) from by omega)⟩
  · refine .no rfl rfl rfl (decide_eq_false hg_1) rfl <| .no rfl rfl rfl (decide_eq_false hg_1) rfl <| .e rfl (.pickN rfl (decide_eq_false hg_1) rfl) <| .nil <| .condF rfl (rfl) <| .exit0 <| .seq <| .seq ?_
    have hs_72 : Sat w_1 [cObj b_1 76 [bv, (.bool true)], cObj b_2 71 [vw, vc, (.slice none 0 0)], cL vw 9 (encTx) (W), cL vc 3 (encN .i64) (C.take k)] w_6 := hs_10.reL 2 rfl (show W.take k = W from by rw [show k = W.length by omega, List.take_length])
    have hs_73 : Sat w_1 [_, _, _, cL vc 3 (encN .i64) (C)] w_6 := hs_72.reL 3 rfl (show C.take k = C from by rw [show k = C.length by omega, List.take_length])
    have hs_74 := hs_73.newNilL 3 (encN .i64)
    refine .region <| .e rfl (.fieldAddr fld76_1 rfl rfl) <| .e rfl (.load scal4 rfl (hs_74.cell (i := 0) (j := 1) rfl rfl)) <| .e rfl (.notB rfl) <| .m rfl rfl <| .yes rfl rfl rfl (rfl) <| .m rfl rfl <| .yes rfl rfl rfl (rfl) <| .f rfl (.call ent15 rfl ((lexEnc_ok _ _ _ _ _ _ _ _ (hs_74.lexAt 1 2 3 4 rfl rfl rfl rfl) hCl hsz (fun c hc => ⟨(hC c hc).1, by have := (hC c hc).2; omega⟩) (by omega)).mono fun r_9 w_47 h_9 => ?_))
    have hp_9 := h_9
    have hs_75 := hs_74.adds hp_9
    refine .yes rfl rfl rfl (rfl) <| .m rfl rfl <| .yes rfl rfl rfl (rfl) <| .f rfl (.call ent20 rfl ((beq_ok _ _ (sealN (encA W C W.length)) (b) _ (hs_75.rdL 5 rfl) (hv1.ext hs_75.ext) (seal_lt (encA_lt W C _)) (by rw [he]; exact seal_lt (encA_lt W C _))).mono fun r_10 w_48 h_10 => ?_))
    obtain ⟨rfl, hp_10⟩ := h_10
    have hs_76 : Sat w_1 [cObj b_1 76 [bv, (.bool true)], cObj b_2 71 [vw, vc, (.slice none 0 0)], cL vw 9 (encTx) (W), cL vc 3 (encN .i64) (C), cL (Value.slice none 0 0) 3 (encN .i64) ([]), cL r_9 5 (encN .u8) (sealN (encA W C W.length))] _ := hs_75.adds hp_10
    refine .yes rfl rfl rfl (rfl) <| .e rfl (.notP rfl) <| .e rfl (.pickN rfl (rfl) rfl) <| .nil <| .condF rfl (decide_eq_false (fun h9 => h9 he.symm)) <| .skip <| .seq <| .region <| .m rfl rfl ?_
    have hA_6 : Sat w_1 ([cObj b_2 71 [vw, vc, (.slice none 0 0)], cL vw 9 (encTx) (W)] ++ ([cObj b_1 76 [bv, (.bool true)], cL vc 3 (encN .i64) (C), cL (Value.slice none 0 0) 3 (encN .i64) ([]), cL r_9 5 (encN .u8) (sealN (encA W C W.length))] ++ [])) _ := (Sat.order [1, 2, 0, 3, 4, 5] (by decide) hs_76.tail).cut 2
    refine .f rfl (.call ent33 rfl ((finish_ok _ _ _ _ _ _ (W) hA_6 (hok) (fun x hx => Nat.le_trans (hsz x hx) (by decide)) (by omega) ((hs_76.rdL 3 rfl).oneCell)).mono fun r_11 w_49 h_11 => ?_))
    obtain ⟨rfl, vo_1, hp_11⟩ := h_11
    have hs_77 : Sat w_1 [cObj b_1 76 [bv, (.bool true)], cObj b_2 71 [vw, vc, vo_1], cL vw 9 (encTx) (W), cL vc 3 (encN .i64) (C), cL (Value.slice none 0 0) 3 (encN .i64) ([]), cL r_9 5 (encN .u8) (sealN (encA W C W.length)), cL vo_1 3 (encN .i64) (ordN W)] _ := (Sat.order [3, 0, 1, 4, 5, 6, 2] (by decide) hp_11.join).untail
    refine .nil <| .seq <| .region <| .m rfl rfl <| .s rfl rfl <| .s rfl rfl <| .nil <| .ret ?_
    show PostK _ _ _ _ _ _
    refine post2 rfl rfl rfl ?_
    have hs_78 : Sat w_1 [_, _, _, _] w_49 := hs_77.sub ((.cons _ (.cons_cons _ (.cons_cons _ (.cons_cons _ (.cons _ (.cons _ (.cons_cons _ .slnil))))))))
    exact ⟨_, _, _, _, rfl, (hs_1.adds hs_78).sub (.cons _ (.refl _))⟩
end Go.Proofs.YtecfgjdpghddgaaGreat
