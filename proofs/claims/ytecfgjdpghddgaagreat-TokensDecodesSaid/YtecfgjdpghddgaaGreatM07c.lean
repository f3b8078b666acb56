/-
  M07c: an encoded stream of numbers, part by part, as the reference takes it. No program in sight.
-/
import Derived.Test.YtecfgjdpghddgaaGreatM14d
import Derived.Test.YtecfgjdpghddgaaGreatM07
import Derived.Test.YtecfgjdpghddgaaGreatM07b
set_option linter.unusedVariables false
set_option linter.unusedSimpArgs false
set_option linter.unusedSectionVars false
namespace Go.Kw
def Gd (p0 l : List Nat) : Prop := OkN l ∧ p0 = plK l (kindN l)
def bkT (l : List Nat) (k : Nat) : List Nat := pld (kindN l) ((ptsK l).drop k)
def hdT (l : List Nat) : List Nat := if kindN l = 1 then uv (symL l).length ++ (symL l ++ bkT l 0) else bkT l 0
theorem kind01 (l : List Nat) : kindN l = 0 ∨ kindN l = 1 := by have := kindN_le l; omega
theorem symL_8 {l : List Nat} (hl : OkN l) : (symL l).map (· % 2 ^ 8) = symL l := by
  refine (List.map_congr_left fun x hx => ?_).trans (List.map_id _)
  have := validB_le (validB_ok (symL_ok l hl.mx)) x hx
  show x % 2 ^ 8 = x
  omega
theorem plK_form {l : List Nat} (hl : OkN l) : plK l (kindN l) = uv l.length ++ (kindN l :: hdT l) := by
  rcases kind01 l with h | h
  · rw [h, plK_zero, hdP_zero]
    have h2 : ptsK l = pk0 l (nbk l.length) := by rw [ptsK, if_neg (by omega)]
    simp [hdT, bkT, h, h2]
  · rw [h, plK_one, hdP_one, symL_8 hl]
    have h2 : ptsK l = pk1 l (nbk l.length) := by rw [ptsK, if_pos h]
    simp [hdT, bkT, h, h2]
theorem gd_head {p0 l : List Nat} (h : Gd p0 l) : (uvR p0).2.2 = 0 ∧ (uvR p0).1 = l.length ∧ (uvR p0).2.1 < p0.length ∧ p0[(uvR p0).2.1]? = some (kindN l) ∧ p0.drop ((uvR p0).2.1 + 1) = hdT l := by
  have hlen := h.1.len
  have e := h.2.trans (plK_form h.1)
  have hu := uvR_uv (show l.length < 2 ^ 64 by omega) (kindN l :: hdT l)
  rw [← e] at hu
  rw [hu]
  refine ⟨rfl, rfl, ?_, ?_, ?_⟩
  · rw [e]; simp
  · rw [e]; simp
  · rw [e, ← List.drop_drop]; simp
theorem take_app {x : Nat} {A B p : List Nat} (hx : x < 2 ^ 64) (e : p = uv x ++ (A ++ B)) : (uvR p).2.2 = 0 ∧ (uvR p).1 = x ∧ (uvR p).2.1 + A.length ≤ p.length ∧ (p.drop (uvR p).2.1).take A.length = A ∧ p.drop (uvR p).2.1 = A ++ B ∧ (p.drop (uvR p).2.1).drop A.length = B := by
  have hu := uvR_uv hx (A ++ B)
  rw [← e] at hu
  rw [hu]
  have hd : p.drop (uv x).length = A ++ B := by rw [e, List.drop_left]
  refine ⟨rfl, rfl, ?_, ?_, hd, ?_⟩
  · rw [e]; simp only [List.length_append]; omega
  · show (p.drop (uv x).length).take A.length = A
    rw [hd, List.take_left]
  · show (p.drop (uv x).length).drop A.length = B
    rw [hd, List.drop_left]
theorem gd_lens {p0 p1 l : List Nat} (h : Gd p0 l) (hk : kindN l = 1) (e : p1 = hdT l) : (uvR p1).2.2 = 0 ∧ (uvR p1).1 = (symL l).length ∧ (symL l).length ≤ 1024 ∧ (uvR p1).2.1 + (symL l).length ≤ p1.length ∧ (p1.take ((uvR p1).2.1 + (uvR p1).1)).drop (uvR p1).2.1 = symL l ∧ p1.drop ((uvR p1).2.1 + (uvR p1).1) = bkT l 0 := by
  rw [hdT, if_pos hk] at e
  have hs := symL_length l
  have hm := h.1.mx
  obtain ⟨h1, h2, h3, h4, h5, h6⟩ := take_app (show (symL l).length < 2 ^ 64 by omega) e
  refine ⟨h1, h2, by omega, h3, ?_, ?_⟩
  · rw [h2, List.drop_take, Nat.add_sub_cancel_left]; exact h4
  · rw [h2, ← List.drop_drop]; exact h6
theorem nbk_lt2 {l : List Nat} {k : Nat} (h : 64 * k < l.length) : k < nbk l.length := by unfold nbk; omega
theorem drop_getx {α : Type} {l : List α} {k : Nat} {x : α} (h : l[k]? = some x) : l.drop k = x :: l.drop (k + 1) := by
  obtain ⟨hk, rfl⟩ := List.getElem?_eq_some_iff.1 h
  exact List.drop_eq_getElem_cons hk
theorem gd_blk0 {p0 l3 l : List Nat} {k : Nat} (h : Gd p0 l) (hk : kindN l = 0) (e : l3 = bkT l k) (hlt : 64 * k < l.length) : (uvR l3).2.2 = 0 ∧ (uvR l3).1 = (packBk (chk l k)).length ∧ (packBk (chk l k)).length ≤ 10000 ∧ (uvR l3).2.1 + (packBk (chk l k)).length ≤ l3.length ∧ (l3.drop (uvR l3).2.1).take (packBk (chk l k)).length = packBk (chk l k) ∧ (l3.drop (uvR l3).2.1).drop (packBk (chk l k)).length = bkT l (k + 1) ∧ PkOf (packBk (chk l k)) (chk l k) := by
  have hc := chk_length l k
  have hp := packBk_len (chk l k) (by omega)
  have h2 : ptsK l = pk0 l (nbk l.length) := by rw [ptsK, if_neg (by omega)]
  have e2 : l3 = uv (packBk (chk l k)).length ++ (packBk (chk l k) ++ bkT l (k + 1)) := by
    rw [e, bkT, bkT, hk, h2, drop_getx (pk0_get (nbk_lt2 hlt))]; simp [pld, pld1]
  obtain ⟨h3, h4, h5, h6, _, h7⟩ := take_app (show (packBk (chk l k)).length < 2 ^ 64 by omega) e2
  exact ⟨h3, h4, hp, h5, h6, h7, by omega, fun x hx => by have := h.1.lt x (chk_mem hx); omega, rfl⟩
theorem gd_blk1 {p0 l3 l : List Nat} {k : Nat} (h : Gd p0 l) (hk : kindN l = 1) (e : l3 = bkT l k) (hlt : 64 * k < l.length) : (uvR l3).2.2 = 0 ∧ (uvR l3).1 = (hufB (symL l) (chk l k)).length ∧ (uvR l3).1 ≤ 1000 ∧ (uvR l3).2.1 + ((uvR l3).1 + 7) / 8 ≤ l3.length ∧ (l3.drop (uvR l3).2.1).drop (((uvR l3).1 + 7) / 8) = bkT l (k + 1) ∧
    ∀ size, size = min 64 (l.length - 64 * k) → validB (symL l) = true ∧ HdOf (symL l) ((l3.drop (uvR l3).2.1).take (((uvR l3).1 + 7) / 8)) (uvR l3).1 size (chk l k) := by
  have hc := chk_length l k
  have hok := symL_ok l h.1.mx
  have hh := hufB_length (GoodLens.of_ok hok) (chk l k)
  have h2 : ptsK l = pk1 l (nbk l.length) := by rw [ptsK, if_pos hk]
  have e2 : l3 = uv (hufB (symL l) (chk l k)).length ++ (packB (hufB (symL l) (chk l k)) ++ bkT l (k + 1)) := by
    rw [e, bkT, bkT, hk, h2, drop_getx (pk1_get (nbk_lt2 hlt))]; simp [pld, pld1]
  obtain ⟨h3, h4, h5, h6, _, h7⟩ := take_app (show (hufB (symL l) (chk l k)).length < 2 ^ 64 by omega) e2
  rw [packB_length] at h5 h6 h7
  rw [h4]
  exact ⟨h3, rfl, by omega, h5, h7, fun size hs => ⟨validB_ok hok, fun x hx => (symL_pos h.1.mx x (chk_mem hx)).2, by omega, rfl, h6⟩⟩
theorem blk_more (l : List Nat) (k : Nat) : l.take (64 * k) ++ chk l k = l.take (64 * (k + 1)) := by
  rw [show 64 * (k + 1) = 64 * k + 64 by omega, List.take_add]; rfl
theorem blk_lt {l out : List Nat} {k : Nat} (e : out = l.take (64 * k)) (h : out.length < l.length) : 64 * k < l.length ∧ out.length = 64 * k := by
  rw [e, List.length_take] at h; rw [e, List.length_take]; omega
theorem blk_all {l out : List Nat} {k : Nat} (e : out = l.take (64 * k)) (h : ¬ out.length < l.length) : out = l := by
  rw [e, List.length_take] at h; rw [e, List.take_of_length_le (by omega)]
theorem el_or (l : List Nat) (i : Nat) (hb : ∀ x ∈ l, x < 256) : ∃ c, c < 256 ∧ (i < l.length → l[i]? = some c) := by
  rcases Nat.lt_or_ge i l.length with h | h
  · exact ⟨l[i], hb _ (List.getElem_mem h), fun _ => List.getElem?_eq_getElem h⟩
  · exact ⟨0, by decide, fun h2 => by omega⟩
end Go.Kw
