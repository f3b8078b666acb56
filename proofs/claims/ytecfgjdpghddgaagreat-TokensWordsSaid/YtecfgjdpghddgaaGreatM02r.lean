/-
  M02r: numbers of variable length and bits read back. No program in sight.
-/
import Derived.Test.YtecfgjdpghddgaaGreatM14d
set_option linter.unusedVariables false
set_option linter.unusedSimpArgs false
set_option linter.unusedSectionVars false
namespace Go.Kw
theorem drop_of_get {α : Type} {l : List α} {k : Nat} {x : α} (h : l[k]? = some x) : l.drop k = x :: l.drop (k + 1) := by
  obtain ⟨hk, rfl⟩ := List.getElem?_eq_some_iff.1 h
  exact List.drop_eq_getElem_cons hk
def uvr : Nat → Nat → List Nat → Nat × Nat × Nat
  | _, _, [] => (0, 0, 10)
  | i, v, c :: r => if i = 9 ∧ c ≠ 1 then (0, 0, 9) else if c < 128 then (if c = 0 ∧ 0 < i then (0, 0, 9) else (v + c % 2 ^ 7 * 2 ^ (7 * i), i + 1, 0)) else uvr (i + 1) (v + c % 2 ^ 7 * 2 ^ (7 * i)) r
def uvR (l : List Nat) : Nat × Nat × Nat := uvr 0 0 l
theorem uvr_le : ∀ (l : List Nat) (i v : Nat), (uvr i v l).2.1 ≤ i + l.length
  | [], i, v => by simp [uvr]
  | c :: r, i, v => by
    have ih := uvr_le r (i + 1) (v + c % 2 ^ 7 * 2 ^ (7 * i))
    rw [uvr]
    simp only [List.length_cons]
    split
    · simp
    · split
      · split
        · simp
        · simp <;> omega
      · omega
theorem uvR_le (l : List Nat) : (uvR l).2.1 ≤ l.length := by have := uvr_le l 0 0; rw [Nat.zero_add] at this; exact this
theorem or_high {v x k : Nat} (h : v < 2 ^ k) : v ||| x * 2 ^ k = v + x * 2 ^ k := by
  rw [Nat.or_comm, Nat.add_comm, ← Nat.shiftLeft_eq, Nat.shiftLeft_add_eq_or_of_lt h]
theorem pow7_le {k : Nat} (h : k ≤ 8) : 2 ^ (7 * k) ≤ 2 ^ 56 := Nat.pow_le_pow_right (by decide) (by omega)
theorem uvr_small {c k : Nat} (hk : k ≤ 9) (h9 : ¬ (k = 9 ∧ c ≠ 1)) : c % 2 ^ 7 * 2 ^ (7 * k) < 2 ^ 64 := by
  by_cases h : k = 9
  · have : c = 1 := Classical.byContradiction fun hc => h9 ⟨h, hc⟩
    subst h; subst this; decide
  · have := pow7_le (by omega : k ≤ 8)
    have h2 : c % 2 ^ 7 * 2 ^ (7 * k) ≤ c % 2 ^ 7 * 2 ^ 56 := Nat.mul_le_mul_left _ this
    omega
theorem uvr_or {v c k : Nat} (hv : v < 2 ^ (7 * k)) (hk : k ≤ 9) (h9 : ¬ (k = 9 ∧ c ≠ 1)) : v ||| (c % 2 ^ 7 * 2 ^ (7 * k) % 2 ^ 64) = v + c % 2 ^ 7 * 2 ^ (7 * k) := by
  rw [Nat.mod_eq_of_lt (uvr_small hk h9), or_high hv]
theorem uvr_bound {v c k : Nat} (hv : v < 2 ^ (7 * k)) : v + c % 2 ^ 7 * 2 ^ (7 * k) < 2 ^ (7 * (k + 1)) := by
  have e : 2 ^ (7 * (k + 1)) = 2 ^ 7 * 2 ^ (7 * k) := by rw [← Nat.pow_add]; congr 1; omega
  have h : c % 2 ^ 7 * 2 ^ (7 * k) ≤ (2 ^ 7 - 1) * 2 ^ (7 * k) := Nat.mul_le_mul_right _ (by omega)
  rw [Nat.sub_mul] at h
  have : 2 ^ (7 * k) ≤ 2 ^ 7 * 2 ^ (7 * k) := Nat.le_mul_of_pos_left _ (by decide)
  rw [e]; omega
theorem or128 : ∀ y, y < 256 → (y ||| 128) % 2 ^ 7 = y % 2 ^ 7 ∧ 128 ≤ (y ||| 128) ∧ (y ||| 128) < 256 := by decide +kernel
theorem uvr_uvF : ∀ (f i v x : Nat) (rest : List Nat), x < 128 ^ (f + 1) → i + f = 9 → x * 2 ^ (7 * i) < 2 ^ 64 → (0 < x ∨ i = 0) → uvr i v (uvF f x ++ rest) = (v + x * 2 ^ (7 * i), i + (uvF f x).length, 0)
  | 0, i, v, x, rest, hx, hi, hb, h0 => by
    have hx1 : x < 128 := by simpa using hx
    have h9 : i = 9 := by omega
    subst h9
    have hx2 : x ≤ 1 := by omega
    have hx3 : x = 1 := by omega
    subst hx3
    simp [uvF, uvr]
  | f + 1, i, v, x, rest, hx, hi, hb, h0 => by
    rw [uvF]
    by_cases hs : x < 128
    · rw [if_pos hs]
      have e1 : x % 2 ^ 8 = x := Nat.mod_eq_of_lt (by omega)
      have e2 : x % 2 ^ 7 = x := Nat.mod_eq_of_lt (by omega)
      rw [e1, List.singleton_append, uvr, if_neg (by omega), if_pos hs, if_neg (by omega), e2]
      simp
    · rw [if_neg hs, List.cons_append]
      obtain ⟨h1, h2, h3⟩ := or128 (x % 2 ^ 8) (by omega)
      rw [uvr, if_neg (by omega), if_neg (Nat.not_lt.2 h2), h1]
      have hp : 2 ^ (7 * (i + 1)) = 2 ^ 7 * 2 ^ (7 * i) := by rw [← Nat.pow_add]; congr 1; omega
      have hdiv : x / 2 ^ 7 * 2 ^ (7 * (i + 1)) + x % 2 ^ 7 * 2 ^ (7 * i) = x * 2 ^ (7 * i) := by
        rw [hp, ← Nat.mul_assoc, ← Nat.add_mul]
        congr 1
        have := Nat.div_add_mod x (2 ^ 7); omega
      have hx7 : x < 2 ^ 7 * 128 ^ (f + 1) := by rw [Nat.pow_succ, Nat.mul_comm] at hx; exact hx
      have hb2 : x / 2 ^ 7 * 2 ^ (7 * (i + 1)) < 2 ^ 64 := Nat.lt_of_le_of_lt (by rw [← hdiv]; exact Nat.le_add_right _ _) hb
      have ih := uvr_uvF f (i + 1) (v + x % 2 ^ 8 % 2 ^ 7 * 2 ^ (7 * i)) (x / 2 ^ 7) rest (Nat.div_lt_of_lt_mul hx7) (by omega) hb2 (.inl (Nat.div_pos (by omega) (by decide)))
      rw [ih]
      have e8 : x % 2 ^ 8 % 2 ^ 7 = x % 2 ^ 7 := by omega
      rw [e8]
      simp only [List.length_cons, Prod.mk.injEq, and_true]
      refine ⟨?_, by rw [Nat.add_assoc, Nat.add_comm 1]⟩
      rw [← hdiv, Nat.add_assoc, Nat.add_comm (x % 2 ^ 7 * 2 ^ (7 * i))]
theorem uvR_uv {x : Nat} (h : x < 2 ^ 64) (rest : List Nat) : uvR (uv x ++ rest) = (x, (uv x).length, 0) := by
  have := uvr_uvF 9 0 0 x rest (by have : (2 : Nat) ^ 64 ≤ 128 ^ 10 := by decide
                                   omega) rfl (by simpa using h) (.inr rfl)
  simpa [uvR, uv] using this
def numN (ok : Bool) (l : List Nat) (lim : Nat) : Nat × Bool × List Nat :=
  if ok = false ∨ (uvR l).2.2 ≠ 0 ∨ lim < (uvR l).1 then (0, false, l) else ((uvR l).1, true, l.drop (uvR l).2.1)
theorem numN_uv {x lim : Nat} (h : x < 2 ^ 64) (hl : x ≤ lim) (rest : List Nat) : numN true (uv x ++ rest) lim = (x, true, rest) := by
  unfold numN
  rw [uvR_uv h, if_neg (by simp; omega)]
  simp
theorem numN_le (ok : Bool) (l : List Nat) (lim : Nat) : (numN ok l lim).1 ≤ lim := by
  unfold numN; split
  · simp
  · rename_i h; simp at h; simp; omega
theorem numN_mem (ok : Bool) (l : List Nat) (lim : Nat) : ∀ x ∈ (numN ok l lim).2.2, x ∈ l := by
  unfold numN; split
  · exact fun x h => h
  · exact fun x h => List.mem_of_mem_drop h
theorem numN_len (ok : Bool) (l : List Nat) (lim : Nat) : (numN ok l lim).2.2.length ≤ l.length := by
  unfold numN; split
  · exact Nat.le_refl _
  · simp
def rb (l : List Nat) (i : Nat) : Nat := l.getD (i / 8) 0 / 2 ^ (7 - i % 8) % 2
theorem rb_lt (l : List Nat) (i : Nat) : rb l i < 2 := Nat.mod_lt _ (by decide)
def bvN (l : List Nat) (a : Nat) : Nat → Nat
  | 0 => 0
  | m + 1 => 2 * bvN l a m + rb l (a + m)
theorem bvN_lt (l : List Nat) (a : Nat) : ∀ m, bvN l a m < 2 ^ m
  | 0 => by simp [bvN]
  | m + 1 => by have := bvN_lt l a m; have := rb_lt l (a + m); rw [bvN, Nat.pow_succ]; omega
theorem or_one {v b : Nat} (hb : b < 2) (hv : v < 2 ^ 63) : v * 2 ^ 1 % 2 ^ 64 ||| b = 2 * v + b := by
  rw [Nat.mod_eq_of_lt (by omega), Nat.or_comm, or_high (k := 1) (by omega)]; omega
theorem byteAt_bit8 : ∀ (b0 b1 b2 b3 b4 b5 b6 b7 : Bool) (j : Fin 8), (bitv b0 128 ||| (bitv b1 64 ||| (bitv b2 32 ||| (bitv b3 16 ||| (bitv b4 8 ||| (bitv b5 4 ||| (bitv b6 2 ||| bitv b7 1))))))) / 2 ^ (7 - j.val) % 2 = ([b0, b1, b2, b3, b4, b5, b6, b7].getD j.val false).toNat := by decide +kernel
theorem byteAt_bit (l : List Bool) (k j : Nat) (hj : j < 8) : byteAt l k / 2 ^ (7 - j) % 2 = (bitAt l (8 * k + j)).toNat := by
  have h := byteAt_bit8 (bitAt l (8 * k)) (bitAt l (8 * k + 1)) (bitAt l (8 * k + 2)) (bitAt l (8 * k + 3)) (bitAt l (8 * k + 4)) (bitAt l (8 * k + 5)) (bitAt l (8 * k + 6)) (bitAt l (8 * k + 7)) ⟨j, hj⟩
  unfold byteAt
  refine h.trans (congrArg Bool.toNat ?_)
  match j, hj with
  | 0, _ => rfl
  | 1, _ => rfl
  | 2, _ => rfl
  | 3, _ => rfl
  | 4, _ => rfl
  | 5, _ => rfl
  | 6, _ => rfl
  | 7, _ => rfl
theorem rb_pack {l : List Bool} {i : Nat} (h : i < l.length) : rb (packB l) i = (bitAt l i).toNat := by
  have hg : (packB l)[i / 8]? = some (byteAt l (i / 8)) := by
    unfold packB; rw [List.getElem?_map, List.getElem?_range (by omega)]; rfl
  have hd : (packB l).getD (i / 8) 0 = byteAt l (i / 8) := by rw [List.getD_eq_getElem?_getD, hg]; rfl
  rw [rb, hd, byteAt_bit l _ _ (Nat.mod_lt _ (by decide))]
  congr 2; omega
theorem lowB_get (x : Nat) : ∀ (m k : Nat), k < m → (lowB x m)[k]? = some (decide (x / 2 ^ (m - 1 - k) % 2 = 1))
  | 0, k, h => by omega
  | m + 1, 0, _ => by simp [lowB]
  | m + 1, k + 1, h => by
    have := lowB_get x m k (by omega)
    rw [lowB, List.getElem?_cons_succ, this, show m + 1 - 1 - (k + 1) = m - 1 - k by omega]
theorem bvN_at (A B : List Bool) (x m : Nat) (hx : x < 2 ^ m) : ∀ k, k ≤ m → bvN (packB (A ++ lowB x m ++ B)) A.length k = x / 2 ^ (m - k)
  | 0, _ => by rw [bvN, Nat.sub_zero, Nat.div_eq_of_lt hx]
  | k + 1, hk => by
    have ih := bvN_at A B x m hx k (by omega)
    have hl : (A ++ lowB x m ++ B).length = A.length + m + B.length := by simp [lowB_length, Nat.add_assoc]
    have hbit : bitAt (A ++ lowB x m ++ B) (A.length + k) = decide (x / 2 ^ (m - 1 - k) % 2 = 1) := by
      rw [bitAt, List.getD_eq_getElem?_getD, List.append_assoc, List.getElem?_append_right (by omega), Nat.add_sub_cancel_left, List.getElem?_append_left (by rw [lowB_length]; omega), lowB_get x m k (by omega)]; rfl
    rw [bvN, ih, rb_pack (by omega), hbit]
    have e : m - k = (m - (k + 1)) + 1 := by omega
    have e2 : m - 1 - k = m - (k + 1) := by omega
    rw [e2, e, Nat.pow_succ, ← Nat.div_div_eq_div_mul]
    generalize x / 2 ^ (m - (k + 1)) = q
    by_cases h : q % 2 = 1
    · rw [decide_eq_true h]; simp; omega
    · rw [decide_eq_false h]; simp; omega
end Go.Kw
namespace Go.Kw
end Go.Kw
namespace Go.Kw
open Go.RowKit
theorem plK_zero (l : List Nat) : plK l 0 = hdP l.length 0 [] ++ pld 0 (pk0 l (nbk l.length)) := by simp [plK, payl]
theorem plK_one (l : List Nat) : plK l 1 = hdP l.length 1 (symL l) ++ pld 1 (pk1 l (nbk l.length)) := by simp [plK, payl]
theorem pk0_get {l : List Nat} {n k : Nat} (h : k < n) : (pk0 l n)[k]? = some (packBk (chk l k), 0) := by simp [pk0, h]
theorem pk1_get {l : List Nat} {n k : Nat} (h : k < n) : (pk1 l n)[k]? = some (packB (hufB (symL l) (chk l k)), (hufB (symL l) (chk l k)).length) := by simp [pk1, h]
theorem pk0_len (l : List Nat) (n : Nat) : (pk0 l n).length = n := by simp [pk0]
theorem pk1_len (l : List Nat) (n : Nat) : (pk1 l n).length = n := by simp [pk1]
theorem pld_len (kind : Nat) : ∀ (ps : List (List Nat × Nat)) (B : Nat), (∀ p ∈ ps, p.1.length ≤ B) → (pld kind ps).length ≤ (10 + B) * ps.length
  | [], B, _ => by simp [pld]
  | p :: r, B, h => by
    have ih := pld_len kind r B fun q hq => h q (by simp [hq])
    have hp := h p (by simp)
    have hu := uv_le (if kind = 0 then p.1.length else p.2)
    have e : pld kind (p :: r) = pld1 kind p ++ pld kind r := rfl
    rw [e, pld1, List.length_append, List.length_append, List.length_cons, Nat.mul_add]
    omega
theorem plK_len {l : List Nat} {k : Nat} (hl : OkN l) (hk : k ≤ 1) : (plK l k).length ≤ 2000000 := by
  have hn := hl.len
  have hnb : nbk l.length ≤ 64 := by unfold nbk; omega
  have hs : (if k = 1 then symL l else []).length ≤ 1024 := by
    split
    · rw [symL_length]; exact hl.mx
    · simp
  have hh := hdP_length l.length k (if k = 1 then symL l else [])
  have hp := pld_len k (if k = 1 then pk1 l (nbk l.length) else pk0 l (nbk l.length)) 20000 fun p hp => by
    split at hp
    · obtain ⟨i, _, rfl⟩ := List.mem_map.1 hp
      have h1 := hufB_length (GoodLens.of_ok (symL_ok l hl.mx)) (chk l i)
      have h2 := chk_length l i
      show (packB _).length ≤ _
      rw [packB_length]; omega
    · obtain ⟨i, _, rfl⟩ := List.mem_map.1 hp
      have h2 := chk_length l i
      have := packBk_len (chk l i) (by omega)
      show (packBk _).length ≤ _
      omega
  have hq : (if k = 1 then pk1 l (nbk l.length) else pk0 l (nbk l.length)).length ≤ 64 := by
    split
    · rw [pk1_len]; exact hnb
    · rw [pk0_len]; exact hnb
  have := Nat.mul_le_mul_left (10 + 20000) hq
  unfold plK payl
  rw [List.length_append]; omega
end Go.Kw
