/-
  M15u: a packed block is read back. No program in sight.
-/
import Derived.Test.YtfhbflhnelbkfaaM02r
namespace Go.Kw
/-- The bytes of the exceptions from number i on; b: 1 plus the number of the last one in front. -/
def exB (w : Nat) : Nat → Nat → List Nat → List Nat
  | _, _, [] => []
  | i, b, x :: r => if 0 < x / 2 ^ w then uv (i + 1 - b) ++ uv (x / 2 ^ w) ++ exB w (i + 1) (i + 1) r else exB w (i + 1) b r
def exC (w : Nat) (l : List Nat) : Nat := l.countP fun x => decide (0 < x / 2 ^ w)
theorem encSt_parts (w : Nat) : ∀ (l : List Nat) (i b : Nat) (bits : List Bool) (ex : List Nat) (c : Nat),
    (l.foldl (encStep w) (i, bits, ex, c, b)).2.1 = bits ++ l.flatMap (fun x => lowB (x % 2 ^ w) w) ∧ (l.foldl (encStep w) (i, bits, ex, c, b)).2.2.1 = ex ++ exB w i b l ∧ (l.foldl (encStep w) (i, bits, ex, c, b)).2.2.2.1 = c + exC w l
  | [], i, b, bits, ex, c => by simp [exB, exC]
  | x :: r, i, b, bits, ex, c => by
    rw [List.foldl_cons]
    by_cases h : 0 < x / 2 ^ w
    · have e : encStep w (i, bits, ex, c, b) x = (i + 1, bits ++ lowB (x % 2 ^ w) w, ex ++ uv (i + 1 - b) ++ uv (x / 2 ^ w), c + 1, i + 1) := if_pos h
      rw [e]
      obtain ⟨h1, h2, h3⟩ := encSt_parts w r (i + 1) (i + 1) (bits ++ lowB (x % 2 ^ w) w) (ex ++ uv (i + 1 - b) ++ uv (x / 2 ^ w)) (c + 1)
      refine ⟨by rw [h1]; simp, by rw [h2, exB, if_pos h]; simp, ?_⟩
      rw [h3, exC, exC, List.countP_cons_of_pos (by simpa using h)]; omega
    · have e : encStep w (i, bits, ex, c, b) x = (i + 1, bits ++ lowB (x % 2 ^ w) w, ex, c, b) := if_neg h
      rw [e]
      obtain ⟨h1, h2, h3⟩ := encSt_parts w r (i + 1) b (bits ++ lowB (x % 2 ^ w) w) ex c
      refine ⟨by rw [h1]; simp, by rw [h2, exB, if_neg h], ?_⟩
      rw [h3, exC, exC, List.countP_cons_of_neg (by simpa using h)]
theorem encBk_eq (w : Nat) (l : List Nat) : encBk w l = uv l.length ++ uv w ++ uv (exC w l) ++ packB (l.flatMap fun x => lowB (x % 2 ^ w) w) ++ exB w 0 0 l := by
  obtain ⟨h1, h2, h3⟩ := encSt_parts w l 0 0 [] [] 0
  unfold encBk encSt
  rw [h1, h2, h3]; simp
/-! ## Reading -/
def exL (w n : Nat) : Nat → Bool → List Nat → Nat → List Nat → Option (List Nat)
  | 0, _, _, _, vs => some vs
  | c + 1, ok, r, a, vs =>
    let g := numN ok r 128
    let h := numN g.2.1 g.2.2 (2147483647 / 2 ^ w)
    if h.2.1 = false ∨ a + g.1 = 0 ∨ n < a + g.1 then none else exL w n c h.2.1 h.2.2 (a + g.1) (vs.set (a + g.1 - 1) (vs.getD (a + g.1 - 1) 0 ||| h.1 * 2 ^ w))
def lowsN (l : List Nat) (n w : Nat) : List Nat := (List.range n).map fun i => bvN l (w * i) w
def unpk (b : List Nat) : Option (List Nat) :=
  let x := numN true b 128
  let y := numN x.2.1 x.2.2 31
  let z := numN y.2.1 y.2.2 128
  let size := (x.1 * y.1 + 7) / 8
  if z.2.1 = false ∨ z.2.2.length < size then none
  else match exL y.1 x.1 z.1 z.2.1 (z.2.2.drop size) 0 (lowsN (z.2.2.take size) x.1 y.1) with
    | none => none
    | some vs => if packBk vs = b then some vs else none
theorem exL_exB (w n : Nat) : ∀ (s p : List Nat) (b : Nat) (rest : List Nat), n = p.length + s.length → n ≤ 128 → b ≤ p.length → (∀ x ∈ s, x ≤ 2147483647) →
    exL w n (exC w s) true (exB w p.length b s ++ rest) b (p ++ s.map (· % 2 ^ w)) = some (p ++ s)
  | [], p, b, rest, _, _, _, _ => by simp [exC, exL]
  | x :: r, p, b, rest, hn, h128, hb, hx => by
    have hx1 := hx x (by simp)
    have hr := fun y hy => hx y (List.mem_cons_of_mem _ hy)
    simp only [List.length_cons] at hn
    by_cases h : 0 < x / 2 ^ w
    · have ih := exL_exB w n r (p ++ [x]) (p.length + 1) rest (by simp; omega) h128 (by simp) hr
      have hg : numN true (uv (p.length + 1 - b) ++ (uv (x / 2 ^ w) ++ (exB w (p.length + 1) (p.length + 1) r ++ rest))) 128 = (p.length + 1 - b, true, uv (x / 2 ^ w) ++ (exB w (p.length + 1) (p.length + 1) r ++ rest)) := numN_uv (by omega) (by omega) _
      have hd := Nat.div_le_self x (2 ^ w)
      have hh : numN true (uv (x / 2 ^ w) ++ (exB w (p.length + 1) (p.length + 1) r ++ rest)) (2147483647 / 2 ^ w) = (x / 2 ^ w, true, exB w (p.length + 1) (p.length + 1) r ++ rest) := numN_uv (by omega) (Nat.div_le_div_right hx1) _
      have hc : exC w (x :: r) = exC w r + 1 := by rw [exC, List.countP_cons_of_pos (by simpa using h)]; rfl
      rw [hc, exL, exB, if_pos h]
      simp only [List.append_assoc]
      rw [hg]
      simp only [hh]
      have ha : b + (p.length + 1 - b) = p.length + 1 := by omega
      rw [ha, if_neg (by simp; omega)]
      have hv : (p ++ (x :: r).map (· % 2 ^ w)).getD (p.length + 1 - 1) 0 = x % 2 ^ w := by simp [List.getD_eq_getElem?_getD]
      have hor : x % 2 ^ w ||| x / 2 ^ w * 2 ^ w = x := by
        rw [or_high (Nat.mod_lt _ (Nat.two_pow_pos w))]
        have := Nat.div_add_mod x (2 ^ w); rw [Nat.mul_comm] at this; omega
      rw [hv, hor]
      have hset : (p ++ (x :: r).map (· % 2 ^ w)).set (p.length + 1 - 1) x = p ++ [x] ++ r.map (· % 2 ^ w) := by simp
      rw [hset]
      simp only [List.length_append, List.length_cons, List.length_nil] at ih
      rw [Nat.zero_add] at ih
      rw [ih]; simp
    · have ih := exL_exB w n r (p ++ [x]) b rest (by simp; omega) h128 (by simp; omega) hr
      have hc : exC w (x :: r) = exC w r := by rw [exC, List.countP_cons_of_neg (by simpa using h)]; rfl
      have hlt : x < 2 ^ w := Classical.byContradiction fun hge => h (Nat.div_pos (by omega) (Nat.two_pow_pos w))
      rw [hc, exB, if_neg h, List.map_cons, Nat.mod_eq_of_lt hlt]
      simp only [List.length_append, List.length_cons, List.length_nil] at ih
      rw [Nat.zero_add] at ih
      rw [show p ++ x :: r.map (· % 2 ^ w) = p ++ [x] ++ r.map (· % 2 ^ w) by simp, ih]; simp
theorem flat_low (w : Nat) : ∀ l : List Nat, (l.flatMap fun x => lowB (x % 2 ^ w) w).length = l.length * w
  | [] => by simp
  | x :: r => by rw [List.flatMap_cons, List.length_append, lowB_length, flat_low w r, List.length_cons, Nat.add_mul]; omega
theorem lowsN_packB (w : Nat) (l : List Nat) : lowsN (packB (l.flatMap fun x => lowB (x % 2 ^ w) w)) l.length w = l.map (· % 2 ^ w) := by
  apply List.ext_getElem?
  intro i
  unfold lowsN
  rw [List.getElem?_map, List.getElem?_map]
  rcases Nat.lt_or_ge i l.length with h | h
  · rw [List.getElem?_range h, List.getElem?_eq_getElem h]
    have hcat : l = l.take i ++ [l[i]] ++ l.drop (i + 1) := by simp
    have hb : (l.flatMap fun x => lowB (x % 2 ^ w) w) = (l.take i).flatMap (fun x => lowB (x % 2 ^ w) w) ++ lowB (l[i] % 2 ^ w) w ++ (l.drop (i + 1)).flatMap (fun x => lowB (x % 2 ^ w) w) := by
      conv => lhs; rw [hcat]
      rw [List.flatMap_append, List.flatMap_append, List.flatMap_cons, List.flatMap_nil, List.append_nil]
    have ha : ((l.take i).flatMap fun x => lowB (x % 2 ^ w) w).length = w * i := by rw [flat_low, List.length_take, Nat.min_eq_left (by omega), Nat.mul_comm]
    have := bvN_at ((l.take i).flatMap fun x => lowB (x % 2 ^ w) w) ((l.drop (i + 1)).flatMap fun x => lowB (x % 2 ^ w) w) (l[i] % 2 ^ w) w (Nat.mod_lt _ (Nat.two_pow_pos w)) w (Nat.le_refl _)
    rw [ha] at this
    rw [hb, Option.map_some, this]; simp
  · rw [List.getElem?_eq_none (by simpa using h), List.getElem?_eq_none h]; rfl
theorem unpk_pack {l : List Nat} (hn : l.length ≤ 128) (hx : ∀ x ∈ l, x ≤ 2147483647) : unpk (packBk l) = some l := by
  have hb := bestW_le l 32
  have he : packBk l = uv l.length ++ (uv (bestW l 32) ++ (uv (exC (bestW l 32) l) ++ (packB (l.flatMap fun x => lowB (x % 2 ^ bestW l 32) (bestW l 32)) ++ exB (bestW l 32) 0 0 l))) := by
    unfold packBk; rw [encBk_eq]; simp
  have hc : exC (bestW l 32) l ≤ l.length := List.countP_le_length
  generalize bestW l 32 = w at hb he hc
  have h1 : numN true (packBk l) 128 = (l.length, true, uv w ++ (uv (exC w l) ++ (packB (l.flatMap fun x => lowB (x % 2 ^ w) w) ++ exB w 0 0 l))) := by rw [he]; exact numN_uv (by omega) hn _
  have h2 : numN true (uv w ++ (uv (exC w l) ++ (packB (l.flatMap fun x => lowB (x % 2 ^ w) w) ++ exB w 0 0 l))) 31 = (w, true, uv (exC w l) ++ (packB (l.flatMap fun x => lowB (x % 2 ^ w) w) ++ exB w 0 0 l)) := numN_uv (by omega) (by omega) _
  have h3 : numN true (uv (exC w l) ++ (packB (l.flatMap fun x => lowB (x % 2 ^ w) w) ++ exB w 0 0 l)) 128 = (exC w l, true, packB (l.flatMap fun x => lowB (x % 2 ^ w) w) ++ exB w 0 0 l) := numN_uv (by omega) (by omega) _
  have hsz : (packB (l.flatMap fun x => lowB (x % 2 ^ w) w)).length = (l.length * w + 7) / 8 := by rw [packB_length, flat_low]
  unfold unpk
  simp only [h1, h2, h3]
  rw [if_neg (by simp [hsz]), ← hsz, List.take_left, List.drop_left, lowsN_packB]
  have := exL_exB w l.length l [] 0 [] (by simp) hn (Nat.le_refl _) hx
  simp only [List.length_nil, List.append_nil, List.nil_append] at this
  rw [this]
  simp
/-- What is read is what was packed. -/
theorem unpk_some {b l : List Nat} (h : unpk b = some l) : packBk l = b := by
  unfold unpk at h
  simp only at h
  split at h
  · cases h
  · split at h
    · cases h
    · split at h
      · cases h; assumption
      · cases h
end Go.Kw
