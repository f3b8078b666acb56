/-
  M15u: a packed block is read back. No program in sight.
-/
import Derived.Test.YtecfgjdpghddgaaGreatM14d
set_option linter.unusedVariables false
set_option linter.unusedSimpArgs false
set_option linter.unusedSectionVars false
namespace Go.Kw
def exB (w : Nat) : Nat → Nat → List Nat → List Nat
  | _, _, [] => []
  | i, b, x :: r => if 0 < x / 2 ^ w then uv (i + 1 - b) ++ uv (x / 2 ^ w) ++ exB w (i + 1) (i + 1) r else exB w (i + 1) b r
def exC (w : Nat) (l : List Nat) : Nat := l.countP fun x => decide (0 < x / 2 ^ w)
theorem encSt_parts (w : Nat) : ∀ (l : List Nat) (i b : Nat) (bits : List Bool) (ex : List Nat) (c : Nat),
    (l.foldl (encStep w) (i, bits, ex, c, b)).2.1 = bits ++ l.flatMap (fun x => lowB (x % 2 ^ w) w) ∧ (l.foldl (encStep w) (i, bits, ex, c, b)).2.2.1 = ex ++ exB w i b l ∧ (l.foldl (encStep w) (i, bits, ex, c, b)).2.2.2.1 = c + exC w l
  | [], i, b, bits, ex, c => by simp [exB, exC]
  | x :: r, i, b, bits, ex, c => by
    rw [List.foldl_cons]
    by_cases h : 0 < x / 2 ^ w
    · have e : encStep w (i, bits, ex, c, b) x = (i + 1, bits ++ lowB (x % 2 ^ w) w, ex ++ uv (i + 1 - b) ++ uv (x / 2 ^ w), c + 1, i + 1) := if_pos h
      rw [e]
      obtain ⟨h1, h2, h3⟩ := encSt_parts w r (i + 1) (i + 1) (bits ++ lowB (x % 2 ^ w) w) (ex ++ uv (i + 1 - b) ++ uv (x / 2 ^ w)) (c + 1)
      refine ⟨by rw [h1]; simp, by rw [h2, exB, if_pos h]; simp, ?_⟩
      rw [h3, exC, exC, List.countP_cons_of_pos (by simpa using h)]; omega
    · have e : encStep w (i, bits, ex, c, b) x = (i + 1, bits ++ lowB (x % 2 ^ w) w, ex, c, b) := if_neg h
      rw [e]
      obtain ⟨h1, h2, h3⟩ := encSt_parts w r (i + 1) b (bits ++ lowB (x % 2 ^ w) w) ex c
      refine ⟨by rw [h1]; simp, by rw [h2, exB, if_neg h], ?_⟩
      rw [h3, exC, exC, List.countP_cons_of_neg (by simpa using h)]
theorem encBk_eq (w : Nat) (l : List Nat) : encBk w l = uv l.length ++ uv w ++ uv (exC w l) ++ packB (l.flatMap fun x => lowB (x % 2 ^ w) w) ++ exB w 0 0 l := by
  obtain ⟨h1, h2, h3⟩ := encSt_parts w l 0 0 [] [] 0
  unfold encBk encSt
  rw [h1, h2, h3]; simp
def exL (w n : Nat) : Nat → Bool → List Nat → Nat → List Nat → Option (List Nat)
  | 0, _, _, _, vs => some vs
  | c + 1, ok, r, a, vs =>
    let g := numN ok r 128
    let h := numN g.2.1 g.2.2 (2147483647 / 2 ^ w)
    if h.2.1 = false ∨ a + g.1 = 0 ∨ n < a + g.1 then none else exL w n c h.2.1 h.2.2 (a + g.1) (vs.set (a + g.1 - 1) (vs.getD (a + g.1 - 1) 0 ||| h.1 * 2 ^ w))
def lowsN (l : List Nat) (n w : Nat) : List Nat := (List.range n).map fun i => bvN l (w * i) w
def unpk (b : List Nat) : Option (List Nat) :=
  let x := numN true b 128
  let y := numN x.2.1 x.2.2 31
  let z := numN y.2.1 y.2.2 128
  let size := (x.1 * y.1 + 7) / 8
  if z.2.1 = false ∨ z.2.2.length < size then none
  else match exL y.1 x.1 z.1 z.2.1 (z.2.2.drop size) 0 (lowsN (z.2.2.take size) x.1 y.1) with
    | none => none
    | some vs => if packBk vs = b then some vs else none
theorem exL_exB (w n : Nat) : ∀ (s p : List Nat) (b : Nat) (rest : List Nat), n = p.length + s.length → n ≤ 128 → b ≤ p.length → (∀ x ∈ s, x ≤ 2147483647) →
    exL w n (exC w s) true (exB w p.length b s ++ rest) b (p ++ s.map (· % 2 ^ w)) = some (p ++ s)
  | [], p, b, rest, _, _, _, _ => by simp [exC, exL]
  | x :: r, p, b, rest, hn, h128, hb, hx => by
    have hx1 := hx x (by simp)
    have hr := fun y hy => hx y (List.mem_cons_of_mem _ hy)
    simp only [List.length_cons] at hn
    by_cases h : 0 < x / 2 ^ w
    · have ih := exL_exB w n r (p ++ [x]) (p.length + 1) rest (by simp; omega) h128 (by simp) hr
      have hg : numN true (uv (p.length + 1 - b) ++ (uv (x / 2 ^ w) ++ (exB w (p.length + 1) (p.length + 1) r ++ rest))) 128 = (p.length + 1 - b, true, uv (x / 2 ^ w) ++ (exB w (p.length + 1) (p.length + 1) r ++ rest)) := numN_uv (by omega) (by omega) _
      have hd := Nat.div_le_self x (2 ^ w)
      have hh : numN true (uv (x / 2 ^ w) ++ (exB w (p.length + 1) (p.length + 1) r ++ rest)) (2147483647 / 2 ^ w) = (x / 2 ^ w, true, exB w (p.length + 1) (p.length + 1) r ++ rest) := numN_uv (by omega) (Nat.div_le_div_right hx1) _
      have hc : exC w (x :: r) = exC w r + 1 := by rw [exC, List.countP_cons_of_pos (by simpa using h)]; rfl
      rw [hc, exL, exB, if_pos h]
      simp only [List.append_assoc]
      rw [hg]
      simp only [hh]
      have ha : b + (p.length + 1 - b) = p.length + 1 := by omega
      rw [ha, if_neg (by simp; omega)]
      have hv : (p ++ (x :: r).map (· % 2 ^ w)).getD (p.length + 1 - 1) 0 = x % 2 ^ w := by simp [List.getD_eq_getElem?_getD]
      have hor : x % 2 ^ w ||| x / 2 ^ w * 2 ^ w = x := by
        rw [or_high (Nat.mod_lt _ (Nat.two_pow_pos w))]
        have := Nat.div_add_mod x (2 ^ w); rw [Nat.mul_comm] at this; omega
      rw [hv, hor]
      have hset : (p ++ (x :: r).map (· % 2 ^ w)).set (p.length + 1 - 1) x = p ++ [x] ++ r.map (· % 2 ^ w) := by simp
      rw [hset]
      simp only [List.length_append, List.length_cons, List.length_nil] at ih
      rw [Nat.zero_add] at ih
      rw [ih]; simp
    · have ih := exL_exB w n r (p ++ [x]) b rest (by simp; omega) h128 (by simp; omega) hr
      have hc : exC w (x :: r) = exC w r := by rw [exC, List.countP_cons_of_neg (by simpa using h)]; rfl
      have hlt : x < 2 ^ w := Classical.byContradiction fun hge => h (Nat.div_pos (by omega) (Nat.two_pow_pos w))
      rw [hc, exB, if_neg h, List.map_cons, Nat.mod_eq_of_lt hlt]
      simp only [List.length_append, List.length_cons, List.length_nil] at ih
      rw [Nat.zero_add] at ih
      rw [show p ++ x :: r.map (· % 2 ^ w) = p ++ [x] ++ r.map (· % 2 ^ w) by simp, ih]; simp
theorem flat_low (w : Nat) : ∀ l : List Nat, (l.flatMap fun x => lowB (x % 2 ^ w) w).length = l.length * w
  | [] => by simp
  | x :: r => by rw [List.flatMap_cons, List.length_append, lowB_length, flat_low w r, List.length_cons, Nat.add_mul]; omega
theorem lowsN_packB (w : Nat) (l : List Nat) : lowsN (packB (l.flatMap fun x => lowB (x % 2 ^ w) w)) l.length w = l.map (· % 2 ^ w) := by
  apply List.ext_getElem?
  intro i
  unfold lowsN
  rw [List.getElem?_map, List.getElem?_map]
  rcases Nat.lt_or_ge i l.length with h | h
  · rw [List.getElem?_range h, List.getElem?_eq_getElem h]
    have hcat : l = l.take i ++ [l[i]] ++ l.drop (i + 1) := by simp
    have hb : (l.flatMap fun x => lowB (x % 2 ^ w) w) = (l.take i).flatMap (fun x => lowB (x % 2 ^ w) w) ++ lowB (l[i] % 2 ^ w) w ++ (l.drop (i + 1)).flatMap (fun x => lowB (x % 2 ^ w) w) := by
      conv => lhs; rw [hcat]
      rw [List.flatMap_append, List.flatMap_append, List.flatMap_cons, List.flatMap_nil, List.append_nil]
    have ha : ((l.take i).flatMap fun x => lowB (x % 2 ^ w) w).length = w * i := by rw [flat_low, List.length_take, Nat.min_eq_left (by omega), Nat.mul_comm]
    have := bvN_at ((l.take i).flatMap fun x => lowB (x % 2 ^ w) w) ((l.drop (i + 1)).flatMap fun x => lowB (x % 2 ^ w) w) (l[i] % 2 ^ w) w (Nat.mod_lt _ (Nat.two_pow_pos w)) w (Nat.le_refl _)
    rw [ha] at this
    rw [hb, Option.map_some, this]; simp
  · rw [List.getElem?_eq_none (by simpa using h), List.getElem?_eq_none h]; rfl
theorem unpk_pack {l : List Nat} (hn : l.length ≤ 128) (hx : ∀ x ∈ l, x ≤ 2147483647) : unpk (packBk l) = some l := by
  have hb := bestW_le l 32
  have he : packBk l = uv l.length ++ (uv (bestW l 32) ++ (uv (exC (bestW l 32) l) ++ (packB (l.flatMap fun x => lowB (x % 2 ^ bestW l 32) (bestW l 32)) ++ exB (bestW l 32) 0 0 l))) := by
    unfold packBk; rw [encBk_eq]; simp
  have hc : exC (bestW l 32) l ≤ l.length := List.countP_le_length
  generalize bestW l 32 = w at hb he hc
  have h1 : numN true (packBk l) 128 = (l.length, true, uv w ++ (uv (exC w l) ++ (packB (l.flatMap fun x => lowB (x % 2 ^ w) w) ++ exB w 0 0 l))) := by rw [he]; exact numN_uv (by omega) hn _
  have h2 : numN true (uv w ++ (uv (exC w l) ++ (packB (l.flatMap fun x => lowB (x % 2 ^ w) w) ++ exB w 0 0 l))) 31 = (w, true, uv (exC w l) ++ (packB (l.flatMap fun x => lowB (x % 2 ^ w) w) ++ exB w 0 0 l)) := numN_uv (by omega) (by omega) _
  have h3 : numN true (uv (exC w l) ++ (packB (l.flatMap fun x => lowB (x % 2 ^ w) w) ++ exB w 0 0 l)) 128 = (exC w l, true, packB (l.flatMap fun x => lowB (x % 2 ^ w) w) ++ exB w 0 0 l) := numN_uv (by omega) (by omega) _
  have hsz : (packB (l.flatMap fun x => lowB (x % 2 ^ w) w)).length = (l.length * w + 7) / 8 := by rw [packB_length, flat_low]
  unfold unpk
  simp only [h1, h2, h3]
  rw [if_neg (by simp [hsz]), ← hsz, List.take_left, List.drop_left, lowsN_packB]
  have := exL_exB w l.length l [] 0 [] (by simp) hn (Nat.le_refl _) hx
  simp only [List.length_nil, List.append_nil, List.nil_append] at this
  rw [this]
  simp
end Go.Kw
namespace Go.Kw
def uX (b : List Nat) : Nat × Bool × List Nat := numN true b 128
def uY (b : List Nat) : Nat × Bool × List Nat := numN (uX b).2.1 (uX b).2.2 31
def uZ (b : List Nat) : Nat × Bool × List Nat := numN (uY b).2.1 (uY b).2.2 128
def uS (b : List Nat) : Nat := ((uX b).1 * (uY b).1 + 7) / 8
def uE (b : List Nat) : Option (List Nat) := exL (uY b).1 (uX b).1 (uZ b).1 (uZ b).2.1 ((uZ b).2.2.drop (uS b)) 0 (lowsN ((uZ b).2.2.take (uS b)) (uX b).1 (uY b).1)
theorem unpk_eq (b : List Nat) : unpk b = if (uZ b).2.1 = false ∨ (uZ b).2.2.length < uS b then none else match uE b with | none => none | some vs => if packBk vs = b then some vs else none := rfl
theorem unpk_no1 {b : List Nat} (h : (uZ b).2.1 = false ∨ (uZ b).2.2.length < uS b) : unpk b = none := by rw [unpk_eq, if_pos h]
theorem unpk_no2 {b : List Nat} (h : uE b = none) : unpk b = none := by rw [unpk_eq, h]; split <;> rfl
theorem unpk_fin {b vs : List Nat} (h1 : ¬ ((uZ b).2.1 = false ∨ (uZ b).2.2.length < uS b)) (h : uE b = some vs) : unpk b = if packBk vs = b then some vs else none := by rw [unpk_eq, if_neg h1, h]
theorem uX_le (b : List Nat) : (uX b).1 ≤ 128 := numN_le _ _ _
theorem uY_le (b : List Nat) : (uY b).1 ≤ 31 := numN_le _ _ _
theorem uZ_le (b : List Nat) : (uZ b).1 ≤ 128 := numN_le _ _ _
theorem uXY_le (b : List Nat) : (uX b).1 * (uY b).1 ≤ 128 * 31 := Nat.mul_le_mul (uX_le b) (uY_le b)
theorem uZ_mem (b : List Nat) : ∀ x ∈ (uZ b).2.2, x ∈ b := fun x hx => numN_mem _ _ _ x (numN_mem _ _ _ x (numN_mem _ _ _ x hx))
theorem uX_mem (b : List Nat) : ∀ x ∈ (uX b).2.2, x ∈ b := fun x hx => numN_mem _ _ _ x hx
theorem uY_mem (b : List Nat) : ∀ x ∈ (uY b).2.2, x ∈ b := fun x hx => uX_mem b x (numN_mem _ _ _ x hx)
theorem uX_len (b : List Nat) : (uX b).2.2.length ≤ b.length := numN_len _ _ _
theorem uY_len (b : List Nat) : (uY b).2.2.length ≤ b.length := Nat.le_trans (numN_len _ _ _) (uX_len b)
theorem uZ_len (b : List Nat) : (uZ b).2.2.length ≤ b.length := Nat.le_trans (numN_len _ _ _) (uY_len b)
def lowU (l : List Nat) (n w k : Nat) : List Nat := (List.range k).map (fun i => bvN l (w * i) w) ++ List.replicate (n - k) 0
theorem lowU_zero (l : List Nat) (n w : Nat) : lowU l n w 0 = List.replicate n 0 := by simp [lowU]
theorem lowU_length {l : List Nat} {n w k : Nat} (h : k ≤ n) : (lowU l n w k).length = n := by simp [lowU]; omega
theorem lowU_all (l : List Nat) (n w : Nat) : lowU l n w n = lowsN l n w := by simp [lowU, lowsN]
theorem lowU_set {l : List Nat} {n w k : Nat} (h : k < n) : (lowU l n w k).set k (bvN l (w * k) w) = lowU l n w (k + 1) := by
  unfold lowU
  rw [List.set_append_right _ _ (by simp), show n - k = (n - (k + 1)) + 1 by omega, List.replicate_succ, List.range_succ]
  simp
theorem lowsN_lt (l : List Nat) (n w : Nat) (hw : w ≤ 31) : ∀ x ∈ lowsN l n w, x ≤ 2147483647 := fun x hx => by
  obtain ⟨i, _, rfl⟩ := List.mem_map.1 hx
  have h1 := bvN_lt l (w * i) w
  have h2 : 2 ^ w ≤ 2 ^ 31 := Nat.pow_le_pow_right (by decide) hw
  omega
theorem lowsN_length (l : List Nat) (n w : Nat) : (lowsN l n w).length = n := by simp [lowsN]
theorem or_le31 {a b : Nat} (ha : a ≤ 2147483647) (hb : b ≤ 2147483647) : a ||| b ≤ 2147483647 := by
  have := Nat.or_lt_two_pow (n := 31) (x := a) (y := b) (by omega) (by omega); omega
theorem high_le {h w : Nat} (hh : h ≤ 2147483647 / 2 ^ w) : h * 2 ^ w ≤ 2147483647 := Nat.le_trans (Nat.mul_le_mul_right _ hh) (Nat.div_mul_le_self _ _)
end Go.Kw
namespace Go.Kw
def tStep (l : List Nat) (s : List Nat × List (List Nat) × Nat) (x : Nat) : List Nat × List (List Nat) × Nat :=
  (if (s.2.1.getD (lenKey l x) []).length = 0 then s.1.set (lenKey l x) (cdOf l x) else s.1, s.2.1.set (lenKey l x) (s.2.1.getD (lenKey l x) [] ++ [x]), lenKey l x)
def tabN (l ord : List Nat) : List Nat × List (List Nat) × Nat := ord.foldl (tStep l) (List.replicate 16 0, List.replicate 16 [], 0)
theorem tabN_snoc (l ord : List Nat) (x : Nat) : tabN l (ord ++ [x]) = tStep l (tabN l ord) x := by simp [tabN]
theorem getD_set {α : Type} {l : List α} {d v : α} {i j : Nat} (h : i < l.length) : (l.set i v).getD j d = if i = j then v else l.getD j d := by
  simp only [List.getD_eq_getElem?_getD, List.getElem?_set]
  by_cases hij : i = j
  · simp [hij, hij ▸ h]
  · simp [hij]
def hdCode (l : List Nat) : List Nat → Nat
  | [] => 0
  | x :: _ => cdOf l x
theorem hdCode_append (l : List Nat) {a : List Nat} (b : List Nat) (h : a ≠ []) : hdCode l (a ++ b) = hdCode l a := by
  cases a with
  | nil => exact absurd rfl h
  | cons y r => rfl
theorem tabN_spec (l : List Nat) (h : ∀ i, lenKey l i ≤ 15) : ∀ ord : List Nat, (tabN l ord).1.length = 16 ∧ (tabN l ord).2.1.length = 16 ∧
    (∀ n, n < 16 → (tabN l ord).2.1.getD n [] = ord.filter (fun x => lenKey l x == n) ∧ (tabN l ord).1.getD n 0 = hdCode l (ord.filter fun x => lenKey l x == n)) ∧ (tabN l ord).2.2 ≤ 15 := by
  refine snocInd ⟨by simp [tabN], by simp [tabN], fun n hn => ?_, by simp [tabN]⟩ fun ord x ih => ?_
  · have e1 : (tabN l []).2.1.getD n [] = [] := by simp only [tabN, List.foldl_nil, List.getD_eq_getElem?_getD, List.getElem?_replicate]; rw [if_pos hn]; rfl
    have e2 : (tabN l []).1.getD n 0 = 0 := by simp only [tabN, List.foldl_nil]; exact replicate_getD ..
    exact ⟨e1, e2⟩
  · obtain ⟨h1, h2, h3, h4⟩ := ih
    have hx := h x
    rw [tabN_snoc]
    unfold tStep
    refine ⟨by simp only; split <;> simp [h1], by simp [h2], fun n hn => ?_, h x⟩
    obtain ⟨g1, g2⟩ := h3 n hn
    obtain ⟨k1, k2⟩ := h3 (lenKey l x) (by omega)
    simp only
    rw [getD_set (by omega), List.filter_append]
    by_cases he : lenKey l x = n
    · subst he
      have e3 : [x].filter (fun z => lenKey l z == lenKey l x) = [x] := by simp
      rw [if_pos rfl, e3, k1]
      refine ⟨rfl, ?_⟩
      by_cases h0 : (ord.filter fun z => lenKey l z == lenKey l x) = []
      · rw [h0, if_pos (by rfl), getD_set_eq (by omega)]; rfl
      · have hl0 : ¬ (ord.filter fun z => lenKey l z == lenKey l x).length = 0 := fun h' => h0 (List.eq_nil_of_length_eq_zero h')
        rw [if_neg hl0, k2, hdCode_append l _ h0]
    · have e3 : [x].filter (fun z => lenKey l z == n) = [] := by simp [he]
      rw [if_neg he, e3, List.append_nil]
      refine ⟨g1, ?_⟩
      split
      · rw [getD_set_ne' he]; exact g2
      · exact g2
theorem tabN_long (l : List Nat) : ∀ ord : List Nat, Srt (lenKey l) ord → ∀ x ∈ ord, lenKey l x ≤ (tabN l ord).2.2 := by
  refine snocInd (fun _ x h => by cases h) fun ord y _ hs x hx => ?_
  rw [tabN_snoc]
  show lenKey l x ≤ lenKey l y
  rcases List.mem_append.1 hx with hx | hx
  · exact (Srt.append.1 hs).2.2 x hx y (by simp)
  · simp at hx; subst hx; exact Nat.le_refl _
def T14 (l : List Nat) : List Nat × List (List Nat) × Nat := tabN l (inOrd l)
theorem T14_S {l : List Nat} (h : GoodLens l) {n : Nat} (hn : n < 16) : (T14 l).2.1.getD n [] = grp l n := ((tabN_spec l h.le (inOrd l)).2.2.1 n hn).1
theorem T14_F {l : List Nat} (h : GoodLens l) {n : Nat} (hn : n < 16) : (T14 l).1.getD n 0 = fstC l n := by
  rw [T14, ((tabN_spec l h.le (inOrd l)).2.2.1 n hn).2]
  show hdCode l (grp l n) = fstC l n
  unfold fstC hdCode
  cases grp l n <;> rfl
theorem T14_long {l : List Nat} {x : Nat} (hx : 0 < lenKey l x) : lenKey l x ≤ (T14 l).2.2 := tabN_long l _ (ssort_srt _) x (inOrd_mem_iff l x hx)
theorem T14_le {l : List Nat} (h : GoodLens l) : (T14 l).2.2 ≤ 15 := (tabN_spec l h.le (inOrd l)).2.2.2
def begC (F : List Nat) (S : List (List Nat)) (v n k : Nat) : Bool :=
  decide (0 < (S.getD k []).length) && decide (v ≤ (F.getD k 0 + (S.getD k []).length - 1) / 2 ^ (k - n)) && decide (F.getD k 0 / 2 ^ (k - n) ≤ v)
def begF (F : List Nat) (S : List (List Nat)) (lo v n : Nat) : Bool := (List.range' n (lo + 1 - n)).any (begC F S v n)
theorem begF_true {F : List Nat} {S : List (List Nat)} {lo v n k : Nat} (h1 : n ≤ k) (h2 : k ≤ lo) (h : begC F S v n k = true) : begF F S lo v n = true := by
  unfold begF
  rw [List.any_eq_true]
  exact ⟨k, by rw [List.mem_range'_1]; omega, h⟩
theorem begF_false {F : List Nat} {S : List (List Nat)} {lo v n : Nat} (h : ∀ k, n ≤ k → k ≤ lo → begC F S v n k = false) : begF F S lo v n = false := by
  unfold begF
  rw [List.any_eq_false]
  intro k hk
  rw [List.mem_range'_1] at hk
  simp [h k (by omega) (by omega)]
theorem begF_le {F : List Nat} {S : List (List Nat)} {lo v n : Nat} (h : begF F S lo v n = true) : n ≤ lo := by
  unfold begF at h
  rw [List.any_eq_true] at h
  obtain ⟨k, hk, _⟩ := h
  rw [List.mem_range'_1] at hk; omega
def symF (F : List Nat) (S : List (List Nat)) (lo : Nat) (l : List Nat) (N : Nat) : Nat → Nat → Nat → Nat → Nat × Nat × Nat
  | 0, _, _, pos => (0, 9, pos)
  | f + 1, n, v, pos =>
    if N < pos + 1 then (0, 10, pos)
    else if begF F S lo (2 * v + rb l pos) n = false then (0, 9, pos + 1)
    else if F.getD n 0 ≤ 2 * v + rb l pos ∧ 2 * v + rb l pos - F.getD n 0 < (S.getD n []).length then ((S.getD n []).getD (2 * v + rb l pos - F.getD n 0) 0, 0, pos + 1)
    else symF F S lo l N f (n + 1) (2 * v + rb l pos) (pos + 1)
theorem symF_ok {l : List Nat} (h : GoodLens l) {x : Nat} (hx : 0 < lenKey l x) (A B : List Bool) : ∀ (f n : Nat), f + n = 17 → 1 ≤ n → n ≤ lenKey l x →
    symF (T14 l).1 (T14 l).2.1 (T14 l).2.2 (packB (A ++ lowB (cdOf l x) (lenKey l x) ++ B)) (A ++ lowB (cdOf l x) (lenKey l x) ++ B).length f n (bvN (packB (A ++ lowB (cdOf l x) (lenKey l x) ++ B)) A.length (n - 1)) (A.length + (n - 1)) = (x, 0, A.length + lenKey l x)
  | 0, n, hf, h1, hn => by have := h.le x; omega
  | f + 1, n, hf, h1, hn => by
    have hL := h.le x
    obtain ⟨_, hcode⟩ := code_of h hx
    obtain ⟨m, hm⟩ := grp_of hx
    have hml := (List.getElem?_eq_some_iff.1 hm).1
    have hfst := fst_code h hm
    have hlen : (A ++ lowB (cdOf l x) (lenKey l x) ++ B).length = A.length + lenKey l x + B.length := by simp [lowB_length, Nat.add_assoc]
    have hv : 2 * bvN (packB (A ++ lowB (cdOf l x) (lenKey l x) ++ B)) A.length (n - 1) + rb (packB (A ++ lowB (cdOf l x) (lenKey l x) ++ B)) (A.length + (n - 1)) = cdOf l x / 2 ^ (lenKey l x - n) := by
      have e := bvN_at A B (cdOf l x) (lenKey l x) hcode n hn
      rw [← e]
      conv => rhs; rw [show n = (n - 1) + 1 by omega, bvN]
    have hbvn : bvN (packB (A ++ lowB (cdOf l x) (lenKey l x) ++ B)) A.length n = cdOf l x / 2 ^ (lenKey l x - n) := bvN_at A B (cdOf l x) (lenKey l x) hcode n hn
    rw [symF, hv, if_neg (by omega)]
    have hbeg : begF (T14 l).1 (T14 l).2.1 (T14 l).2.2 (cdOf l x / 2 ^ (lenKey l x - n)) n = true := by
      refine begF_true hn (T14_long hx) ?_
      unfold begC
      rw [T14_S h (by omega), T14_F h (by omega)]
      simp only [Bool.and_eq_true, decide_eq_true_eq]
      exact ⟨⟨by omega, Nat.div_le_div_right (by omega)⟩, Nat.div_le_div_right (by omega)⟩
    rw [if_neg (by rw [hbeg]; simp), T14_S h (by omega), T14_F h (by omega)]
    rcases Nat.lt_or_ge n (lenKey l x) with hlt | hge
    · rw [if_neg]
      · have ih := symF_ok h hx A B f (n + 1) (by omega) (by omega) (by omega)
        rw [Nat.add_sub_cancel, hbvn] at ih
        rw [show A.length + (n - 1) + 1 = A.length + n by omega]
        exact ih
      · rintro ⟨ha, hb⟩
        have hy : (grp l n)[cdOf l x / 2 ^ (lenKey l x - n) - fstC l n]? = some (grp l n)[cdOf l x / 2 ^ (lenKey l x - n) - fstC l n] := List.getElem?_eq_getElem hb
        have h5 := fst_code h hy
        exact code_free h hx hlt hy (by omega)
    · have hne : n = lenKey l x := by omega
      have e0 : cdOf l x / 2 ^ (lenKey l x - n) = cdOf l x := by rw [hne, Nat.sub_self]; simp
      rw [e0, hne] at *
      rw [if_pos ⟨by omega, by omega⟩]
      have e1 : cdOf l x - fstC l (lenKey l x) = m := by omega
      have e2 : (grp l (lenKey l x)).getD m 0 = x := getD_some hm
      rw [e1, e2]
      simp only [Prod.mk.injEq, true_and]
      omega
def decF (F : List Nat) (S : List (List Nat)) (lo : Nat) (l : List Nat) (N : Nat) : Nat → Nat → List Nat → Option (List Nat × Nat)
  | 0, pos, acc => some (acc, pos)
  | c + 1, pos, acc => if (symF F S lo l N 16 1 0 pos).2.1 ≠ 0 then none else decF F S lo l N c (symF F S lo l N 16 1 0 pos).2.2 (acc ++ [(symF F S lo l N 16 1 0 pos).1])
theorem decF_ok {l : List Nat} (h : GoodLens l) : ∀ (s : List Nat) (A : List Bool) (acc : List Nat) (bits : List Bool), (∀ x ∈ s, 0 < lenKey l x) → bits = A ++ hufB l s →
    decF (T14 l).1 (T14 l).2.1 (T14 l).2.2 (packB bits) bits.length s.length A.length acc = some (acc ++ s, bits.length)
  | [], A, acc, bits, _, hb => by subst hb; simp [decF, hufB]
  | x :: r, A, acc, bits, hs, hb => by
    have hx := hs x (by simp)
    have hb2 : bits = A ++ lowB (cdOf l x) (lenKey l x) ++ hufB l r := by rw [hb]; simp [hufB]
    have h1 := symF_ok h hx A (hufB l r) 16 1 rfl (Nat.le_refl _) hx
    rw [← hb2, Nat.sub_self, bvN, Nat.add_zero] at h1
    have ih := decF_ok h r (A ++ lowB (cdOf l x) (lenKey l x)) (acc ++ [x]) bits (fun y hy => hs y (List.mem_cons_of_mem _ hy)) hb2
    rw [List.length_cons, decF, h1]
    simp only [ne_eq, not_true, if_false]
    rw [List.length_append, lowB_length] at ih
    rw [ih]; simp
def hdec (l b : List Nat) (bits count : Nat) : Option (List Nat) :=
  match decF (T14 l).1 (T14 l).2.1 (T14 l).2.2 (b.take ((bits + 7) / 8)) bits count 0 [] with
  | none => none
  | some p => if p.2 = bits then some p.1 else none
theorem hdec_ok {l : List Nat} (h : GoodLens l) (s : List Nat) (hs : ∀ x ∈ s, 0 < lenKey l x) : hdec l (packB (hufB l s)) (hufB l s).length s.length = some s := by
  have := decF_ok h s [] [] (hufB l s) hs (by simp)
  unfold hdec
  rw [List.take_of_length_le (by rw [packB_length]; exact Nat.le_refl _)]
  rw [List.length_nil, List.nil_append] at this
  rw [this]; simp
theorem symF_pos (F : List Nat) (S : List (List Nat)) (lo : Nat) (l : List Nat) (N : Nat) : ∀ f n v pos, pos ≤ N → (symF F S lo l N f n v pos).2.2 ≤ N
  | 0, _, _, _, h => h
  | f + 1, n, v, pos, h => by
    rw [symF]
    split
    · exact h
    · split
      · show pos + 1 ≤ N; omega
      · split
        · show pos + 1 ≤ N; omega
        · exact symF_pos F S lo l N f _ _ _ (by omega)
theorem getD_mem {α : Type} {l : List α} {x d : α} (h : x ∈ l) : ∃ n, n < l.length ∧ l.getD n d = x := by
  obtain ⟨n, hn, rfl⟩ := List.mem_iff_getElem.1 h
  exact ⟨n, hn, by simp [List.getD_eq_getElem?_getD, hn]⟩
theorem T14_Fb {l : List Nat} (h : GoodLens l) : ∀ x ∈ (T14 l).1, x < 2 ^ 15 := fun x hx => by
  have hs := tabN_spec l h.le (inOrd l)
  obtain ⟨n, hn, rfl⟩ := getD_mem (d := 0) hx
  have hn16 : n < 16 := by have := hs.1; unfold T14 at hn; omega
  rw [T14_F h hn16]
  cases hg : grp l n with
  | nil => unfold fstC; rw [hg]; exact Nat.two_pow_pos 15
  | cons y r =>
    have hy : (grp l n)[0]? = some y := by rw [hg]; rfl
    have h1 := fst_code h hy
    obtain ⟨_, _, h3⟩ := grp_code h hy
    have h4 : 2 ^ n ≤ 2 ^ 15 := Nat.pow_le_pow_right (by decide) (by omega)
    omega
theorem T14_Sb {l : List Nat} (h : GoodLens l) : ∀ q ∈ (T14 l).2.1, q.length ≤ l.length := fun q hq => by
  have hs := tabN_spec l h.le (inOrd l)
  obtain ⟨n, hn, rfl⟩ := getD_mem (d := []) hq
  have hn16 : n < 16 := by have := hs.2.1; unfold T14 at hn; omega
  rw [T14_S h hn16]
  exact Nat.le_trans (List.length_filter_le _ _) (inOrd_length l)
end Go.Kw
