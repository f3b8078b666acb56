/-
  M14h: the table of a canonical code, and a symbol read by it. No program in sight.
-/
import Derived.Test.YtfhbflhnelbkfaaM15v
import Derived.Test.YtfhbflhnelbkfaaM14d
namespace Go.Kw
def tStep (l : List Nat) (s : List Nat × List (List Nat) × Nat) (x : Nat) : List Nat × List (List Nat) × Nat :=
  (if (s.2.1.getD (lenKey l x) []).length = 0 then s.1.set (lenKey l x) (cdOf l x) else s.1, s.2.1.set (lenKey l x) (s.2.1.getD (lenKey l x) [] ++ [x]), lenKey l x)
def tabN (l ord : List Nat) : List Nat × List (List Nat) × Nat := ord.foldl (tStep l) (List.replicate 16 0, List.replicate 16 [], 0)
theorem tabN_snoc (l ord : List Nat) (x : Nat) : tabN l (ord ++ [x]) = tStep l (tabN l ord) x := by simp [tabN]
theorem getD_set {α : Type} {l : List α} {d v : α} {i j : Nat} (h : i < l.length) : (l.set i v).getD j d = if i = j then v else l.getD j d := by
  simp only [List.getD_eq_getElem?_getD, List.getElem?_set]
  by_cases hij : i = j
  · simp [hij, hij ▸ h]
  · simp [hij]
def hdCode (l : List Nat) : List Nat → Nat
  | [] => 0
  | x :: _ => cdOf l x
theorem hdCode_append (l : List Nat) {a : List Nat} (b : List Nat) (h : a ≠ []) : hdCode l (a ++ b) = hdCode l a := by
  cases a with
  | nil => exact absurd rfl h
  | cons y r => rfl
theorem tabN_spec (l : List Nat) (h : ∀ i, lenKey l i ≤ 15) : ∀ ord : List Nat, (tabN l ord).1.length = 16 ∧ (tabN l ord).2.1.length = 16 ∧
    (∀ n, n < 16 → (tabN l ord).2.1.getD n [] = ord.filter (fun x => lenKey l x == n) ∧ (tabN l ord).1.getD n 0 = hdCode l (ord.filter fun x => lenKey l x == n)) ∧ (tabN l ord).2.2 ≤ 15 := by
  refine snocInd ⟨by simp [tabN], by simp [tabN], fun n hn => ?_, by simp [tabN]⟩ fun ord x ih => ?_
  · have e1 : (tabN l []).2.1.getD n [] = [] := by simp only [tabN, List.foldl_nil, List.getD_eq_getElem?_getD, List.getElem?_replicate]; rw [if_pos hn]; rfl
    have e2 : (tabN l []).1.getD n 0 = 0 := by simp only [tabN, List.foldl_nil]; exact replicate_getD ..
    exact ⟨e1, e2⟩
  · obtain ⟨h1, h2, h3, h4⟩ := ih
    have hx := h x
    rw [tabN_snoc]
    unfold tStep
    refine ⟨by simp only; split <;> simp [h1], by simp [h2], fun n hn => ?_, h x⟩
    obtain ⟨g1, g2⟩ := h3 n hn
    obtain ⟨k1, k2⟩ := h3 (lenKey l x) (by omega)
    simp only
    rw [getD_set (by omega), List.filter_append]
    by_cases he : lenKey l x = n
    · subst he
      have e3 : [x].filter (fun z => lenKey l z == lenKey l x) = [x] := by simp
      rw [if_pos rfl, e3, k1]
      refine ⟨rfl, ?_⟩
      by_cases h0 : (ord.filter fun z => lenKey l z == lenKey l x) = []
      · rw [h0, if_pos (by rfl), getD_set_eq (by omega)]; rfl
      · have hl0 : ¬ (ord.filter fun z => lenKey l z == lenKey l x).length = 0 := fun h' => h0 (List.eq_nil_of_length_eq_zero h')
        rw [if_neg hl0, k2, hdCode_append l _ h0]
    · have e3 : [x].filter (fun z => lenKey l z == n) = [] := by simp [he]
      rw [if_neg he, e3, List.append_nil]
      refine ⟨g1, ?_⟩
      split
      · rw [getD_set_ne' he]; exact g2
      · exact g2
theorem tabN_long (l : List Nat) : ∀ ord : List Nat, Srt (lenKey l) ord → ∀ x ∈ ord, lenKey l x ≤ (tabN l ord).2.2 := by
  refine snocInd (fun _ x h => by cases h) fun ord y _ hs x hx => ?_
  rw [tabN_snoc]
  show lenKey l x ≤ lenKey l y
  rcases List.mem_append.1 hx with hx | hx
  · exact (Srt.append.1 hs).2.2 x hx y (by simp)
  · simp at hx; subst hx; exact Nat.le_refl _
def T14 (l : List Nat) : List Nat × List (List Nat) × Nat := tabN l (inOrd l)
theorem T14_S {l : List Nat} (h : GoodLens l) {n : Nat} (hn : n < 16) : (T14 l).2.1.getD n [] = grp l n := ((tabN_spec l h.le (inOrd l)).2.2.1 n hn).1
theorem T14_F {l : List Nat} (h : GoodLens l) {n : Nat} (hn : n < 16) : (T14 l).1.getD n 0 = fstC l n := by
  rw [T14, ((tabN_spec l h.le (inOrd l)).2.2.1 n hn).2]
  show hdCode l (grp l n) = fstC l n
  unfold fstC hdCode
  cases grp l n <;> rfl
theorem T14_long {l : List Nat} {x : Nat} (hx : 0 < lenKey l x) : lenKey l x ≤ (T14 l).2.2 := tabN_long l _ (ssort_srt _) x (inOrd_mem_iff l x hx)
theorem T14_le {l : List Nat} (h : GoodLens l) : (T14 l).2.2 ≤ 15 := (tabN_spec l h.le (inOrd l)).2.2.2
/-! ## Reading -/
def begC (F : List Nat) (S : List (List Nat)) (v n k : Nat) : Bool :=
  decide (0 < (S.getD k []).length) && decide (v ≤ (F.getD k 0 + (S.getD k []).length - 1) / 2 ^ (k - n)) && decide (F.getD k 0 / 2 ^ (k - n) ≤ v)
def begF (F : List Nat) (S : List (List Nat)) (lo v n : Nat) : Bool := (List.range' n (lo + 1 - n)).any (begC F S v n)
theorem begF_true {F : List Nat} {S : List (List Nat)} {lo v n k : Nat} (h1 : n ≤ k) (h2 : k ≤ lo) (h : begC F S v n k = true) : begF F S lo v n = true := by
  unfold begF
  rw [List.any_eq_true]
  exact ⟨k, by rw [List.mem_range'_1]; omega, h⟩
theorem begF_false {F : List Nat} {S : List (List Nat)} {lo v n : Nat} (h : ∀ k, n ≤ k → k ≤ lo → begC F S v n k = false) : begF F S lo v n = false := by
  unfold begF
  rw [List.any_eq_false]
  intro k hk
  rw [List.mem_range'_1] at hk
  simp [h k (by omega) (by omega)]
theorem begF_le {F : List Nat} {S : List (List Nat)} {lo v n : Nat} (h : begF F S lo v n = true) : n ≤ lo := by
  unfold begF at h
  rw [List.any_eq_true] at h
  obtain ⟨k, hk, _⟩ := h
  rw [List.mem_range'_1] at hk; omega
/-- Symbol, error, position behind. -/
def symF (F : List Nat) (S : List (List Nat)) (lo : Nat) (l : List Nat) (N : Nat) : Nat → Nat → Nat → Nat → Nat × Nat × Nat
  | 0, _, _, pos => (0, 9, pos)
  | f + 1, n, v, pos =>
    if N < pos + 1 then (0, 10, pos)
    else if begF F S lo (2 * v + rb l pos) n = false then (0, 9, pos + 1)
    else if F.getD n 0 ≤ 2 * v + rb l pos ∧ 2 * v + rb l pos - F.getD n 0 < (S.getD n []).length then ((S.getD n []).getD (2 * v + rb l pos - F.getD n 0) 0, 0, pos + 1)
    else symF F S lo l N f (n + 1) (2 * v + rb l pos) (pos + 1)
theorem symF_ok {l : List Nat} (h : GoodLens l) {x : Nat} (hx : 0 < lenKey l x) (A B : List Bool) : ∀ (f n : Nat), f + n = 17 → 1 ≤ n → n ≤ lenKey l x →
    symF (T14 l).1 (T14 l).2.1 (T14 l).2.2 (packB (A ++ lowB (cdOf l x) (lenKey l x) ++ B)) (A ++ lowB (cdOf l x) (lenKey l x) ++ B).length f n (bvN (packB (A ++ lowB (cdOf l x) (lenKey l x) ++ B)) A.length (n - 1)) (A.length + (n - 1)) = (x, 0, A.length + lenKey l x)
  | 0, n, hf, h1, hn => by have := h.le x; omega
  | f + 1, n, hf, h1, hn => by
    have hL := h.le x
    obtain ⟨_, hcode⟩ := code_of h hx
    obtain ⟨m, hm⟩ := grp_of hx
    have hml := (List.getElem?_eq_some_iff.1 hm).1
    have hfst := fst_code h hm
    have hlen : (A ++ lowB (cdOf l x) (lenKey l x) ++ B).length = A.length + lenKey l x + B.length := by simp [lowB_length, Nat.add_assoc]
    have hv : 2 * bvN (packB (A ++ lowB (cdOf l x) (lenKey l x) ++ B)) A.length (n - 1) + rb (packB (A ++ lowB (cdOf l x) (lenKey l x) ++ B)) (A.length + (n - 1)) = cdOf l x / 2 ^ (lenKey l x - n) := by
      have e := bvN_at A B (cdOf l x) (lenKey l x) hcode n hn
      rw [← e]
      conv => rhs; rw [show n = (n - 1) + 1 by omega, bvN]
    have hbvn : bvN (packB (A ++ lowB (cdOf l x) (lenKey l x) ++ B)) A.length n = cdOf l x / 2 ^ (lenKey l x - n) := bvN_at A B (cdOf l x) (lenKey l x) hcode n hn
    rw [symF, hv, if_neg (by omega)]
    have hbeg : begF (T14 l).1 (T14 l).2.1 (T14 l).2.2 (cdOf l x / 2 ^ (lenKey l x - n)) n = true := by
      refine begF_true hn (T14_long hx) ?_
      unfold begC
      rw [T14_S h (by omega), T14_F h (by omega)]
      simp only [Bool.and_eq_true, decide_eq_true_eq]
      exact ⟨⟨by omega, Nat.div_le_div_right (by omega)⟩, Nat.div_le_div_right (by omega)⟩
    rw [if_neg (by rw [hbeg]; simp), T14_S h (by omega), T14_F h (by omega)]
    rcases Nat.lt_or_ge n (lenKey l x) with hlt | hge
    · rw [if_neg]
      · have ih := symF_ok h hx A B f (n + 1) (by omega) (by omega) (by omega)
        rw [Nat.add_sub_cancel, hbvn] at ih
        rw [show A.length + (n - 1) + 1 = A.length + n by omega]
        exact ih
      · rintro ⟨ha, hb⟩
        have hy : (grp l n)[cdOf l x / 2 ^ (lenKey l x - n) - fstC l n]? = some (grp l n)[cdOf l x / 2 ^ (lenKey l x - n) - fstC l n] := List.getElem?_eq_getElem hb
        have h5 := fst_code h hy
        exact code_free h hx hlt hy (by omega)
    · have hne : n = lenKey l x := by omega
      have e0 : cdOf l x / 2 ^ (lenKey l x - n) = cdOf l x := by rw [hne, Nat.sub_self]; simp
      rw [e0, hne] at *
      rw [if_pos ⟨by omega, by omega⟩]
      have e1 : cdOf l x - fstC l (lenKey l x) = m := by omega
      have e2 : (grp l (lenKey l x)).getD m 0 = x := getD_some hm
      rw [e1, e2]
      simp only [Prod.mk.injEq, true_and]
      omega
/-- So many symbols; none: not so. -/
def decF (F : List Nat) (S : List (List Nat)) (lo : Nat) (l : List Nat) (N : Nat) : Nat → Nat → List Nat → Option (List Nat × Nat)
  | 0, pos, acc => some (acc, pos)
  | c + 1, pos, acc => if (symF F S lo l N 16 1 0 pos).2.1 ≠ 0 then none else decF F S lo l N c (symF F S lo l N 16 1 0 pos).2.2 (acc ++ [(symF F S lo l N 16 1 0 pos).1])
theorem decF_ok {l : List Nat} (h : GoodLens l) : ∀ (s : List Nat) (A : List Bool) (acc : List Nat) (bits : List Bool), (∀ x ∈ s, 0 < lenKey l x) → bits = A ++ hufB l s →
    decF (T14 l).1 (T14 l).2.1 (T14 l).2.2 (packB bits) bits.length s.length A.length acc = some (acc ++ s, bits.length)
  | [], A, acc, bits, _, hb => by subst hb; simp [decF, hufB]
  | x :: r, A, acc, bits, hs, hb => by
    have hx := hs x (by simp)
    have hb2 : bits = A ++ lowB (cdOf l x) (lenKey l x) ++ hufB l r := by rw [hb]; simp [hufB]
    have h1 := symF_ok h hx A (hufB l r) 16 1 rfl (Nat.le_refl _) hx
    rw [← hb2, Nat.sub_self, bvN, Nat.add_zero] at h1
    have ih := decF_ok h r (A ++ lowB (cdOf l x) (lenKey l x)) (acc ++ [x]) bits (fun y hy => hs y (List.mem_cons_of_mem _ hy)) hb2
    rw [List.length_cons, decF, h1]
    simp only [ne_eq, not_true, if_false]
    rw [List.length_append, lowB_length] at ih
    rw [ih]; simp
def hdec (l b : List Nat) (bits count : Nat) : Option (List Nat) :=
  match decF (T14 l).1 (T14 l).2.1 (T14 l).2.2 (b.take ((bits + 7) / 8)) bits count 0 [] with
  | none => none
  | some p => if p.2 = bits then some p.1 else none
theorem hdec_ok {l : List Nat} (h : GoodLens l) (s : List Nat) (hs : ∀ x ∈ s, 0 < lenKey l x) : hdec l (packB (hufB l s)) (hufB l s).length s.length = some s := by
  have := decF_ok h s [] [] (hufB l s) hs (by simp)
  unfold hdec
  rw [List.take_of_length_le (by rw [packB_length]; exact Nat.le_refl _)]
  rw [List.length_nil, List.nil_append] at this
  rw [this]; simp
theorem symF_pos (F : List Nat) (S : List (List Nat)) (lo : Nat) (l : List Nat) (N : Nat) : ∀ f n v pos, pos ≤ N → (symF F S lo l N f n v pos).2.2 ≤ N
  | 0, _, _, _, h => h
  | f + 1, n, v, pos, h => by
    rw [symF]
    split
    · exact h
    · split
      · show pos + 1 ≤ N; omega
      · split
        · show pos + 1 ≤ N; omega
        · exact symF_pos F S lo l N f _ _ _ (by omega)
theorem getD_mem {α : Type} {l : List α} {x d : α} (h : x ∈ l) : ∃ n, n < l.length ∧ l.getD n d = x := by
  obtain ⟨n, hn, rfl⟩ := List.mem_iff_getElem.1 h
  exact ⟨n, hn, by simp [List.getD_eq_getElem?_getD, hn]⟩
theorem T14_Fb {l : List Nat} (h : GoodLens l) : ∀ x ∈ (T14 l).1, x < 2 ^ 15 := fun x hx => by
  have hs := tabN_spec l h.le (inOrd l)
  obtain ⟨n, hn, rfl⟩ := getD_mem (d := 0) hx
  have hn16 : n < 16 := by have := hs.1; unfold T14 at hn; omega
  rw [T14_F h hn16]
  cases hg : grp l n with
  | nil => unfold fstC; rw [hg]; exact Nat.two_pow_pos 15
  | cons y r =>
    have hy : (grp l n)[0]? = some y := by rw [hg]; rfl
    have h1 := fst_code h hy
    obtain ⟨_, _, h3⟩ := grp_code h hy
    have h4 : 2 ^ n ≤ 2 ^ 15 := Nat.pow_le_pow_right (by decide) (by omega)
    omega
theorem T14_Sb {l : List Nat} (h : GoodLens l) : ∀ q ∈ (T14 l).2.1, q.length ≤ l.length := fun q hq => by
  have hs := tabN_spec l h.le (inOrd l)
  obtain ⟨n, hn, rfl⟩ := getD_mem (d := []) hq
  have hn16 : n < 16 := by have := hs.2.1; unfold T14 at hn; omega
  rw [T14_S h hn16]
  exact Nat.le_trans (List.length_filter_le _ _) (inOrd_length l)
end Go.Kw
