/-
  M14d: canonical codes are read back. Plain facts, no program in sight.
-/
import Derived.Test.YtfhbflhnelbkfaaM14k
import Derived.Test.YtfhbflhnelbkfaaM02
namespace Go.Kw
/-- Kraft's sum of some symbols. -/
def kpre (l ord : List Nat) : Nat := (ord.map fun i => 2 ^ (15 - lenKey l i)).sum
theorem kpre_append (l a b : List Nat) : kpre l (a ++ b) = kpre l a + kpre l b := by simp [kpre]
theorem kpre_one (l : List Nat) (i : Nat) : kpre l [i] = 2 ^ (15 - lenKey l i) := by simp [kpre]
theorem kpre_const {l ord : List Nat} {d : Nat} (h : ∀ x ∈ ord, lenKey l x = d) : kpre l ord = ord.length * 2 ^ (15 - d) := by
  unfold kpre
  induction ord with
  | nil => simp
  | cons x r ih => rw [List.map_cons, List.sum_cons, ih fun y hy => h y (by simp [hy]), h x (by simp), List.length_cons, Nat.add_mul, Nat.one_mul, Nat.add_comm]
theorem presAt_sum (LS : List Nat) : ∀ (s : List Nat) (i : Nat), LS.drop i = s → kpre LS (presAt i s) = ksum s
  | [], i, _ => rfl
  | v :: s, i, hd => by
    have hi : LS.getD i 0 = v := by
      have : (LS.drop i)[0]? = some v := by rw [hd]; rfl
      rw [List.getElem?_drop] at this
      rw [List.getD_eq_getElem?_getD]; simpa using congrArg (fun o => o.getD 0) this
    have ih := presAt_sum LS s (i + 1) (by rw [← List.drop_drop, hd]; rfl)
    rw [presAt, ksum]
    split
    · rename_i hv
      have e : kpre LS (i :: presAt (i + 1) s) = kpre LS [i] + kpre LS (presAt (i + 1) s) := kpre_append LS [i] _
      rw [e, kpre_one, ih, kr, if_pos hv, lenKey, hi]
    · rename_i hv
      rw [ih, kr, if_neg hv, Nat.zero_add]
theorem inOrd_sum (l : List Nat) : kpre l (inOrd l) = ksum l := by
  rw [← presAt_sum l l 0 rfl]
  exact ((ssort_stb (key := lenKey l) (presAt 0 l)).perm.symm.map _).sum_nat
theorem presAt_lt : ∀ (l : List Nat) (i : Nat), (presAt i l).Pairwise (· < ·)
  | [], i => by simp [presAt]
  | n :: r, i => by
    rw [presAt]
    split
    · refine List.pairwise_cons.2 ⟨fun y hy => ?_, presAt_lt r (i + 1)⟩
      have := presAt_mem r (i + 1) y hy; omega
    · exact presAt_lt r (i + 1)
theorem inOrd_nodup (l : List Nat) : (inOrd l).Nodup := (ssort_stb (presAt 0 l)).perm.nodup ((presAt_lt l 0).imp fun h => by omega)
theorem inOrd_mem_iff (l : List Nat) (x : Nat) (h : 0 < lenKey l x) : x ∈ inOrd l := by
  refine (ssort_stb _).mem.1 ?_
  have : ∀ (l : List Nat) (i x : Nat), 0 < l.getD x 0 → i + x ∈ presAt i l := by
    intro l
    induction l with
    | nil => intro i x h; simp at h
    | cons n r ih =>
      intro i x h
      cases x with
      | zero => simp at h; rw [presAt, if_pos h]; simp
      | succ x =>
        have := ih (i + 1) x (by simpa using h)
        rw [presAt]; split
        · exact List.mem_cons_of_mem _ (by rw [show i + (x + 1) = i + 1 + x by omega]; exact this)
        · rw [show i + (x + 1) = i + 1 + x by omega]; exact this
  have := this l 0 x h
  rwa [Nat.zero_add] at this
theorem snocInd {α : Type} {P : List α → Prop} (h0 : P []) (h1 : ∀ l x, P l → P (l ++ [x])) (l : List α) : P l := by
  rw [← List.reverse_reverse l]
  induction l.reverse with
  | nil => exact h0
  | cons x r ih => rw [List.reverse_cons]; exact h1 _ _ ih
theorem pow_split {L M : Nat} (h : L ≤ M) (hM : M ≤ 15) : 2 ^ (M - L) * 2 ^ (15 - M) = 2 ^ (15 - L) := by rw [← Nat.pow_add]; congr 1; omega
theorem cdSt_code (l : List Nat) (hb : ∀ i, lenKey l i ≤ 15) : ∀ (ord : List Nat) (i : Nat), Srt (lenKey l) (ord ++ [i]) → kpre l (ord ++ [i]) ≤ 2 ^ 15 →
    (cdSt l (ord ++ [i])).1 = ord.length + 1 ∧ (cdSt l (ord ++ [i])).2.2.1 = lenKey l i ∧ (cdSt l (ord ++ [i])).2.1 * 2 ^ (15 - lenKey l i) = kpre l ord ∧ (cdSt l (ord ++ [i])).2.2.2 = (cdSt l ord).2.2.2.set i (cdSt l (ord ++ [i])).2.1 := by
  refine snocInd ?_ ?_
  · intro i _ _; simp [cdSt, cdStep, kpre]
  · intro ord j ih i hs hk
    have hs1 : Srt (lenKey l) (ord ++ [j]) := hs.left
    have hij : lenKey l j ≤ lenKey l i := (Srt.append.1 hs).2.2 j (by simp) i (by simp)
    have hk1 : kpre l (ord ++ [j]) ≤ 2 ^ 15 := by rw [kpre_append] at hk; omega
    obtain ⟨h1, h2, h3, _⟩ := ih j hs1 hk1
    have hi15 := hb i
    have hp : 0 < 2 ^ (15 - lenKey l j) := Nat.two_pow_pos _
    have hbound : ((cdSt l (ord ++ [j])).2.1 + 1) * 2 ^ (15 - lenKey l j) ≤ 2 ^ 15 := by
      rw [Nat.add_mul, h3, Nat.one_mul, ← kpre_one, ← kpre_append]; exact hk1
    have hc : (cdSt l (ord ++ [j])).2.1 + 1 ≤ 2 ^ 15 := Nat.le_trans (Nat.le_mul_of_pos_right _ hp) hbound
    have e1 : ((cdSt l (ord ++ [j])).2.1 + 1) % 2 ^ 64 = (cdSt l (ord ++ [j])).2.1 + 1 := Nat.mod_eq_of_lt (by omega)
    have hq : ((cdSt l (ord ++ [j])).2.1 + 1) * 2 ^ (lenKey l i - lenKey l j) * 2 ^ (15 - lenKey l i) = ((cdSt l (ord ++ [j])).2.1 + 1) * 2 ^ (15 - lenKey l j) := by
      rw [Nat.mul_assoc, pow_split hij hi15]
    have hc2 : ((cdSt l (ord ++ [j])).2.1 + 1) * 2 ^ (lenKey l i - lenKey l j) ≤ 2 ^ 15 := Nat.le_trans (Nat.le_mul_of_pos_right _ (Nat.two_pow_pos (15 - lenKey l i))) (by rw [hq]; exact hbound)
    have e2 : ((cdSt l (ord ++ [j])).2.1 + 1) * 2 ^ (lenKey l i - lenKey l j) % 2 ^ 64 = ((cdSt l (ord ++ [j])).2.1 + 1) * 2 ^ (lenKey l i - lenKey l j) := Nat.mod_eq_of_lt (by omega)
    have hst : (cdSt l (ord ++ [j] ++ [i])).2.1 = ((cdSt l (ord ++ [j])).2.1 + 1) * 2 ^ (lenKey l i - lenKey l j) := by
      rw [cdSt_snoc]; simp only [cdStep, h1, h2]; rw [if_pos (by omega), e1, e2]
    refine ⟨by rw [cdSt_snoc]; simp [cdStep, h1], by rw [cdSt_snoc]; rfl, ?_, by rw [cdSt_snoc]; rfl⟩
    rw [hst, hq, Nat.add_mul, h3, Nat.one_mul, kpre_append, kpre_one]
structure GoodLens (l : List Nat) : Prop where
  le : ∀ i, lenKey l i ≤ 15
  kraft : ksum l ≤ 2 ^ 15
theorem lenKey_le {l : List Nat} (h : ∀ x ∈ l, x ≤ 15) (i : Nat) : lenKey l i ≤ 15 := by
  rw [lenKey, List.getD_eq_getElem?_getD]
  cases hg : l[i]? with
  | none => simp
  | some v => simpa using h v (List.mem_of_getElem? hg)
theorem GoodLens.of_valid {l : List Nat} (h : validB l = true) : GoodLens l := by
  simp only [validB, Bool.and_eq_true, List.all_eq_true, decide_eq_true_eq] at h
  exact ⟨lenKey_le h.1, h.2⟩
theorem GoodLens.of_ok {c l : List Nat} (h : LensOk c l) : GoodLens l := ⟨h.le, h.kraft⟩
theorem validB_ok {c l : List Nat} (h : LensOk c l) : validB l = true := by
  simp only [validB, Bool.and_eq_true, List.all_eq_true, decide_eq_true_eq]
  refine ⟨fun x hx => ?_, h.kraft⟩
  obtain ⟨i, hi⟩ := List.mem_iff_getElem?.1 hx
  have := h.le i; rwa [getD_some hi] at this
theorem cds_keep (l : List Nat) : ∀ (more ord : List Nat) (x : Nat), x ∉ more → (cdSt l (ord ++ more)).2.2.2[x]? = (cdSt l ord).2.2.2[x]?
  | [], ord, x, _ => by simp
  | i :: r, ord, x, h => by
    have := cds_keep l r (ord ++ [i]) x (fun h' => h (by simp [h']))
    rw [List.append_assoc] at this
    rw [show ord ++ i :: r = ord ++ ([i] ++ r) by simp, this, cdSt_snoc]
    exact List.getElem?_set_ne fun e => h (by simp [e])
/-- The code of the symbol that stands at place k. -/
theorem code_at {l : List Nat} (h : GoodLens l) {k x : Nat} (hx : (inOrd l)[k]? = some x) : ∃ code, (codesN l)[x]? = some code ∧ code * 2 ^ (15 - lenKey l x) = kpre l ((inOrd l).take k) ∧ code < 2 ^ lenKey l x := by
  have hcat : inOrd l = (inOrd l).take k ++ [x] ++ (inOrd l).drop (k + 1) := by
    rw [← take_succ_of hx, List.take_append_drop]
  have hs : Srt (lenKey l) ((inOrd l).take k ++ [x]) := by rw [← take_succ_of hx]; exact Srt.take (ssort_srt _) _
  have htot : kpre l (inOrd l) ≤ 2 ^ 15 := by rw [inOrd_sum]; exact h.kraft
  have hk : kpre l ((inOrd l).take k ++ [x]) ≤ 2 ^ 15 := by rw [hcat, kpre_append] at htot; omega
  obtain ⟨_, _, h3, h4⟩ := cdSt_code l h.le _ x hs hk
  have hnd := inOrd_nodup l
  have hxm := inOrd_mem l x (List.mem_of_getElem? hx)
  refine ⟨(cdSt l ((inOrd l).take k ++ [x])).2.1, ?_, h3, ?_⟩
  · have e : codesN l = (cdSt l ((inOrd l).take k ++ [x] ++ (inOrd l).drop (k + 1))).2.2.2 := by unfold codesN; rw [← hcat]
    rw [e, cds_keep l _ _ x, h4]
    · rw [List.getElem?_set_self (by rw [cdSt_length]; exact hxm.1)]
    · intro hm
      rw [hcat] at hnd
      exact (List.nodup_append.1 hnd).2.2 x (by simp) x hm rfl
  · rw [kpre_append, kpre_one, ← h3] at hk
    have hL := h.le x
    have e : 2 ^ 15 = 2 ^ lenKey l x * 2 ^ (15 - lenKey l x) := by rw [← Nat.pow_add]; congr 1; omega
    rw [e, ← Nat.succ_mul] at hk
    exact Nat.le_of_mul_le_mul_right hk (Nat.two_pow_pos _)
/-! ## Reading a symbol -/
theorem Srt.three {α : Type} {key : α → Nat} (n : Nat) : ∀ {l : List α}, Srt key l → l = l.filter (fun x => decide (key x < n)) ++ l.filter (fun x => key x == n) ++ l.filter (fun x => decide (n < key x))
  | [], _ => rfl
  | x :: r, h => by
    have hr : Srt key r := (List.pairwise_cons.1 h).2
    have hx := (List.pairwise_cons.1 h).1
    have ih := Srt.three n hr
    rcases Nat.lt_trichotomy (key x) n with hk | hk | hk
    · have a : ¬ n < key x := by omega
      have b : ¬ key x = n := by omega
      simp only [List.filter_cons, hk, a, decide_true, decide_false, if_true, beq_iff_eq, b, if_false, List.cons_append, Bool.false_eq_true]
      exact congrArg (x :: ·) ih
    · have e : r.filter (fun x => decide (key x < n)) = [] := List.filter_eq_nil_iff.2 fun y hy => by have := hx y hy; simp; omega
      have a : ¬ key x < n := by omega
      have b : ¬ n < key x := by omega
      rw [e, List.nil_append] at ih
      simp only [List.filter_cons, hk, Nat.lt_irrefl, decide_false, beq_self_eq_true, if_true, Bool.false_eq_true, if_false, e, List.nil_append, List.cons_append]
      exact congrArg (x :: ·) ih
    · have e : r.filter (fun x => decide (key x < n)) = [] := List.filter_eq_nil_iff.2 fun y hy => by have := hx y hy; simp; omega
      have e2 : r.filter (fun x => key x == n) = [] := List.filter_eq_nil_iff.2 fun y hy => by have := hx y hy; simp; omega
      have a : ¬ key x < n := by omega
      have b : ¬ key x = n := by omega
      rw [e, e2, List.nil_append, List.nil_append] at ih
      simp only [List.filter_cons, a, hk, decide_true, decide_false, beq_iff_eq, b, if_false, if_true, e, e2, List.nil_append, Bool.false_eq_true]
      exact congrArg (x :: ·) ih
/-- The symbols of a length, in order. -/
def grp (l : List Nat) (n : Nat) : List Nat := (inOrd l).filter fun x => lenKey l x == n
def low (l : List Nat) (n : Nat) : List Nat := (inOrd l).filter fun x => decide (lenKey l x < n)
def cdOf (l : List Nat) (x : Nat) : Nat := (codesN l).getD x 0
def fstC (l : List Nat) (n : Nat) : Nat :=
  match grp l n with
  | [] => 0
  | x :: _ => cdOf l x
theorem inOrd_three (l : List Nat) (n : Nat) : inOrd l = low l n ++ grp l n ++ (inOrd l).filter fun x => decide (n < lenKey l x) := Srt.three n (ssort_srt _)
theorem grp_len {l : List Nat} {n x : Nat} (h : x ∈ grp l n) : lenKey l x = n := by simpa using (List.mem_filter.1 h).2
theorem grp_code {l : List Nat} (h : GoodLens l) {n m x : Nat} (hx : (grp l n)[m]? = some x) : (codesN l)[x]? = some (cdOf l x) ∧ cdOf l x * 2 ^ (15 - n) = kpre l (low l n) + m * 2 ^ (15 - n) ∧ cdOf l x < 2 ^ n := by
  have hm := (List.getElem?_eq_some_iff.1 hx).1
  have hn := grp_len (List.mem_of_getElem? hx)
  have hk : (inOrd l)[(low l n).length + m]? = some x := by
    rw [inOrd_three l n, List.append_assoc, List.getElem?_append_right (by omega), Nat.add_sub_cancel_left, List.getElem?_append_left hm]; exact hx
  obtain ⟨code, h1, h2, h3⟩ := code_at h hk
  have hc : cdOf l x = code := by rw [cdOf, List.getD_eq_getElem?_getD, h1]; rfl
  have ht : (inOrd l).take ((low l n).length + m) = low l n ++ (grp l n).take m := by
    conv => lhs; rw [inOrd_three l n]
    rw [List.append_assoc, List.take_length_add_append, List.take_append_of_le_length (by omega)]
  rw [hc]
  rw [hn] at h2 h3
  refine ⟨h1, ?_, h3⟩
  rw [h2, ht, kpre_append, kpre_const (d := n) fun y hy => grp_len (List.mem_of_mem_take hy), List.length_take, Nat.min_eq_left (by omega)]
theorem fst_code {l : List Nat} (h : GoodLens l) {n m x : Nat} (hx : (grp l n)[m]? = some x) : fstC l n + m = cdOf l x := by
  have hm := (List.getElem?_eq_some_iff.1 hx).1
  obtain ⟨_, h1, _⟩ := grp_code h hx
  have h0 : (grp l n)[0]? = some (grp l n)[0] := List.getElem?_eq_getElem (by omega)
  obtain ⟨_, g1, _⟩ := grp_code h h0
  have hf : fstC l n = cdOf l (grp l n)[0] := by
    unfold fstC
    obtain ⟨y, r, hyr⟩ := List.exists_cons_of_length_pos (by omega : 0 < (grp l n).length)
    simp only [hyr, List.getElem_cons_zero]
  rw [hf]
  have e : (cdOf l (grp l n)[0] + m) * 2 ^ (15 - n) = cdOf l x * 2 ^ (15 - n) := by rw [Nat.add_mul, g1, h1, Nat.zero_mul, Nat.add_zero]
  exact Nat.eq_of_mul_eq_mul_right (Nat.two_pow_pos _) e
/-- Where a symbol stands among those of its length. -/
theorem grp_of {l : List Nat} {x : Nat} (hx : 0 < lenKey l x) : ∃ m : Nat, (grp l (lenKey l x))[m]? = some x := by
  have : x ∈ grp l (lenKey l x) := List.mem_filter.2 ⟨inOrd_mem_iff l x hx, by simp⟩
  exact List.mem_iff_getElem?.1 this
/-- A shorter code is no beginning of the code. -/
theorem code_free {l : List Nat} (h : GoodLens l) {x n m y : Nat} (hx : 0 < lenKey l x) (hn : n < lenKey l x) (hy : (grp l n)[m]? = some y) : cdOf l y ≠ cdOf l x / 2 ^ (lenKey l x - n) := fun e => by
  obtain ⟨k, hk⟩ := grp_of hx
  obtain ⟨_, h1, _⟩ := grp_code h hk
  obtain ⟨_, g1, _⟩ := grp_code h hy
  have hL := h.le x
  have hm := (List.getElem?_eq_some_iff.1 hy).1
  -- the sum in front of x has all of y's length
  have hlow : kpre l (low l n) + (grp l n).length * 2 ^ (15 - n) ≤ kpre l (low l (lenKey l x)) := by
    have hsub : (low l n ++ grp l n).Sublist (low l (lenKey l x)) := by
      have e1 : low l (lenKey l x) = (low l n ++ grp l n ++ (inOrd l).filter fun z => decide (n < lenKey l z)).filter fun z => decide (lenKey l z < lenKey l x) := by rw [← inOrd_three]; rfl
      rw [e1, List.filter_append, List.filter_append]
      have e2 : (low l n).filter (fun z => decide (lenKey l z < lenKey l x)) = low l n := List.filter_eq_self.2 fun z hz => by
        have := (List.mem_filter.1 hz).2; simp at this ⊢; omega
      have e3 : (grp l n).filter (fun z => decide (lenKey l z < lenKey l x)) = grp l n := List.filter_eq_self.2 fun z hz => by
        have := grp_len hz; simp; omega
      rw [e2, e3]
      exact List.sublist_append_left _ _
    have hs : kpre l (low l n ++ grp l n) ≤ kpre l (low l (lenKey l x)) := by
      have : ∀ {a b : List Nat}, a.Sublist b → kpre l a ≤ kpre l b := by
        intro a b hab
        induction hab with
        | slnil => exact Nat.le_refl _
        | cons z _ ih => simp only [kpre, List.map_cons, List.sum_cons] at ih ⊢; exact Nat.le_trans ih (Nat.le_add_left _ _)
        | cons_cons z _ ih => simp only [kpre, List.map_cons, List.sum_cons] at ih ⊢; exact Nat.add_le_add_left ih _
      exact this hsub
    rw [kpre_append, kpre_const (d := n) fun z hz => grp_len hz] at hs
    exact hs
  have hq : 2 ^ (lenKey l x - n) * 2 ^ (15 - lenKey l x) = 2 ^ (15 - n) := pow_split (by omega) hL
  have hlt : cdOf l x < (cdOf l y + 1) * 2 ^ (lenKey l x - n) := by
    rw [e]
    have := Nat.lt_div_mul_add (a := cdOf l x) (b := 2 ^ (lenKey l x - n)) (Nat.two_pow_pos _)
    rw [Nat.add_mul, Nat.one_mul]; exact this
  have h2 : cdOf l x * 2 ^ (15 - lenKey l x) < (cdOf l y + 1) * 2 ^ (15 - n) := by
    rw [← hq, ← Nat.mul_assoc]
    exact Nat.mul_lt_mul_of_pos_right hlt (Nat.two_pow_pos _)
  rw [h1, Nat.add_mul, Nat.one_mul, g1] at h2
  have h3 : (m + 1) * 2 ^ (15 - n) ≤ (grp l n).length * 2 ^ (15 - n) := Nat.mul_le_mul_right _ hm
  rw [Nat.add_mul, Nat.one_mul] at h3
  omega
/-- The bits of some symbols. -/
def hufB (l syms : List Nat) : List Bool := syms.flatMap fun s => lowB (cdOf l s) (lenKey l s)
theorem hufB_append (l a b : List Nat) : hufB l (a ++ b) = hufB l a ++ hufB l b := by simp [hufB]
theorem hufB_snoc (l a : List Nat) (x : Nat) : hufB l (a ++ [x]) = hufB l a ++ lowB (cdOf l x) (lenKey l x) := by simp [hufB]
theorem hufB_length {l : List Nat} (h : GoodLens l) : ∀ syms : List Nat, (hufB l syms).length ≤ 15 * syms.length
  | [] => by simp [hufB]
  | s :: r => by
    have ih := hufB_length h r
    have e : hufB l (s :: r) = lowB (cdOf l s) (lenKey l s) ++ hufB l r := by simp [hufB]
    have := h.le s
    rw [e, List.length_append, lowB_length, List.length_cons]; omega
theorem code_of {l : List Nat} (h : GoodLens l) {x : Nat} (hx : 0 < lenKey l x) : (codesN l)[x]? = some (cdOf l x) ∧ cdOf l x < 2 ^ lenKey l x := by
  obtain ⟨m, hm⟩ := grp_of hx
  obtain ⟨h1, _, h3⟩ := grp_code h hm
  exact ⟨h1, h3⟩
theorem lenKey_some {l : List Nat} {x : Nat} (hx : x < l.length) : l[x]? = some (lenKey l x) := by
  simp [lenKey, List.getD_eq_getElem?_getD, hx]
theorem validB_le {l : List Nat} (h : validB l = true) : ∀ x ∈ l, x ≤ 15 := by
  simp only [validB, Bool.and_eq_true, List.all_eq_true, decide_eq_true_eq] at h; exact h.1
end Go.Kw
