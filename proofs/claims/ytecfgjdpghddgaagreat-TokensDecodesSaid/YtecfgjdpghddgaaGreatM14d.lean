/-
  M14d: canonical codes are read back. Plain facts, no program in sight.
-/
import Derived.Test.YtecfgjdpghddgaaGreatMst
import Derived.Test.YtecfgjdpghddgaaGreatKp
set_option linter.unusedVariables false
set_option linter.unusedSimpArgs false
set_option linter.unusedSectionVars false
namespace Go.Kw
def kpre (l ord : List Nat) : Nat := (ord.map fun i => 2 ^ (15 - lenKey l i)).sum
theorem kpre_append (l a b : List Nat) : kpre l (a ++ b) = kpre l a + kpre l b := by simp [kpre]
theorem kpre_one (l : List Nat) (i : Nat) : kpre l [i] = 2 ^ (15 - lenKey l i) := by simp [kpre]
theorem kpre_const {l ord : List Nat} {d : Nat} (h : ∀ x ∈ ord, lenKey l x = d) : kpre l ord = ord.length * 2 ^ (15 - d) := by
  unfold kpre
  induction ord with
  | nil => simp
  | cons x r ih => rw [List.map_cons, List.sum_cons, ih fun y hy => h y (by simp [hy]), h x (by simp), List.length_cons, Nat.add_mul, Nat.one_mul, Nat.add_comm]
theorem presAt_sum (LS : List Nat) : ∀ (s : List Nat) (i : Nat), LS.drop i = s → kpre LS (presAt i s) = ksum s
  | [], i, _ => rfl
  | v :: s, i, hd => by
    have hi : LS.getD i 0 = v := by
      have : (LS.drop i)[0]? = some v := by rw [hd]; rfl
      rw [List.getElem?_drop] at this
      rw [List.getD_eq_getElem?_getD]; simpa using congrArg (fun o => o.getD 0) this
    have ih := presAt_sum LS s (i + 1) (by rw [← List.drop_drop, hd]; rfl)
    rw [presAt, ksum]
    split
    · rename_i hv
      have e : kpre LS (i :: presAt (i + 1) s) = kpre LS [i] + kpre LS (presAt (i + 1) s) := kpre_append LS [i] _
      rw [e, kpre_one, ih, kr, if_pos hv, lenKey, hi]
    · rename_i hv
      rw [ih, kr, if_neg hv, Nat.zero_add]
theorem inOrd_sum (l : List Nat) : kpre l (inOrd l) = ksum l := by
  rw [← presAt_sum l l 0 rfl]
  exact ((ssort_stb (key := lenKey l) (presAt 0 l)).perm.symm.map _).sum_nat
theorem presAt_lt : ∀ (l : List Nat) (i : Nat), (presAt i l).Pairwise (· < ·)
  | [], i => by simp [presAt]
  | n :: r, i => by
    rw [presAt]
    split
    · refine List.pairwise_cons.2 ⟨fun y hy => ?_, presAt_lt r (i + 1)⟩
      have := presAt_mem r (i + 1) y hy; omega
    · exact presAt_lt r (i + 1)
theorem inOrd_nodup (l : List Nat) : (inOrd l).Nodup := (ssort_stb (presAt 0 l)).perm.nodup ((presAt_lt l 0).imp fun h => by omega)
theorem inOrd_mem_iff (l : List Nat) (x : Nat) (h : 0 < lenKey l x) : x ∈ inOrd l := by
  refine (ssort_stb _).mem.1 ?_
  have : ∀ (l : List Nat) (i x : Nat), 0 < l.getD x 0 → i + x ∈ presAt i l := by
    intro l
    induction l with
    | nil => intro i x h; simp at h
    | cons n r ih =>
      intro i x h
      cases x with
      | zero => simp at h; rw [presAt, if_pos h]; simp
      | succ x =>
        have := ih (i + 1) x (by simpa using h)
        rw [presAt]; split
        · exact List.mem_cons_of_mem _ (by rw [show i + (x + 1) = i + 1 + x by omega]; exact this)
        · rw [show i + (x + 1) = i + 1 + x by omega]; exact this
  have := this l 0 x h
  rwa [Nat.zero_add] at this
theorem snocInd {α : Type} {P : List α → Prop} (h0 : P []) (h1 : ∀ l x, P l → P (l ++ [x])) (l : List α) : P l := by
  rw [← List.reverse_reverse l]
  induction l.reverse with
  | nil => exact h0
  | cons x r ih => rw [List.reverse_cons]; exact h1 _ _ ih
theorem pow_split {L M : Nat} (h : L ≤ M) (hM : M ≤ 15) : 2 ^ (M - L) * 2 ^ (15 - M) = 2 ^ (15 - L) := by rw [← Nat.pow_add]; congr 1; omega
theorem cdSt_code (l : List Nat) (hb : ∀ i, lenKey l i ≤ 15) : ∀ (ord : List Nat) (i : Nat), Srt (lenKey l) (ord ++ [i]) → kpre l (ord ++ [i]) ≤ 2 ^ 15 →
    (cdSt l (ord ++ [i])).1 = ord.length + 1 ∧ (cdSt l (ord ++ [i])).2.2.1 = lenKey l i ∧ (cdSt l (ord ++ [i])).2.1 * 2 ^ (15 - lenKey l i) = kpre l ord ∧ (cdSt l (ord ++ [i])).2.2.2 = (cdSt l ord).2.2.2.set i (cdSt l (ord ++ [i])).2.1 := by
  refine snocInd ?_ ?_
  · intro i _ _; simp [cdSt, cdStep, kpre]
  · intro ord j ih i hs hk
    have hs1 : Srt (lenKey l) (ord ++ [j]) := hs.left
    have hij : lenKey l j ≤ lenKey l i := (Srt.append.1 hs).2.2 j (by simp) i (by simp)
    have hk1 : kpre l (ord ++ [j]) ≤ 2 ^ 15 := by rw [kpre_append] at hk; omega
    obtain ⟨h1, h2, h3, _⟩ := ih j hs1 hk1
    have hi15 := hb i
    have hp : 0 < 2 ^ (15 - lenKey l j) := Nat.two_pow_pos _
    have hbound : ((cdSt l (ord ++ [j])).2.1 + 1) * 2 ^ (15 - lenKey l j) ≤ 2 ^ 15 := by
      rw [Nat.add_mul, h3, Nat.one_mul, ← kpre_one, ← kpre_append]; exact hk1
    have hc : (cdSt l (ord ++ [j])).2.1 + 1 ≤ 2 ^ 15 := Nat.le_trans (Nat.le_mul_of_pos_right _ hp) hbound
    have e1 : ((cdSt l (ord ++ [j])).2.1 + 1) % 2 ^ 64 = (cdSt l (ord ++ [j])).2.1 + 1 := Nat.mod_eq_of_lt (by omega)
    have hq : ((cdSt l (ord ++ [j])).2.1 + 1) * 2 ^ (lenKey l i - lenKey l j) * 2 ^ (15 - lenKey l i) = ((cdSt l (ord ++ [j])).2.1 + 1) * 2 ^ (15 - lenKey l j) := by
      rw [Nat.mul_assoc, pow_split hij hi15]
    have hc2 : ((cdSt l (ord ++ [j])).2.1 + 1) * 2 ^ (lenKey l i - lenKey l j) ≤ 2 ^ 15 := Nat.le_trans (Nat.le_mul_of_pos_right _ (Nat.two_pow_pos (15 - lenKey l i))) (by rw [hq]; exact hbound)
    have e2 : ((cdSt l (ord ++ [j])).2.1 + 1) * 2 ^ (lenKey l i - lenKey l j) % 2 ^ 64 = ((cdSt l (ord ++ [j])).2.1 + 1) * 2 ^ (lenKey l i - lenKey l j) := Nat.mod_eq_of_lt (by omega)
    have hst : (cdSt l (ord ++ [j] ++ [i])).2.1 = ((cdSt l (ord ++ [j])).2.1 + 1) * 2 ^ (lenKey l i - lenKey l j) := by
      rw [cdSt_snoc]; simp only [cdStep, h1, h2]; rw [if_pos (by omega), e1, e2]
    refine ⟨by rw [cdSt_snoc]; simp [cdStep, h1], by rw [cdSt_snoc]; rfl, ?_, by rw [cdSt_snoc]; rfl⟩
    rw [hst, hq, Nat.add_mul, h3, Nat.one_mul, kpre_append, kpre_one]
structure GoodLens (l : List Nat) : Prop where
  le : ∀ i, lenKey l i ≤ 15
  kraft : ksum l ≤ 2 ^ 15
theorem lenKey_le {l : List Nat} (h : ∀ x ∈ l, x ≤ 15) (i : Nat) : lenKey l i ≤ 15 := by
  rw [lenKey, List.getD_eq_getElem?_getD]
  cases hg : l[i]? with
  | none => simp
  | some v => simpa using h v (List.mem_of_getElem? hg)
theorem GoodLens.of_valid {l : List Nat} (h : validB l = true) : GoodLens l := by
  simp only [validB, Bool.and_eq_true, List.all_eq_true, decide_eq_true_eq] at h
  exact ⟨lenKey_le h.1, h.2⟩
theorem GoodLens.of_ok {c l : List Nat} (h : LensOk c l) : GoodLens l := ⟨h.le, h.kraft⟩
theorem validB_ok {c l : List Nat} (h : LensOk c l) : validB l = true := by
  simp only [validB, Bool.and_eq_true, List.all_eq_true, decide_eq_true_eq]
  refine ⟨fun x hx => ?_, h.kraft⟩
  obtain ⟨i, hi⟩ := List.mem_iff_getElem?.1 hx
  have := h.le i; rwa [getD_some hi] at this
theorem cds_keep (l : List Nat) : ∀ (more ord : List Nat) (x : Nat), x ∉ more → (cdSt l (ord ++ more)).2.2.2[x]? = (cdSt l ord).2.2.2[x]?
  | [], ord, x, _ => by simp
  | i :: r, ord, x, h => by
    have := cds_keep l r (ord ++ [i]) x (fun h' => h (by simp [h']))
    rw [List.append_assoc] at this
    rw [show ord ++ i :: r = ord ++ ([i] ++ r) by simp, this, cdSt_snoc]
    exact List.getElem?_set_ne fun e => h (by simp [e])
theorem code_at {l : List Nat} (h : GoodLens l) {k x : Nat} (hx : (inOrd l)[k]? = some x) : ∃ code, (codesN l)[x]? = some code ∧ code * 2 ^ (15 - lenKey l x) = kpre l ((inOrd l).take k) ∧ code < 2 ^ lenKey l x := by
  have hcat : inOrd l = (inOrd l).take k ++ [x] ++ (inOrd l).drop (k + 1) := by
    rw [← take_succ_of hx, List.take_append_drop]
  have hs : Srt (lenKey l) ((inOrd l).take k ++ [x]) := by rw [← take_succ_of hx]; exact Srt.take (ssort_srt _) _
  have htot : kpre l (inOrd l) ≤ 2 ^ 15 := by rw [inOrd_sum]; exact h.kraft
  have hk : kpre l ((inOrd l).take k ++ [x]) ≤ 2 ^ 15 := by rw [hcat, kpre_append] at htot; omega
  obtain ⟨_, _, h3, h4⟩ := cdSt_code l h.le _ x hs hk
  have hnd := inOrd_nodup l
  have hxm := inOrd_mem l x (List.mem_of_getElem? hx)
  refine ⟨(cdSt l ((inOrd l).take k ++ [x])).2.1, ?_, h3, ?_⟩
  · have e : codesN l = (cdSt l ((inOrd l).take k ++ [x] ++ (inOrd l).drop (k + 1))).2.2.2 := by unfold codesN; rw [← hcat]
    rw [e, cds_keep l _ _ x, h4]
    · rw [List.getElem?_set_self (by rw [cdSt_length]; exact hxm.1)]
    · intro hm
      rw [hcat] at hnd
      exact (List.nodup_append.1 hnd).2.2 x (by simp) x hm rfl
  · rw [kpre_append, kpre_one, ← h3] at hk
    have hL := h.le x
    have e : 2 ^ 15 = 2 ^ lenKey l x * 2 ^ (15 - lenKey l x) := by rw [← Nat.pow_add]; congr 1; omega
    rw [e, ← Nat.succ_mul] at hk
    exact Nat.le_of_mul_le_mul_right hk (Nat.two_pow_pos _)
theorem Srt.three {α : Type} {key : α → Nat} (n : Nat) : ∀ {l : List α}, Srt key l → l = l.filter (fun x => decide (key x < n)) ++ l.filter (fun x => key x == n) ++ l.filter (fun x => decide (n < key x))
  | [], _ => rfl
  | x :: r, h => by
    have hr : Srt key r := (List.pairwise_cons.1 h).2
    have hx := (List.pairwise_cons.1 h).1
    have ih := Srt.three n hr
    rcases Nat.lt_trichotomy (key x) n with hk | hk | hk
    · have a : ¬ n < key x := by omega
      have b : ¬ key x = n := by omega
      simp only [List.filter_cons, hk, a, decide_true, decide_false, if_true, beq_iff_eq, b, if_false, List.cons_append, Bool.false_eq_true]
      exact congrArg (x :: ·) ih
    · have e : r.filter (fun x => decide (key x < n)) = [] := List.filter_eq_nil_iff.2 fun y hy => by have := hx y hy; simp; omega
      have a : ¬ key x < n := by omega
      have b : ¬ n < key x := by omega
      rw [e, List.nil_append] at ih
      simp only [List.filter_cons, hk, Nat.lt_irrefl, decide_false, beq_self_eq_true, if_true, Bool.false_eq_true, if_false, e, List.nil_append, List.cons_append]
      exact congrArg (x :: ·) ih
    · have e : r.filter (fun x => decide (key x < n)) = [] := List.filter_eq_nil_iff.2 fun y hy => by have := hx y hy; simp; omega
      have e2 : r.filter (fun x => key x == n) = [] := List.filter_eq_nil_iff.2 fun y hy => by have := hx y hy; simp; omega
      have a : ¬ key x < n := by omega
      have b : ¬ key x = n := by omega
      rw [e, e2, List.nil_append, List.nil_append] at ih
      simp only [List.filter_cons, a, hk, decide_true, decide_false, beq_iff_eq, b, if_false, if_true, e, e2, List.nil_append, Bool.false_eq_true]
      exact congrArg (x :: ·) ih
def grp (l : List Nat) (n : Nat) : List Nat := (inOrd l).filter fun x => lenKey l x == n
def low (l : List Nat) (n : Nat) : List Nat := (inOrd l).filter fun x => decide (lenKey l x < n)
def cdOf (l : List Nat) (x : Nat) : Nat := (codesN l).getD x 0
def fstC (l : List Nat) (n : Nat) : Nat :=
  match grp l n with
  | [] => 0
  | x :: _ => cdOf l x
theorem inOrd_three (l : List Nat) (n : Nat) : inOrd l = low l n ++ grp l n ++ (inOrd l).filter fun x => decide (n < lenKey l x) := Srt.three n (ssort_srt _)
theorem grp_len {l : List Nat} {n x : Nat} (h : x ∈ grp l n) : lenKey l x = n := by simpa using (List.mem_filter.1 h).2
theorem grp_code {l : List Nat} (h : GoodLens l) {n m x : Nat} (hx : (grp l n)[m]? = some x) : (codesN l)[x]? = some (cdOf l x) ∧ cdOf l x * 2 ^ (15 - n) = kpre l (low l n) + m * 2 ^ (15 - n) ∧ cdOf l x < 2 ^ n := by
  have hm := (List.getElem?_eq_some_iff.1 hx).1
  have hn := grp_len (List.mem_of_getElem? hx)
  have hk : (inOrd l)[(low l n).length + m]? = some x := by
    rw [inOrd_three l n, List.append_assoc, List.getElem?_append_right (by omega), Nat.add_sub_cancel_left, List.getElem?_append_left hm]; exact hx
  obtain ⟨code, h1, h2, h3⟩ := code_at h hk
  have hc : cdOf l x = code := by rw [cdOf, List.getD_eq_getElem?_getD, h1]; rfl
  have ht : (inOrd l).take ((low l n).length + m) = low l n ++ (grp l n).take m := by
    conv => lhs; rw [inOrd_three l n]
    rw [List.append_assoc, List.take_length_add_append, List.take_append_of_le_length (by omega)]
  rw [hc]
  rw [hn] at h2 h3
  refine ⟨h1, ?_, h3⟩
  rw [h2, ht, kpre_append, kpre_const (d := n) fun y hy => grp_len (List.mem_of_mem_take hy), List.length_take, Nat.min_eq_left (by omega)]
theorem fst_code {l : List Nat} (h : GoodLens l) {n m x : Nat} (hx : (grp l n)[m]? = some x) : fstC l n + m = cdOf l x := by
  have hm := (List.getElem?_eq_some_iff.1 hx).1
  obtain ⟨_, h1, _⟩ := grp_code h hx
  have h0 : (grp l n)[0]? = some (grp l n)[0] := List.getElem?_eq_getElem (by omega)
  obtain ⟨_, g1, _⟩ := grp_code h h0
  have hf : fstC l n = cdOf l (grp l n)[0] := by
    unfold fstC
    obtain ⟨y, r, hyr⟩ := List.exists_cons_of_length_pos (by omega : 0 < (grp l n).length)
    simp only [hyr, List.getElem_cons_zero]
  rw [hf]
  have e : (cdOf l (grp l n)[0] + m) * 2 ^ (15 - n) = cdOf l x * 2 ^ (15 - n) := by rw [Nat.add_mul, g1, h1, Nat.zero_mul, Nat.add_zero]
  exact Nat.eq_of_mul_eq_mul_right (Nat.two_pow_pos _) e
theorem grp_of {l : List Nat} {x : Nat} (hx : 0 < lenKey l x) : ∃ m : Nat, (grp l (lenKey l x))[m]? = some x := by
  have : x ∈ grp l (lenKey l x) := List.mem_filter.2 ⟨inOrd_mem_iff l x hx, by simp⟩
  exact List.mem_iff_getElem?.1 this
theorem code_free {l : List Nat} (h : GoodLens l) {x n m y : Nat} (hx : 0 < lenKey l x) (hn : n < lenKey l x) (hy : (grp l n)[m]? = some y) : cdOf l y ≠ cdOf l x / 2 ^ (lenKey l x - n) := fun e => by
  obtain ⟨k, hk⟩ := grp_of hx
  obtain ⟨_, h1, _⟩ := grp_code h hk
  obtain ⟨_, g1, _⟩ := grp_code h hy
  have hL := h.le x
  have hm := (List.getElem?_eq_some_iff.1 hy).1
  -- the sum in front of x has all of y's length
  have hlow : kpre l (low l n) + (grp l n).length * 2 ^ (15 - n) ≤ kpre l (low l (lenKey l x)) := by
    have hsub : (low l n ++ grp l n).Sublist (low l (lenKey l x)) := by
      have e1 : low l (lenKey l x) = (low l n ++ grp l n ++ (inOrd l).filter fun z => decide (n < lenKey l z)).filter fun z => decide (lenKey l z < lenKey l x) := by rw [← inOrd_three]; rfl
      rw [e1, List.filter_append, List.filter_append]
      have e2 : (low l n).filter (fun z => decide (lenKey l z < lenKey l x)) = low l n := List.filter_eq_self.2 fun z hz => by
        have := (List.mem_filter.1 hz).2; simp at this ⊢; omega
      have e3 : (grp l n).filter (fun z => decide (lenKey l z < lenKey l x)) = grp l n := List.filter_eq_self.2 fun z hz => by
        have := grp_len hz; simp; omega
      rw [e2, e3]
      exact List.sublist_append_left _ _
    have hs : kpre l (low l n ++ grp l n) ≤ kpre l (low l (lenKey l x)) := by
      have : ∀ {a b : List Nat}, a.Sublist b → kpre l a ≤ kpre l b := by
        intro a b hab
        induction hab with
        | slnil => exact Nat.le_refl _
        | cons z _ ih => simp only [kpre, List.map_cons, List.sum_cons] at ih ⊢; exact Nat.le_trans ih (Nat.le_add_left _ _)
        | cons_cons z _ ih => simp only [kpre, List.map_cons, List.sum_cons] at ih ⊢; exact Nat.add_le_add_left ih _
      exact this hsub
    rw [kpre_append, kpre_const (d := n) fun z hz => grp_len hz] at hs
    exact hs
  have hq : 2 ^ (lenKey l x - n) * 2 ^ (15 - lenKey l x) = 2 ^ (15 - n) := pow_split (by omega) hL
  have hlt : cdOf l x < (cdOf l y + 1) * 2 ^ (lenKey l x - n) := by
    rw [e]
    have := Nat.lt_div_mul_add (a := cdOf l x) (b := 2 ^ (lenKey l x - n)) (Nat.two_pow_pos _)
    rw [Nat.add_mul, Nat.one_mul]; exact this
  have h2 : cdOf l x * 2 ^ (15 - lenKey l x) < (cdOf l y + 1) * 2 ^ (15 - n) := by
    rw [← hq, ← Nat.mul_assoc]
    exact Nat.mul_lt_mul_of_pos_right hlt (Nat.two_pow_pos _)
  rw [h1, Nat.add_mul, Nat.one_mul, g1] at h2
  have h3 : (m + 1) * 2 ^ (15 - n) ≤ (grp l n).length * 2 ^ (15 - n) := Nat.mul_le_mul_right _ hm
  rw [Nat.add_mul, Nat.one_mul] at h3
  omega
def hufB (l syms : List Nat) : List Bool := syms.flatMap fun s => lowB (cdOf l s) (lenKey l s)
theorem hufB_append (l a b : List Nat) : hufB l (a ++ b) = hufB l a ++ hufB l b := by simp [hufB]
theorem hufB_snoc (l a : List Nat) (x : Nat) : hufB l (a ++ [x]) = hufB l a ++ lowB (cdOf l x) (lenKey l x) := by simp [hufB]
theorem hufB_length {l : List Nat} (h : GoodLens l) : ∀ syms : List Nat, (hufB l syms).length ≤ 15 * syms.length
  | [] => by simp [hufB]
  | s :: r => by
    have ih := hufB_length h r
    have e : hufB l (s :: r) = lowB (cdOf l s) (lenKey l s) ++ hufB l r := by simp [hufB]
    have := h.le s
    rw [e, List.length_append, lowB_length, List.length_cons]; omega
theorem code_of {l : List Nat} (h : GoodLens l) {x : Nat} (hx : 0 < lenKey l x) : (codesN l)[x]? = some (cdOf l x) ∧ cdOf l x < 2 ^ lenKey l x := by
  obtain ⟨m, hm⟩ := grp_of hx
  obtain ⟨h1, _, h3⟩ := grp_code h hm
  exact ⟨h1, h3⟩
theorem lenKey_some {l : List Nat} {x : Nat} (hx : x < l.length) : l[x]? = some (lenKey l x) := by
  simp [lenKey, List.getD_eq_getElem?_getD, hx]
theorem validB_le {l : List Nat} (h : validB l = true) : ∀ x ∈ l, x ≤ 15 := by
  simp only [validB, Bool.and_eq_true, List.all_eq_true, decide_eq_true_eq] at h; exact h.1
end Go.Kw
namespace Go.Kw
def sizeN (v : Nat) : Nat := (max (Lib.bitLen v) 1 + 6) / 7
theorem sizeN_le (v : Nat) : sizeN v ≤ 10 := by have := bitLen_le64 v; unfold sizeN; omega
def costStep (width : Nat) (s : Nat × Nat × Nat × Nat) (x : Nat) : Nat × Nat × Nat × Nat :=
  if 0 < x / 2 ^ width then (s.1 + 1, s.2.1 + (sizeN (s.1 + 1 - s.2.2.2) + sizeN (x / 2 ^ width)), s.2.2.1 + 1, s.1 + 1) else (s.1 + 1, s.2.1, s.2.2.1, s.2.2.2)
def costSt (width : Nat) (l : List Nat) : Nat × Nat × Nat × Nat := l.foldl (costStep width) (0, 0, 0, 0)
def costB (width : Nat) (l : List Nat) : Nat :=
  (costSt width l).2.1 + sizeN l.length + sizeN width + sizeN (costSt width l).2.2.1 + (l.length * width + 7) / 8
theorem costSt_snoc (width : Nat) (l : List Nat) (x : Nat) : costSt width (l ++ [x]) = costStep width (costSt width l) x := by simp [costSt]
def encStep (width : Nat) (s : Nat × List Bool × List Nat × Nat × Nat) (x : Nat) : Nat × List Bool × List Nat × Nat × Nat :=
  if 0 < x / 2 ^ width then (s.1 + 1, s.2.1 ++ lowB (x % 2 ^ width) width, s.2.2.1 ++ uv (s.1 + 1 - s.2.2.2.2) ++ uv (x / 2 ^ width), s.2.2.2.1 + 1, s.1 + 1)
  else (s.1 + 1, s.2.1 ++ lowB (x % 2 ^ width) width, s.2.2.1, s.2.2.2.1, s.2.2.2.2)
def encSt (width : Nat) (l : List Nat) : Nat × List Bool × List Nat × Nat × Nat := l.foldl (encStep width) (0, [], [], 0, 0)
def encBk (width : Nat) (l : List Nat) : List Nat :=
  uv l.length ++ uv width ++ uv (encSt width l).2.2.2.1 ++ packB (encSt width l).2.1 ++ (encSt width l).2.2.1
theorem encSt_snoc (width : Nat) (l : List Nat) (x : Nat) : encSt width (l ++ [x]) = encStep width (encSt width l) x := by simp [encSt]
def bestW (l : List Nat) : Nat → Nat
  | 0 => 0
  | m + 1 => if costB m l < costB (bestW l m) l then m else bestW l m
def packBk (l : List Nat) : List Nat := encBk (bestW l 32) l
theorem bestW_le (l : List Nat) : ∀ m, bestW l m ≤ m - 1
  | 0 => Nat.le_refl _
  | m + 1 => by unfold bestW; split; · omega
                · have := bestW_le l m; omega
end Go.Kw
namespace Go.Kw
open Go.RowKit
structure Pt where
  sv : SV
  bits : Nat
  bys : List Nat
def encPt : Enc Pt := ⟨2, fun p => [p.sv.val, .int .i64 (p.bits : Int)], fun _ => rfl, fun p u h => by simp at h; rcases h with rfl | rfl <;> rfl⟩
def cParts (ps : List Pt) : Chunk := cAll (ps.map fun p => cL p.sv.val 5 (encN .u8) p.bys)
section
variable {w0 w : World} {cs : List Chunk}
theorem Sat.newParts (h : Sat w0 cs w) : Sat w0 (cs ++ [cParts []]) w := by
  have : Sat w0 (cs ++ cAll [] :: []) w := Sat.all_iff.2 (by simpa using h)
  exact this
theorem Sat.pushParts {A : List Chunk} {s : SV} {b : Nat} {l : List Nat} {ps : List Pt} (h : Sat w0 (A ++ [cL s.val 5 (encN .u8) l]) w) (i : Nat) (hi : A[i]? = some (cParts ps)) : Sat w0 (A.set i (cParts (ps ++ [⟨s, b, l⟩]))) w := by
  have := h.push i hi
  rw [cParts, List.map_append]; exact this
theorem Sat.rdParts (h : Sat w0 cs w) (i : Nat) {ps : List Pt} (hi : cs[i]? = some (cParts ps)) : ∀ p ∈ ps, RdL w p.sv.val (encN .u8) p.bys := fun p hp =>
  Rd.of_own ((h.get hi).1 (cL p.sv.val 5 (encN .u8) p.bys) (List.mem_map_of_mem hp))
end
def chk (l : List Nat) (k : Nat) : List Nat := (l.drop (64 * k)).take 64
def nbk (n : Nat) : Nat := (n + 63) / 64
theorem chk_eq (l : List Nat) (k : Nat) : (l.take (min (64 * k + 64) l.length)).drop (64 * k) = chk l k := by
  rw [chk, List.drop_take]
  have : min (64 * k + 64) l.length - 64 * k = min 64 (l.length - 64 * k) := by omega
  rw [this, ← List.length_drop, ← List.take_eq_take_min]
theorem chk_length (l : List Nat) (k : Nat) : (chk l k).length = min 64 (l.length - 64 * k) := by simp [chk]
theorem chk_mem {l : List Nat} {k x : Nat} (h : x ∈ chk l k) : x ∈ l := List.mem_of_mem_drop (List.mem_of_mem_take h)
def ptsOf (ps : List Pt) : List (List Nat × Nat) := ps.map fun p => (p.bys, p.bits)
def pk0 (l : List Nat) (k : Nat) : List (List Nat × Nat) := (List.range k).map fun i => (packBk (chk l i), 0)
theorem pk0_succ (l : List Nat) (k : Nat) : pk0 l (k + 1) = pk0 l k ++ [(packBk (chk l k), 0)] := by simp [pk0, List.range_succ]
theorem ptsOf_snoc (ps : List Pt) (p : Pt) : ptsOf (ps ++ [p]) = ptsOf ps ++ [(p.bys, p.bits)] := by simp [ptsOf]
theorem ptsOf_length (ps : List Pt) : (ptsOf ps).length = ps.length := by simp [ptsOf]
def mxN (l : List Nat) : Nat := l.foldl (fun m x => max m (x + 1)) 0
theorem mxN_snoc (l : List Nat) (x : Nat) : mxN (l ++ [x]) = max (mxN l) (x + 1) := by simp [mxN]
theorem mxN_le {l : List Nat} {B : Nat} (h : ∀ x ∈ l, x < B) : mxN l ≤ B := by
  have : ∀ (l : List Nat) (m : Nat), m ≤ B → (∀ x ∈ l, x < B) → l.foldl (fun m x => max m (x + 1)) m ≤ B := by
    intro l
    induction l with
    | nil => intro m hm _; exact hm
    | cons x r ih => intro m hm h; exact ih _ (by have := h x (by simp); show max m (x + 1) ≤ B; omega) fun y hy => h y (by simp [hy])
  exact this l 0 (Nat.zero_le _) h
theorem mxN_ge : ∀ (l : List Nat), ∀ x ∈ l, x < mxN l := by
  have mono : ∀ (l : List Nat) (m : Nat), m ≤ l.foldl (fun m x => max m (x + 1)) m := by
    intro l
    induction l with
    | nil => intro m; exact Nat.le_refl _
    | cons x r ih => intro m; exact Nat.le_trans (Nat.le_max_left _ _) (ih _)
  have : ∀ (l : List Nat) (m : Nat), ∀ x ∈ l, x < l.foldl (fun m x => max m (x + 1)) m := by
    intro l
    induction l with
    | nil => intro m x h; cases h
    | cons y r ih =>
      intro m x h
      rcases List.mem_cons.1 h with rfl | h
      · exact Nat.lt_of_lt_of_le (by omega : x < max m (x + 1)) (mono r _)
      · exact ih _ x h
  exact fun l => this l 0
def cntStep (c : List Nat) (x : Nat) : List Nat := c.set x (c.getD x 0 + 1)
def cntN (m : Nat) (l : List Nat) : List Nat := l.foldl cntStep (List.replicate m 0)
theorem cntN_snoc (m : Nat) (l : List Nat) (x : Nat) : cntN m (l ++ [x]) = cntStep (cntN m l) x := by simp [cntN]
theorem cntN_length (m : Nat) (l : List Nat) : (cntN m l).length = m := by
  have : ∀ (l c : List Nat), (l.foldl cntStep c).length = c.length := by
    intro l; induction l with
    | nil => intro c; rfl
    | cons x r ih => intro c; rw [List.foldl_cons, ih]; simp [cntStep]
  rw [cntN, this]; simp
theorem cntN_le (m : Nat) (l : List Nat) : ∀ x ∈ cntN m l, x ≤ l.length := by
  have : ∀ (l c : List Nat) (B : Nat), (∀ x ∈ c, x ≤ B) → ∀ x ∈ l.foldl cntStep c, x ≤ B + l.length := by
    intro l
    induction l with
    | nil => intro c B h x hx; simpa using h x hx
    | cons y r ih =>
      intro c B h x hx
      have := ih (cntStep c y) (B + 1) (fun z hz => by
        rcases List.mem_or_eq_of_mem_set hz with hz | rfl
        · have := h z hz; omega
        · rw [List.getD_eq_getElem?_getD]
          cases hg : c[y]? with
          | none => simp
          | some v => have := h v (List.mem_of_getElem? hg); simp; exact this) x hx
      simp only [List.length_cons]; omega
  have h := this l (List.replicate m 0) 0 (fun x hx => by have := List.eq_of_mem_replicate hx; omega)
  simpa [cntN] using h
theorem cntN_pos {m : Nat} {l : List Nat} (hm : ∀ x ∈ l, x < m) : ∀ x ∈ l, 0 < (cntN m l).getD x 0 := by
  have mono : ∀ (l c : List Nat) (j : Nat), c.getD j 0 ≤ (l.foldl cntStep c).getD j 0 := by
    intro l
    induction l with
    | nil => intro c j; exact Nat.le_refl _
    | cons y r ih =>
      intro c j
      refine Nat.le_trans ?_ (ih _ j)
      by_cases h : y = j
      · subst h
        by_cases hl : y < c.length
        · rw [cntStep, getD_set_eq hl]; omega
        · simp [List.getD_eq_getElem?_getD, List.getElem?_eq_none (Nat.le_of_not_lt hl)]
      · rw [cntStep, getD_set_ne' h]; exact Nat.le_refl _
  have : ∀ (l c : List Nat), (∀ x ∈ l, x < c.length) → ∀ x ∈ l, 0 < (l.foldl cntStep c).getD x 0 := by
    intro l
    induction l with
    | nil => intro c _ x h; cases h
    | cons y r ih =>
      intro c hc x h
      have hy := hc y (by simp)
      by_cases hx : x = y
      · subst hx
        refine Nat.lt_of_lt_of_le ?_ (mono r _ x)
        rw [cntStep, getD_set_eq hy]; omega
      · exact ih (cntStep c y) (fun z hz => by simp [cntStep]; exact hc z (by simp [hz])) x ((List.mem_cons.1 h).resolve_left hx)
  exact this l _ (by simpa using hm)
def symL (l : List Nat) : List Nat := lensN (cntN (mxN l) l)
theorem symL_length (l : List Nat) : (symL l).length = mxN l := by rw [symL, lensN_length, cntN_length]
theorem symL_ok (l : List Nat) (h : mxN l ≤ 1024) : LensOk (cntN (mxN l) l) (symL l) := lensN_ok _ (by have := leaves_length (cntN (mxN l) l); rw [cntN_length] at this; omega)
theorem symL_pos {l : List Nat} (h : mxN l ≤ 1024) : ∀ x ∈ l, x < (symL l).length ∧ 0 < lenKey (symL l) x := fun x hx => by
  have h1 := mxN_ge l x hx
  have h2 := cntN_pos (mxN_ge l) x hx
  refine ⟨by rw [symL_length]; exact h1, ?_⟩
  have := (symL_ok l h).zero x (by rw [cntN_length]; exact h1)
  rw [lenKey]; omega
def pk1 (l : List Nat) (k : Nat) : List (List Nat × Nat) := (List.range k).map fun i => (packB (hufB (symL l) (chk l i)), (hufB (symL l) (chk l i)).length)
theorem pk1_succ (l : List Nat) (k : Nat) : pk1 l (k + 1) = pk1 l k ++ [(packB (hufB (symL l) (chk l k)), (hufB (symL l) (chk l k)).length)] := by simp [pk1, List.range_succ]
def pld1 (kind : Nat) (p : List Nat × Nat) : List Nat := uv (if kind = 0 then p.1.length else p.2) ++ p.1
def pld (kind : Nat) (ps : List (List Nat × Nat)) : List Nat := ps.flatMap (pld1 kind)
theorem pld_snoc (kind : Nat) (ps : List (List Nat × Nat)) (p : List Nat × Nat) : pld kind (ps ++ [p]) = pld kind ps ++ pld1 kind p := by simp [pld]
def hdP (n kind : Nat) (lens : List Nat) : List Nat := uv n ++ uv kind ++ (if kind = 1 then uv lens.length ++ lens.map (· % 2 ^ 8) else [])
theorem hdP_length (n kind : Nat) (lens : List Nat) : (hdP n kind lens).length ≤ 30 + lens.length := by
  have h1 := uv_le n; have h2 := uv_le kind; have h3 := uv_le lens.length
  unfold hdP
  split <;> simp <;> omega
def payl (n kind : Nat) (lens : List Nat) (ps : List (List Nat × Nat)) : List Nat := hdP n kind lens ++ pld kind ps
theorem ptsOf_get {ps : List Pt} {k : Nat} {x : Pt} (h : ps[k]? = some x) : (ptsOf ps)[k]? = some (x.bys, x.bits) := by simp [ptsOf, h]
theorem packBk_len (l : List Nat) (h : l.length ≤ 64) : (packBk l).length ≤ 10000 := by
  have hw : ∀ w, w ≤ 31 → ∀ l : List Nat, (encSt w l).2.1.length = l.length * w ∧ (encSt w l).2.2.1.length ≤ 20 * l.length := by
    intro w _
    refine snocInd ⟨by simp [encSt], by simp [encSt]⟩ fun l x ih => ?_
    rw [encSt_snoc]
    have h1 := uv_le ((encSt w l).1 + 1 - (encSt w l).2.2.2.2)
    have h2 := uv_le (x / 2 ^ w)
    unfold encStep
    simp only [List.length_append, List.length_cons, List.length_nil]
    split <;> simp only [List.length_append, lowB_length] <;> (refine ⟨by rw [ih.1, Nat.add_mul]; omega, by omega⟩)
  have hb := bestW_le l 32
  obtain ⟨h1, h2⟩ := hw (bestW l 32) (by omega) l
  have a1 := uv_le l.length
  have a2 := uv_le (bestW l 32)
  have a3 := uv_le (encSt (bestW l 32) l).2.2.2.1
  have hm : l.length * bestW l 32 ≤ 64 * 31 := Nat.mul_le_mul h (by omega)
  unfold packBk encBk
  simp only [List.length_append, packB_length]
  omega
theorem ptsOf_mem {ps : List Pt} {q : List (List Nat × Nat)} (h : ptsOf ps = q) {C : List Nat × Nat → Prop} (hq : ∀ x ∈ q, C x) : ∀ p ∈ ps, C (p.bys, p.bits) := fun p hp => hq _ (by rw [← h]; exact List.mem_map_of_mem hp)
theorem pk0_b {l : List Nat} {ps : List Pt} (h : ptsOf ps = pk0 l (nbk l.length)) (hn : l.length ≤ 4096) : ps.length ≤ 100 ∧ ∀ p ∈ ps, p.bys.length ≤ 20000 ∧ p.bits ≤ 1000000 := by
  refine ⟨by rw [← ptsOf_length, h]; simp [pk0, nbk]; omega, ptsOf_mem (C := fun q => q.1.length ≤ 20000 ∧ q.2 ≤ 1000000) h fun x hx => ?_⟩
  obtain ⟨i, _, rfl⟩ := List.mem_map.1 hx
  have := packBk_len (chk l i) (by rw [chk_length]; omega)
  exact ⟨by show (packBk (chk l i)).length ≤ 20000; omega, by show 0 ≤ 1000000; omega⟩
theorem pk1_b {l : List Nat} {ps : List Pt} (h : ptsOf ps = pk1 l (nbk l.length)) (hn : l.length ≤ 4096) (hm : mxN l ≤ 1024) : ps.length ≤ 100 ∧ ∀ p ∈ ps, p.bys.length ≤ 20000 ∧ p.bits ≤ 1000000 := by
  refine ⟨by rw [← ptsOf_length, h]; simp [pk1, nbk]; omega, ptsOf_mem (C := fun q => q.1.length ≤ 20000 ∧ q.2 ≤ 1000000) h fun x hx => ?_⟩
  obtain ⟨i, _, rfl⟩ := List.mem_map.1 hx
  have h1 := hufB_length (GoodLens.of_ok (symL_ok l hm)) (chk l i)
  have h2 := chk_length l i
  exact ⟨by show (packB (hufB (symL l) (chk l i))).length ≤ 20000; rw [packB_length]; omega, by show (hufB (symL l) (chk l i)).length ≤ 1000000; omega⟩
def plK (l : List Nat) (kind : Nat) : List Nat := payl l.length kind (if kind = 1 then symL l else []) (if kind = 1 then pk1 l (nbk l.length) else pk0 l (nbk l.length))
def kindN (l : List Nat) : Nat := if (plK l 1).length < (plK l 0).length then 1 else 0
def lensK (l : List Nat) : List Nat := if kindN l = 1 then symL l else []
def ptsK (l : List Nat) : List (List Nat × Nat) := if kindN l = 1 then pk1 l (nbk l.length) else pk0 l (nbk l.length)
theorem kindN_one {l : List Nat} (h : (plK l 1).length < (plK l 0).length) : kindN l = 1 ∧ lensK l = symL l ∧ ptsK l = pk1 l (nbk l.length) := by
  have hk : kindN l = 1 := by rw [kindN, if_pos h]
  exact ⟨hk, by rw [lensK, if_pos hk], by rw [ptsK, if_pos hk]⟩
theorem kindN_zero {l : List Nat} (h : ¬ (plK l 1).length < (plK l 0).length) : kindN l = 0 ∧ lensK l = [] ∧ ptsK l = pk0 l (nbk l.length) := by
  have hk : kindN l = 0 := by rw [kindN, if_neg h]
  exact ⟨hk, by rw [lensK, if_neg (by omega)], by rw [ptsK, if_neg (by omega)]⟩
theorem kindN_le (l : List Nat) : kindN l ≤ 1 := by unfold kindN; split <;> omega
structure OkN (l : List Nat) : Prop where
  len : l.length ≤ 4096
  lt : ∀ x ∈ l, x < 1024
theorem OkN.mx {l : List Nat} (h : OkN l) : mxN l ≤ 1024 := mxN_le h.lt
theorem ptsK_b {l : List Nat} {ps : List Pt} (h : ptsOf ps = ptsK l) (hl : OkN l) : ps.length ≤ 100 ∧ ∀ p ∈ ps, p.bys.length ≤ 20000 ∧ p.bits ≤ 1000000 := by
  unfold ptsK at h
  split at h
  · exact pk1_b h hl.len hl.mx
  · exact pk0_b h hl.len
theorem lensK_len {l : List Nat} (hl : OkN l) : (lensK l).length ≤ 1024 := by
  unfold lensK
  split
  · rw [symL_length]; exact hl.mx
  · simp
theorem payl_K (l : List Nat) : payl l.length (kindN l) (lensK l) (ptsK l) = plK l (kindN l) := rfl
theorem payl_len {n kind : Nat} {lens : List Nat} {ps : List Pt} (hll : lens.length ≤ 1024) (h : ps.length ≤ 100) (hb : ∀ p ∈ ps, p.bys.length ≤ 20000 ∧ p.bits ≤ 1000000) : (payl n kind lens (ptsOf ps)).length ≤ 3000000 := by
  have h1 := hdP_length n kind lens
  have : ∀ ps : List Pt, (∀ p ∈ ps, p.bys.length ≤ 20000 ∧ p.bits ≤ 1000000) → (pld kind (ptsOf ps)).length ≤ 20010 * ps.length := by
    intro ps
    induction ps with
    | nil => intro _; simp [pld, ptsOf]
    | cons p r ih =>
      intro hb
      have h1 := ih fun q hq => hb q (by simp [hq])
      have h2 := hb p (by simp)
      have e : pld kind (ptsOf (p :: r)) = pld1 kind (p.bys, p.bits) ++ pld kind (ptsOf r) := by simp [pld, ptsOf]
      have h3 := uv_le (if kind = 0 then p.bys.length else p.bits)
      rw [e, List.length_append, List.length_cons, pld1, List.length_append]
      simp only at h3 ⊢
      omega
  have h2 := this ps hb
  unfold payl
  rw [List.length_append]; omega
def CacheOk (l : List Nat) (last : Nat) (blk : List Nat) : Prop := (last = 0 ∧ blk = []) ∨ ∃ q, last = q + 1 ∧ q < nbk l.length ∧ blk = chk l q
theorem CacheOk.hit {l blk : List Nat} {k : Nat} (h : CacheOk l (k + 1) blk) : blk = chk l k := by
  rcases h with ⟨h, _⟩ | ⟨q, h1, _, h2⟩
  · omega
  · rw [h2, show q = k by omega]
theorem CacheOk.now {l : List Nat} {k : Nat} (h : k < nbk l.length) : CacheOk l (k + 1) (chk l k) := .inr ⟨k, rfl, h, rfl⟩
theorem CacheOk.le {l blk : List Nat} {last : Nat} (h : CacheOk l last blk) : last ≤ nbk l.length := by
  rcases h with ⟨h, _⟩ | ⟨q, h1, h2, _⟩ <;> omega
theorem CacheOk.zero (l : List Nat) : CacheOk l 0 [] := .inl ⟨rfl, rfl⟩
theorem ptsK_get {l : List Nat} {ps : List Pt} (h : ptsOf ps = ptsK l) {k : Nat} (hk : k < nbk l.length) : ∃ p, ps[k]? = some p ∧ (p.bys, p.bits) = if kindN l = 1 then (packB (hufB (symL l) (chk l k)), (hufB (symL l) (chk l k)).length) else (packBk (chk l k), 0) := by
  have hl : ps.length = nbk l.length := by rw [← ptsOf_length, h]; unfold ptsK; split <;> simp [pk0, pk1]
  obtain ⟨p, hp⟩ : ∃ p, ps[k]? = some p := ⟨_, List.getElem?_eq_getElem (by omega)⟩
  refine ⟨p, hp, ?_⟩
  have h1 := ptsOf_get hp
  rw [h] at h1
  unfold ptsK at h1
  split at h1
  · rename_i h0; rw [if_pos h0]
    rw [pk1, List.getElem?_map, List.getElem?_range hk] at h1
    exact (Option.some.inj h1).symm
  · rename_i h0; rw [if_neg h0]
    rw [pk0, List.getElem?_map, List.getElem?_range hk] at h1
    exact (Option.some.inj h1).symm
theorem nbk_lt {n i : Nat} (h : i < n) : i / 64 < nbk n := by unfold nbk; omega
theorem chk_slice (l : List Nat) {a e t : Nat} (h1 : a < e) (h2 : e ≤ (a / 64 + 1) * 64) (ht : t = e - a / 64 * 64) : ((chk l (a / 64)).take t).drop (a % 64) = (l.take e).drop a := by
  apply List.ext_getElem?
  intro i
  subst ht
  rw [List.getElem?_drop, List.getElem?_drop, List.getElem?_take, List.getElem?_take, chk]
  by_cases h : a + i < e
  · rw [if_pos (by omega), if_pos h, List.getElem?_take_of_lt (by omega), List.getElem?_drop]
    congr 1; omega
  · rw [if_neg (by omega), if_neg h]
theorem take_drop_glue (l : List Nat) {a b e : Nat} (h1 : a ≤ b) (h2 : b ≤ e) : (l.take b).drop a ++ (l.take e).drop b = (l.take e).drop a := by
  rw [← List.take_append_drop (b - a) ((l.take e).drop a), List.drop_drop, show a + (b - a) = b by omega]
  congr 1
  rw [List.take_drop, show a + (b - a) = b by omega, List.take_take, Nat.min_eq_left h2]
end Go.Kw
namespace Go.Kw
def st1 (v : Nat) : Nat := if v % 2 ^ 1 = 1 then v / 2 ^ 1 ^^^ 2197175160 else v / 2 ^ 1
def stepN (v : Nat) : Nat → Nat
  | 0 => v
  | n + 1 => st1 (stepN v n)
def tabE (i : Nat) : Nat := stepN i 4
def crcA (v c : Nat) : Nat := v ^^^ c
def crcB (a : Nat) : Nat := a / 2 ^ 4 ^^^ tabE (a % 2 ^ 4)
def crc1 (v c : Nat) : Nat := crcB (crcB (crcA v c))
def crcF (l : List Nat) : Nat := l.foldl crc1 4294967295
theorem crcF_snoc (l : List Nat) (c : Nat) : crcF (l ++ [c]) = crc1 (crcF l) c := by simp [crcF]
def sumN (l : List Nat) : Nat := 4294967295 ^^^ crcF l
def byts (v : Nat) : List Nat := [v % 2 ^ 8, v / 2 ^ 8 % 2 ^ 8, v / 2 ^ 16 % 2 ^ 8, v / 2 ^ 24 % 2 ^ 8]
def sealN (l : List Nat) : List Nat := l ++ byts (sumN l)
theorem byts_lt (v : Nat) : ∀ x ∈ byts v, x < 256 := fun x hx => by
  simp only [byts, List.mem_cons, List.not_mem_nil, or_false] at hx
  omega
theorem sealN_length (l : List Nat) : (sealN l).length = l.length + 4 := by simp [sealN, byts]
theorem xor_lt32 {a b : Nat} (ha : a < 4294967296) (hb : b < 4294967296) : a ^^^ b < 4294967296 := by
  have := Nat.xor_lt_two_pow (n := 32) (x := a) (y := b) (by omega) (by omega); omega
theorem st1_lt {v : Nat} (h : v < 4294967296) : st1 v < 4294967296 := by
  unfold st1
  split
  · exact xor_lt32 (by omega) (by omega)
  · omega
theorem stepN_lt {v : Nat} (h : v < 4294967296) : ∀ n, stepN v n < 4294967296
  | 0 => h
  | n + 1 => st1_lt (stepN_lt h n)
theorem tabE_lt {i : Nat} (h : i < 16) : tabE i < 4294967296 := stepN_lt (by omega) 4
theorem crcB_lt {a : Nat} (h : a < 4294967296) : crcB a < 4294967296 := xor_lt32 (by omega) (tabE_lt (by omega))
theorem crcF_lt : ∀ (l : List Nat), (∀ x ∈ l, x < 256) → crcF l < 4294967296 := by
  refine snocInd (fun _ => by simp [crcF]) fun l c ih h => ?_
  rw [crcF_snoc]
  have h1 := ih fun x hx => h x (by simp [hx])
  have h2 := h c (by simp)
  exact crcB_lt (crcB_lt (xor_lt32 h1 (by omega)))
theorem sumN_lt {l : List Nat} (h : ∀ x ∈ l, x < 256) : sumN l < 4294967296 := xor_lt32 (by omega) (crcF_lt l h)
def crcTab : List Nat := (List.range 16).map tabE
def tabU (k : Nat) : List Nat := (List.range k).map tabE ++ List.replicate (16 - k) 0
theorem tabU_length {k : Nat} (h : k ≤ 16) : (tabU k).length = 16 := by simp [tabU]; omega
theorem tabU_set {k : Nat} (h : k < 16) : (tabU k).set k (tabE k) = tabU (k + 1) := by
  unfold tabU
  rw [List.set_append_right _ _ (by simp), show 16 - k = (16 - (k + 1)) + 1 by omega, List.replicate_succ, List.range_succ]
  simp
theorem tabU_all : tabU 16 = crcTab := by simp [tabU, crcTab]
theorem crcTab_get {i : Nat} (h : i < 16) : crcTab[i]? = some (tabE i) := by simp [crcTab, h]
theorem encBk_lt (width : Nat) (l : List Nat) : ∀ x ∈ encBk width l, x < 256 := fun x hx => by
  have he : ∀ l : List Nat, ∀ x ∈ (encSt width l).2.2.1, x < 256 := by
    refine snocInd (fun x hx => by simp [encSt] at hx) fun l y ih x hx => ?_
    rw [encSt_snoc] at hx
    unfold encStep at hx
    split at hx
    · simp only [List.mem_append] at hx
      rcases hx with (hx | hx) | hx
      · exact ih x hx
      · exact uv_lt _ x hx
      · exact uv_lt _ x hx
    · exact ih x hx
  unfold encBk at hx
  simp only [List.mem_append] at hx
  rcases hx with (((hx | hx) | hx) | hx) | hx
  · exact uv_lt _ x hx
  · exact uv_lt _ x hx
  · exact uv_lt _ x hx
  · exact packB_lt _ x hx
  · exact he l x hx
theorem pld_lt (kind : Nat) (ps : List (List Nat × Nat)) (h : ∀ p ∈ ps, ∀ x ∈ p.1, x < 256) : ∀ x ∈ pld kind ps, x < 256 := fun x hx => by
  obtain ⟨p, hp, hx⟩ := List.mem_flatMap.1 hx
  rcases List.mem_append.1 hx with hx | hx
  · exact uv_lt _ x hx
  · exact h p hp x hx
theorem payl_lt (n kind : Nat) (lens : List Nat) (ps : List (List Nat × Nat)) (h : ∀ p ∈ ps, ∀ x ∈ p.1, x < 256) : ∀ x ∈ payl n kind lens ps, x < 256 := fun x hx => by
  unfold payl hdP at hx
  simp only [List.mem_append] at hx
  rcases hx with ((hx | hx) | hx) | hx
  · exact uv_lt _ x hx
  · exact uv_lt _ x hx
  · split at hx
    · rcases List.mem_append.1 hx with hx | hx
      · exact uv_lt _ x hx
      · obtain ⟨y, _, rfl⟩ := List.mem_map.1 hx; omega
    · cases hx
  · exact pld_lt kind ps h x hx
theorem ptsK_lt (l : List Nat) : ∀ p ∈ ptsK l, ∀ x ∈ p.1, x < 256 := fun p hp x hx => by
  unfold ptsK at hp
  split at hp
  · obtain ⟨i, _, rfl⟩ := List.mem_map.1 hp; exact packB_lt _ x hx
  · obtain ⟨i, _, rfl⟩ := List.mem_map.1 hp; exact encBk_lt _ _ x hx
end Go.Kw
namespace Go.Kw
theorem drop_of_get {α : Type} {l : List α} {k : Nat} {x : α} (h : l[k]? = some x) : l.drop k = x :: l.drop (k + 1) := by
  obtain ⟨hk, rfl⟩ := List.getElem?_eq_some_iff.1 h
  exact List.drop_eq_getElem_cons hk
def uvr : Nat → Nat → List Nat → Nat × Nat × Nat
  | _, _, [] => (0, 0, 10)
  | i, v, c :: r => if i = 9 ∧ c ≠ 1 then (0, 0, 9) else if c < 128 then (if c = 0 ∧ 0 < i then (0, 0, 9) else (v + c % 2 ^ 7 * 2 ^ (7 * i), i + 1, 0)) else uvr (i + 1) (v + c % 2 ^ 7 * 2 ^ (7 * i)) r
def uvR (l : List Nat) : Nat × Nat × Nat := uvr 0 0 l
theorem uvr_le : ∀ (l : List Nat) (i v : Nat), (uvr i v l).2.1 ≤ i + l.length
  | [], i, v => by simp [uvr]
  | c :: r, i, v => by
    have ih := uvr_le r (i + 1) (v + c % 2 ^ 7 * 2 ^ (7 * i))
    rw [uvr]
    simp only [List.length_cons]
    split
    · simp
    · split
      · split
        · simp
        · simp <;> omega
      · omega
theorem uvR_le (l : List Nat) : (uvR l).2.1 ≤ l.length := by have := uvr_le l 0 0; rw [Nat.zero_add] at this; exact this
theorem or_high {v x k : Nat} (h : v < 2 ^ k) : v ||| x * 2 ^ k = v + x * 2 ^ k := by
  rw [Nat.or_comm, Nat.add_comm, ← Nat.shiftLeft_eq, Nat.shiftLeft_add_eq_or_of_lt h]
theorem pow7_le {k : Nat} (h : k ≤ 8) : 2 ^ (7 * k) ≤ 2 ^ 56 := Nat.pow_le_pow_right (by decide) (by omega)
theorem uvr_small {c k : Nat} (hk : k ≤ 9) (h9 : ¬ (k = 9 ∧ c ≠ 1)) : c % 2 ^ 7 * 2 ^ (7 * k) < 2 ^ 64 := by
  by_cases h : k = 9
  · have : c = 1 := Classical.byContradiction fun hc => h9 ⟨h, hc⟩
    subst h; subst this; decide
  · have := pow7_le (by omega : k ≤ 8)
    have h2 : c % 2 ^ 7 * 2 ^ (7 * k) ≤ c % 2 ^ 7 * 2 ^ 56 := Nat.mul_le_mul_left _ this
    omega
theorem uvr_or {v c k : Nat} (hv : v < 2 ^ (7 * k)) (hk : k ≤ 9) (h9 : ¬ (k = 9 ∧ c ≠ 1)) : v ||| (c % 2 ^ 7 * 2 ^ (7 * k) % 2 ^ 64) = v + c % 2 ^ 7 * 2 ^ (7 * k) := by
  rw [Nat.mod_eq_of_lt (uvr_small hk h9), or_high hv]
theorem uvr_bound {v c k : Nat} (hv : v < 2 ^ (7 * k)) : v + c % 2 ^ 7 * 2 ^ (7 * k) < 2 ^ (7 * (k + 1)) := by
  have e : 2 ^ (7 * (k + 1)) = 2 ^ 7 * 2 ^ (7 * k) := by rw [← Nat.pow_add]; congr 1; omega
  have h : c % 2 ^ 7 * 2 ^ (7 * k) ≤ (2 ^ 7 - 1) * 2 ^ (7 * k) := Nat.mul_le_mul_right _ (by omega)
  rw [Nat.sub_mul] at h
  have : 2 ^ (7 * k) ≤ 2 ^ 7 * 2 ^ (7 * k) := Nat.le_mul_of_pos_left _ (by decide)
  rw [e]; omega
theorem or128 : ∀ y, y < 256 → (y ||| 128) % 2 ^ 7 = y % 2 ^ 7 ∧ 128 ≤ (y ||| 128) ∧ (y ||| 128) < 256 := by decide +kernel
theorem uvr_uvF : ∀ (f i v x : Nat) (rest : List Nat), x < 128 ^ (f + 1) → i + f = 9 → x * 2 ^ (7 * i) < 2 ^ 64 → (0 < x ∨ i = 0) → uvr i v (uvF f x ++ rest) = (v + x * 2 ^ (7 * i), i + (uvF f x).length, 0)
  | 0, i, v, x, rest, hx, hi, hb, h0 => by
    have hx1 : x < 128 := by simpa using hx
    have h9 : i = 9 := by omega
    subst h9
    have hx2 : x ≤ 1 := by omega
    have hx3 : x = 1 := by omega
    subst hx3
    simp [uvF, uvr]
  | f + 1, i, v, x, rest, hx, hi, hb, h0 => by
    rw [uvF]
    by_cases hs : x < 128
    · rw [if_pos hs]
      have e1 : x % 2 ^ 8 = x := Nat.mod_eq_of_lt (by omega)
      have e2 : x % 2 ^ 7 = x := Nat.mod_eq_of_lt (by omega)
      rw [e1, List.singleton_append, uvr, if_neg (by omega), if_pos hs, if_neg (by omega), e2]
      simp
    · rw [if_neg hs, List.cons_append]
      obtain ⟨h1, h2, h3⟩ := or128 (x % 2 ^ 8) (by omega)
      rw [uvr, if_neg (by omega), if_neg (Nat.not_lt.2 h2), h1]
      have hp : 2 ^ (7 * (i + 1)) = 2 ^ 7 * 2 ^ (7 * i) := by rw [← Nat.pow_add]; congr 1; omega
      have hdiv : x / 2 ^ 7 * 2 ^ (7 * (i + 1)) + x % 2 ^ 7 * 2 ^ (7 * i) = x * 2 ^ (7 * i) := by
        rw [hp, ← Nat.mul_assoc, ← Nat.add_mul]
        congr 1
        have := Nat.div_add_mod x (2 ^ 7); omega
      have hx7 : x < 2 ^ 7 * 128 ^ (f + 1) := by rw [Nat.pow_succ, Nat.mul_comm] at hx; exact hx
      have hb2 : x / 2 ^ 7 * 2 ^ (7 * (i + 1)) < 2 ^ 64 := Nat.lt_of_le_of_lt (by rw [← hdiv]; exact Nat.le_add_right _ _) hb
      have ih := uvr_uvF f (i + 1) (v + x % 2 ^ 8 % 2 ^ 7 * 2 ^ (7 * i)) (x / 2 ^ 7) rest (Nat.div_lt_of_lt_mul hx7) (by omega) hb2 (.inl (Nat.div_pos (by omega) (by decide)))
      rw [ih]
      have e8 : x % 2 ^ 8 % 2 ^ 7 = x % 2 ^ 7 := by omega
      rw [e8]
      simp only [List.length_cons, Prod.mk.injEq, and_true]
      refine ⟨?_, by rw [Nat.add_assoc, Nat.add_comm 1]⟩
      rw [← hdiv, Nat.add_assoc, Nat.add_comm (x % 2 ^ 7 * 2 ^ (7 * i))]
theorem uvR_uv {x : Nat} (h : x < 2 ^ 64) (rest : List Nat) : uvR (uv x ++ rest) = (x, (uv x).length, 0) := by
  have := uvr_uvF 9 0 0 x rest (by have : (2 : Nat) ^ 64 ≤ 128 ^ 10 := by decide
                                   omega) rfl (by simpa using h) (.inr rfl)
  simpa [uvR, uv] using this
def numN (ok : Bool) (l : List Nat) (lim : Nat) : Nat × Bool × List Nat :=
  if ok = false ∨ (uvR l).2.2 ≠ 0 ∨ lim < (uvR l).1 then (0, false, l) else ((uvR l).1, true, l.drop (uvR l).2.1)
theorem numN_uv {x lim : Nat} (h : x < 2 ^ 64) (hl : x ≤ lim) (rest : List Nat) : numN true (uv x ++ rest) lim = (x, true, rest) := by
  unfold numN
  rw [uvR_uv h, if_neg (by simp; omega)]
  simp
theorem numN_le (ok : Bool) (l : List Nat) (lim : Nat) : (numN ok l lim).1 ≤ lim := by
  unfold numN; split
  · simp
  · rename_i h; simp at h; simp; omega
theorem numN_mem (ok : Bool) (l : List Nat) (lim : Nat) : ∀ x ∈ (numN ok l lim).2.2, x ∈ l := by
  unfold numN; split
  · exact fun x h => h
  · exact fun x h => List.mem_of_mem_drop h
theorem numN_len (ok : Bool) (l : List Nat) (lim : Nat) : (numN ok l lim).2.2.length ≤ l.length := by
  unfold numN; split
  · exact Nat.le_refl _
  · simp
def rb (l : List Nat) (i : Nat) : Nat := l.getD (i / 8) 0 / 2 ^ (7 - i % 8) % 2
theorem rb_lt (l : List Nat) (i : Nat) : rb l i < 2 := Nat.mod_lt _ (by decide)
def bvN (l : List Nat) (a : Nat) : Nat → Nat
  | 0 => 0
  | m + 1 => 2 * bvN l a m + rb l (a + m)
theorem bvN_lt (l : List Nat) (a : Nat) : ∀ m, bvN l a m < 2 ^ m
  | 0 => by simp [bvN]
  | m + 1 => by have := bvN_lt l a m; have := rb_lt l (a + m); rw [bvN, Nat.pow_succ]; omega
theorem or_one {v b : Nat} (hb : b < 2) (hv : v < 2 ^ 63) : v * 2 ^ 1 % 2 ^ 64 ||| b = 2 * v + b := by
  rw [Nat.mod_eq_of_lt (by omega), Nat.or_comm, or_high (k := 1) (by omega)]; omega
theorem byteAt_bit8 : ∀ (b0 b1 b2 b3 b4 b5 b6 b7 : Bool) (j : Fin 8), (bitv b0 128 ||| (bitv b1 64 ||| (bitv b2 32 ||| (bitv b3 16 ||| (bitv b4 8 ||| (bitv b5 4 ||| (bitv b6 2 ||| bitv b7 1))))))) / 2 ^ (7 - j.val) % 2 = ([b0, b1, b2, b3, b4, b5, b6, b7].getD j.val false).toNat := by decide +kernel
theorem byteAt_bit (l : List Bool) (k j : Nat) (hj : j < 8) : byteAt l k / 2 ^ (7 - j) % 2 = (bitAt l (8 * k + j)).toNat := by
  have h := byteAt_bit8 (bitAt l (8 * k)) (bitAt l (8 * k + 1)) (bitAt l (8 * k + 2)) (bitAt l (8 * k + 3)) (bitAt l (8 * k + 4)) (bitAt l (8 * k + 5)) (bitAt l (8 * k + 6)) (bitAt l (8 * k + 7)) ⟨j, hj⟩
  unfold byteAt
  refine h.trans (congrArg Bool.toNat ?_)
  match j, hj with
  | 0, _ => rfl
  | 1, _ => rfl
  | 2, _ => rfl
  | 3, _ => rfl
  | 4, _ => rfl
  | 5, _ => rfl
  | 6, _ => rfl
  | 7, _ => rfl
theorem rb_pack {l : List Bool} {i : Nat} (h : i < l.length) : rb (packB l) i = (bitAt l i).toNat := by
  have hg : (packB l)[i / 8]? = some (byteAt l (i / 8)) := by
    unfold packB; rw [List.getElem?_map, List.getElem?_range (by omega)]; rfl
  have hd : (packB l).getD (i / 8) 0 = byteAt l (i / 8) := by rw [List.getD_eq_getElem?_getD, hg]; rfl
  rw [rb, hd, byteAt_bit l _ _ (Nat.mod_lt _ (by decide))]
  congr 2; omega
theorem lowB_get (x : Nat) : ∀ (m k : Nat), k < m → (lowB x m)[k]? = some (decide (x / 2 ^ (m - 1 - k) % 2 = 1))
  | 0, k, h => by omega
  | m + 1, 0, _ => by simp [lowB]
  | m + 1, k + 1, h => by
    have := lowB_get x m k (by omega)
    rw [lowB, List.getElem?_cons_succ, this, show m + 1 - 1 - (k + 1) = m - 1 - k by omega]
theorem bvN_at (A B : List Bool) (x m : Nat) (hx : x < 2 ^ m) : ∀ k, k ≤ m → bvN (packB (A ++ lowB x m ++ B)) A.length k = x / 2 ^ (m - k)
  | 0, _ => by rw [bvN, Nat.sub_zero, Nat.div_eq_of_lt hx]
  | k + 1, hk => by
    have ih := bvN_at A B x m hx k (by omega)
    have hl : (A ++ lowB x m ++ B).length = A.length + m + B.length := by simp [lowB_length, Nat.add_assoc]
    have hbit : bitAt (A ++ lowB x m ++ B) (A.length + k) = decide (x / 2 ^ (m - 1 - k) % 2 = 1) := by
      rw [bitAt, List.getD_eq_getElem?_getD, List.append_assoc, List.getElem?_append_right (by omega), Nat.add_sub_cancel_left, List.getElem?_append_left (by rw [lowB_length]; omega), lowB_get x m k (by omega)]; rfl
    rw [bvN, ih, rb_pack (by omega), hbit]
    have e : m - k = (m - (k + 1)) + 1 := by omega
    have e2 : m - 1 - k = m - (k + 1) := by omega
    rw [e2, e, Nat.pow_succ, ← Nat.div_div_eq_div_mul]
    generalize x / 2 ^ (m - (k + 1)) = q
    by_cases h : q % 2 = 1
    · rw [decide_eq_true h]; simp; omega
    · rw [decide_eq_false h]; simp; omega
end Go.Kw
namespace Go.Kw
theorem uv_stepR {v : Nat} (hv : v < 2 ^ 64) (h : 128 ≤ v) : uv v = (v % 128 + 128) :: uv (v / 128) := by
  rw [uv_step v hv h]
  have := or128 (v % 2 ^ 8) (by omega)
  have e : (v % 2 ^ 8 ||| 128) = v % 128 + 128 := by
    obtain ⟨h1, h2, h3⟩ := this
    omega
  rw [e]
theorem uv_smallR {v : Nat} (h : v < 128) : uv v = [v] := by rw [uv_small v h, Nat.mod_eq_of_lt (by omega)]
theorem lowB_mod (x w : Nat) : ∀ m, m ≤ w → lowB (x % 2 ^ w) m = lowB x m
  | 0, _ => rfl
  | m + 1, h => by
    rw [lowB, lowB, lowB_mod x w m (by omega)]
    congr 2
    have e : 2 ^ w = 2 ^ m * 2 ^ (w - m) := by rw [← Nat.pow_add]; congr 1; omega
    rw [e, Nat.mod_mul_right_div_self, Nat.mod_mod_of_dvd _ (Nat.pow_dvd_pow 2 (by omega))]
def pkT (l : List Bool) (k : Nat) : List Nat := (List.range ((l.length + 7) / 8)).map (byteAt (l.take k))
theorem pkT_length (l : List Bool) (k : Nat) : (pkT l k).length = (l.length + 7) / 8 := by simp [pkT]
theorem pkT_zero (l : List Bool) : pkT l 0 = List.replicate ((l.length + 7) / 8) 0 := by
  rw [pkT, List.eq_replicate_iff]
  refine ⟨by simp, fun b hb => ?_⟩
  obtain ⟨k, _, rfl⟩ := List.mem_map.1 hb
  rw [List.take_zero]; exact byteAt_out [] k (by simp)
theorem pkT_all (l : List Bool) : pkT l l.length = packB l := by rw [pkT, List.take_length]; rfl
theorem pkT_get {l : List Bool} {k : Nat} (h : k < l.length) : (pkT l k)[k / 8]? = some (byteAt (l.take k) (k / 8)) := by
  rw [pkT, List.getElem?_map, List.getElem?_range (by omega)]; rfl
theorem pkT_false {l : List Bool} {k : Nat} (h : l[k]? = some false) : pkT l (k + 1) = pkT l k := by
  have hk := lt_of_get h
  refine List.map_congr_left fun j _ => ?_
  rw [take_succ_of h, byteAt_snoc]
  split
  · simp [bitv]
  · rfl
theorem pkT_true {l : List Bool} {k : Nat} (h : l[k]? = some true) : pkT l (k + 1) = (pkT l k).set (k / 8) (byteAt (l.take k) (k / 8) ||| 128 / 2 ^ (k % 8)) := by
  have hk := lt_of_get h
  have ht : (l.take k).length = k := by simp; omega
  apply List.ext_getElem?
  intro j
  rcases Nat.lt_or_ge j ((l.length + 7) / 8) with hj | hj
  · rw [List.getElem?_set, pkT, List.getElem?_map, List.getElem?_range hj, pkT, List.getElem?_map, List.getElem?_range hj]
    simp only [Option.map_some, List.length_map, List.length_range]
    rw [take_succ_of h, byteAt_snoc, ht]
    by_cases e : k / 8 = j
    · rw [if_pos e.symm, if_pos e, if_pos (by omega), e]; simp [bitv]
    · rw [if_neg (fun q => e q.symm), if_neg e]
  · rw [List.getElem?_eq_none (by simp [pkT]; omega), List.getElem?_eq_none (by simp [pkT]; omega)]
theorem xor_mod2 (a b : Nat) : (a ^^^ b) % 2 = (a + b) % 2 := by
  have h := Nat.xor_mod_two_pow (a := a) (b := b) (n := 1)
  rw [Nat.pow_one] at h
  rw [h]
  rcases Nat.mod_two_eq_zero_or_one a with ha | ha <;> rcases Nat.mod_two_eq_zero_or_one b with hb | hb <;> (rw [ha, hb, Nat.add_mod, ha, hb]; rfl)
theorem xor_div2 (a b : Nat) : (a ^^^ b) / 2 = a / 2 ^^^ b / 2 := by
  have := Nat.xor_div_two (a := a) (b := b)
  exact this
theorem st1_xor (a b : Nat) : st1 (a ^^^ b) = st1 a ^^^ st1 b := by
  unfold st1
  have h1 := xor_mod2 a b
  have h2 := xor_div2 a b
  simp only [Nat.pow_one]
  rw [h2, h1]
  rcases Nat.mod_two_eq_zero_or_one a with ha | ha <;> rcases Nat.mod_two_eq_zero_or_one b with hb | hb
  · rw [if_neg (by omega), if_neg (by omega), if_neg (by omega)]
  · rw [if_pos (by omega), if_neg (by omega), if_pos (by omega), Nat.xor_assoc]
  · rw [if_pos (by omega), if_pos (by omega), if_neg (by omega), Nat.xor_assoc, Nat.xor_assoc, Nat.xor_comm (b / 2)]
  · rw [if_neg (by omega), if_pos (by omega), if_pos (by omega)]
    rw [Nat.xor_assoc, ← Nat.xor_assoc 2197175160, Nat.xor_comm 2197175160 (b / 2), Nat.xor_assoc, Nat.xor_self, Nat.xor_zero]
theorem stepN_xor (a b : Nat) : ∀ n, stepN (a ^^^ b) n = stepN a n ^^^ stepN b n
  | 0 => rfl
  | n + 1 => by rw [stepN, stepN, stepN, stepN_xor a b n, st1_xor]
theorem stepN_even (q : Nat) : ∀ n m, stepN (q * 2 ^ (n + m)) n = q * 2 ^ m
  | 0, m => by simp [stepN]
  | n + 1, m => by
    rw [stepN, show n + 1 + m = n + (m + 1) by omega, stepN_even q n (m + 1), st1, Nat.pow_succ, ← Nat.mul_assoc]
    rw [if_neg (by omega)]; omega
theorem split16 (v : Nat) : v = (v / 2 ^ 4) * 2 ^ 4 ^^^ v % 2 ^ 4 := by
  have h := or_high (v := v % 2 ^ 4) (x := v / 2 ^ 4) (k := 4) (Nat.mod_lt _ (by decide))
  have : v % 2 ^ 4 ^^^ (v / 2 ^ 4) * 2 ^ 4 = v % 2 ^ 4 + (v / 2 ^ 4) * 2 ^ 4 := by
    apply Nat.eq_of_testBit_eq
    intro i
    have e := congrArg (fun z => Nat.testBit z i) h
    simp only [Nat.testBit_or] at e
    rw [Nat.testBit_xor, ← e]
    rcases Nat.lt_or_ge i 4 with hi | hi
    · rw [Nat.testBit_mul_two_pow]
      simp [show ¬ (4 ≤ i) by omega]
    · rw [Nat.testBit_lt_two_pow (x := v % 2 ^ 4) (i := i) (Nat.lt_of_lt_of_le (Nat.mod_lt _ (by decide)) (Nat.pow_le_pow_right (by decide) hi))]
      simp
  rw [Nat.xor_comm, this]; omega
theorem stepN_four (v : Nat) : stepN v 4 = crcB v := by
  conv => lhs; rw [split16 v]
  rw [stepN_xor, crcB]
  have := stepN_even (v / 2 ^ 4) 4 0
  rw [Nat.add_zero, Nat.pow_zero, Nat.mul_one] at this
  rw [this]; rfl
theorem stepN_add (v a : Nat) : ∀ b, stepN v (a + b) = stepN (stepN v a) b
  | 0 => rfl
  | b + 1 => by rw [← Nat.add_assoc, stepN, stepN, stepN_add v a b]
theorem stepN_eight (v c : Nat) : stepN (v ^^^ c) 8 = crc1 v c := by
  rw [show 8 = 4 + 4 from rfl, stepN_add, stepN_four, stepN_four]; rfl
theorem bitLenAux_half : ∀ (f v : Nat), v < 2 ^ f → 0 < v → Lib.bitLenAux (f + 1) v = Lib.bitLenAux f (v / 2) + 1 := fun f v _ h => by
  rw [Lib.bitLenAux, if_neg (by omega)]; omega
theorem bitLenAux_more : ∀ (f v : Nat), v < 2 ^ f → Lib.bitLenAux (f + 1) v = Lib.bitLenAux f v
  | 0, v, h => by have : v = 0 := by simpa using h
                  subst this; rfl
  | f + 1, v, h => by
    rw [Lib.bitLenAux]
    conv => rhs; rw [Lib.bitLenAux]
    split
    · rfl
    · rw [bitLenAux_more f (v / 2) (by rw [Nat.pow_succ] at h; omega)]
theorem bitLen_half {v : Nat} (hv : v < 2 ^ 64) (h : 0 < v) : Lib.bitLen v = Lib.bitLen (v / 2) + 1 := by
  unfold Lib.bitLen
  rw [show (64 : Nat) = 63 + 1 from rfl, ← bitLenAux_more (63 + 1) v hv, bitLenAux_half (63 + 1) v hv h]
theorem bitLen_pos {v : Nat} (h : 0 < v) : 0 < Lib.bitLen v := by
  unfold Lib.bitLen
  rw [show (64 : Nat) = 63 + 1 from rfl, Lib.bitLenAux, if_neg (by omega)]; omega
theorem bitLen_seven {v : Nat} (hv : v < 2 ^ 64) (h : 128 ≤ v) : Lib.bitLen v = Lib.bitLen (v / 128) + 7 := by
  rw [bitLen_half hv (by omega), bitLen_half (v := v / 2) (by omega) (by omega), bitLen_half (v := v / 2 / 2) (by omega) (by omega), bitLen_half (v := v / 2 / 2 / 2) (by omega) (by omega),
    bitLen_half (v := v / 2 / 2 / 2 / 2) (by omega) (by omega), bitLen_half (v := v / 2 / 2 / 2 / 2 / 2) (by omega) (by omega), bitLen_half (v := v / 2 / 2 / 2 / 2 / 2 / 2) (by omega) (by omega)]
  rw [show v / 2 / 2 / 2 / 2 / 2 / 2 / 2 = v / 128 by omega]
theorem uv_sizeN : ∀ (n v : Nat), v ≤ n → v < 2 ^ 64 → (uv v).length = sizeN v
  | n, v, hn, hv => by
    rcases Nat.lt_or_ge v 128 with h | h
    · rw [uv_smallR h]
      have := bitLen_le (v := v) (n := 7) (by simpa using h)
      unfold sizeN; simp; omega
    · cases n with
      | zero => omega
      | succ n =>
        rw [uv_stepR hv h, List.length_cons, uv_sizeN n (v / 128) (by omega) (by omega)]
        have h1 := bitLen_seven hv h
        have h2 := bitLen_pos (v := v / 128) (by omega)
        unfold sizeN; omega
theorem uv_len {v : Nat} (hv : v < 2 ^ 64) : (uv v).length = sizeN v := uv_sizeN v v (Nat.le_refl _) hv
theorem cost_enc (w : Nat) : ∀ (l : List Nat) (_ : l.length < 2 ^ 63) (_ : ∀ x ∈ l, x < 2 ^ 63), (costSt w l).1 = l.length ∧ (encSt w l).1 = l.length ∧ (encSt w l).2.1.length = l.length * w ∧ (costSt w l).2.1 = (encSt w l).2.2.1.length ∧ (costSt w l).2.2.1 = (encSt w l).2.2.2.1 ∧ (costSt w l).2.2.2 = (encSt w l).2.2.2.2 ∧ (costSt w l).2.2.1 ≤ l.length := by
  refine snocInd (fun _ _ => by simp [costSt, encSt]) fun l x ih => ?_
  · intro hn hb
    simp only [List.length_append, List.length_cons, List.length_nil] at hn
    obtain ⟨h1, h2, h3, h4, h5, h6, h7⟩ := ih (by omega) (fun y hy => hb y (List.mem_append_left _ hy))
    have hx := hb x (by simp)
    have hd := Nat.div_le_self x (2 ^ w)
    rw [costSt_snoc, encSt_snoc]
    unfold costStep encStep
    split
    · have u1 := uv_len (v := l.length + 1 - (encSt w l).2.2.2.2) (by omega)
      have u2 := uv_len (v := x / 2 ^ w) (by omega)
      simp only [List.length_append, List.length_cons, List.length_nil, lowB_length, u1, u2, h1, h2, h3, h4, h5, h6, Nat.add_mul, Nat.one_mul, Nat.zero_add, true_and, and_true]
      rw [h5] at h7
      omega
    · simp only [List.length_append, List.length_cons, List.length_nil, lowB_length, h1, h2, h3, h4, h5, h6, Nat.add_mul, Nat.one_mul, Nat.zero_add, true_and, and_true]
      rw [h5] at h7
      omega
theorem costB_len {w : Nat} {l : List Nat} (hw : w < 2 ^ 63) (hn : l.length < 2 ^ 63) (hb : ∀ x ∈ l, x < 2 ^ 63) : costB w l = (encBk w l).length := by
  obtain ⟨h1, h2, h3, h4, h5, h6, h7⟩ := cost_enc w l hn hb
  unfold costB encBk
  rw [h4, h5]
  simp only [List.length_append, packB_length, h3]
  rw [uv_len (v := l.length) (by omega), uv_len (v := w) (by omega), uv_len (v := (encSt w l).2.2.2.1) (by omega)]
  omega
end Go.Kw
namespace Go.Kw
open Go.RowKit
def svOf : Value → SV
  | .slice a n c => ⟨a, n, c⟩
  | _ => ⟨none, 0, 0⟩
theorem plK_zero (l : List Nat) : plK l 0 = hdP l.length 0 [] ++ pld 0 (pk0 l (nbk l.length)) := by simp [plK, payl]
theorem plK_one (l : List Nat) : plK l 1 = hdP l.length 1 (symL l) ++ pld 1 (pk1 l (nbk l.length)) := by simp [plK, payl]
theorem hdP_zero (n : Nat) : hdP n 0 [] = uv n ++ [0] := by rw [hdP, uv_smallR (v := 0) (by decide)]; simp
theorem hdP_one (n : Nat) (lens : List Nat) : hdP n 1 lens = uv n ++ [1] ++ uv lens.length ++ lens.map (· % 2 ^ 8) := by rw [hdP, uv_smallR (v := 1) (by decide)]; simp
theorem pk0_get {l : List Nat} {n k : Nat} (h : k < n) : (pk0 l n)[k]? = some (packBk (chk l k), 0) := by simp [pk0, h]
theorem pk1_get {l : List Nat} {n k : Nat} (h : k < n) : (pk1 l n)[k]? = some (packB (hufB (symL l) (chk l k)), (hufB (symL l) (chk l k)).length) := by simp [pk1, h]
theorem pk0_len (l : List Nat) (n : Nat) : (pk0 l n).length = n := by simp [pk0]
theorem pk1_len (l : List Nat) (n : Nat) : (pk1 l n).length = n := by simp [pk1]
theorem chks_get {l : List Nat} {ps : List (SV × List Nat)} (h : ps.map Prod.snd = (List.range (nbk l.length)).map (chk l)) {k : Nat} {x : SV × List Nat} (hx : ps[k]? = some x) : k < nbk l.length ∧ x.2 = chk l k := by
  have hk : k < nbk l.length := by
    have h1 := (List.getElem?_eq_some_iff.1 hx).1
    have h2 := congrArg List.length h
    simp at h2; omega
  refine ⟨hk, ?_⟩
  have := congrArg (fun q => q[k]?) h
  simp only [List.getElem?_map, hx, Option.map_some, List.getElem?_range hk] at this
  exact Option.some.inj this
theorem pld_len (kind : Nat) : ∀ (ps : List (List Nat × Nat)) (B : Nat), (∀ p ∈ ps, p.1.length ≤ B) → (pld kind ps).length ≤ (10 + B) * ps.length
  | [], B, _ => by simp [pld]
  | p :: r, B, h => by
    have ih := pld_len kind r B fun q hq => h q (by simp [hq])
    have hp := h p (by simp)
    have hu := uv_le (if kind = 0 then p.1.length else p.2)
    have e : pld kind (p :: r) = pld1 kind p ++ pld kind r := rfl
    rw [e, pld1, List.length_append, List.length_append, List.length_cons, Nat.mul_add]
    omega
theorem plK_len {l : List Nat} {k : Nat} (hl : OkN l) (hk : k ≤ 1) : (plK l k).length ≤ 2000000 := by
  have hn := hl.len
  have hnb : nbk l.length ≤ 64 := by unfold nbk; omega
  have hs : (if k = 1 then symL l else []).length ≤ 1024 := by
    split
    · rw [symL_length]; exact hl.mx
    · simp
  have hh := hdP_length l.length k (if k = 1 then symL l else [])
  have hp := pld_len k (if k = 1 then pk1 l (nbk l.length) else pk0 l (nbk l.length)) 20000 fun p hp => by
    split at hp
    · obtain ⟨i, _, rfl⟩ := List.mem_map.1 hp
      have h1 := hufB_length (GoodLens.of_ok (symL_ok l hl.mx)) (chk l i)
      have h2 := chk_length l i
      show (packB _).length ≤ _
      rw [packB_length]; omega
    · obtain ⟨i, _, rfl⟩ := List.mem_map.1 hp
      have h2 := chk_length l i
      have := packBk_len (chk l i) (by omega)
      show (packBk _).length ≤ _
      omega
  have hq : (if k = 1 then pk1 l (nbk l.length) else pk0 l (nbk l.length)).length ≤ 64 := by
    split
    · rw [pk1_len]; exact hnb
    · rw [pk0_len]; exact hnb
  have := Nat.mul_le_mul_left (10 + 20000) hq
  unfold plK payl
  rw [List.length_append]; omega
end Go.Kw
