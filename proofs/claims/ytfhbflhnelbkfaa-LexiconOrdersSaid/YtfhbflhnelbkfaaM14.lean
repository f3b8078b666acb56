/-
  M14: plain facts on package-merge and canonical codes (layer 14). No program in sight.
-/
import Derived.Test.YtfhbflhnelbkfaaMsm
namespace Go.Kw
theorem all_take {α : Type} {P : α → Prop} {l : List α} {k : Nat} {x : α} (h : ∀ z ∈ l.take k, P z) (hx : l[k]? = some x) (hp : P x) : ∀ z ∈ l.take (k + 1), P z := fun z hz => by
  have hk := (List.getElem?_eq_some_iff.1 hx)
  rw [← List.take_append_getElem hk.1, List.mem_append] at hz
  rcases hz with hz | hz
  · exact h z hz
  · simp at hz; rw [hz, hk.2]; exact hp
/-! ## Valid lengths -/
def kr (x : Nat) : Nat := if 0 < x then 2 ^ (15 - x) else 0
def ksum : List Nat → Nat
  | [] => 0
  | x :: r => kr x + ksum r
theorem ksum_append : ∀ (l m : List Nat), ksum (l ++ m) = ksum l + ksum m
  | [], m => by simp [ksum]
  | x :: l, m => by simp [ksum, ksum_append l m]; omega
def validB (l : List Nat) : Bool := l.all (fun x => decide (x ≤ 15)) && decide (ksum l ≤ 2 ^ 15)
theorem validB_bad {l : List Nat} {x : Nat} (h : x ∈ l) (hx : 15 < x) : validB l = false := by
  have : l.all (fun x => decide (x ≤ 15)) = false := by
    rw [List.all_eq_false]; exact ⟨x, h, by simp; omega⟩
  simp [validB, this]
theorem validB_of {l : List Nat} (h : ∀ x ∈ l, x ≤ 15) : validB l = decide (ksum l ≤ 2 ^ 15) := by
  have : l.all (fun x => decide (x ≤ 15)) = true := by
    rw [List.all_eq_true]; intro x hx; simpa using h x hx
  simp [validB, this]
/-- A leaf, or a package. -/
structure It where
  w : Nat
  sym : Int
  lf : Nat
  rt : Nat
/-- The leaves of the counts from number i on. -/
def leafAt : Nat → List Nat → List It
  | _, [] => []
  | i, n :: r => if 0 < n then ⟨n, i, 0, 0⟩ :: leafAt (i + 1) r else leafAt (i + 1) r
theorem leafAt_snoc : ∀ (l : List Nat) (i x : Nat), leafAt i (l ++ [x]) = leafAt i l ++ (if 0 < x then [⟨x, ((i + l.length : Nat) : Int), 0, 0⟩] else [])
  | [], i, x => by simp [leafAt]
  | n :: r, i, x => by
    have := leafAt_snoc r (i + 1) x
    rw [show i + 1 + r.length = i + (n :: r).length by simp; omega] at this
    rw [List.cons_append, leafAt, leafAt, this]
    split <;> simp
theorem leafAt_length : ∀ (l : List Nat) (i : Nat), (leafAt i l).length ≤ l.length
  | [], i => by simp [leafAt]
  | n :: r, i => by
    have := leafAt_length r (i + 1)
    rw [leafAt]; split <;> simp <;> omega
theorem leafAt_mem : ∀ (l : List Nat) (i : Nat), ∀ x ∈ leafAt i l, x.w ∈ l ∧ ∃ j, x.sym = ((i + j : Nat) : Int) ∧ l[j]? = some x.w
  | [], i => by simp [leafAt]
  | n :: r, i => fun x hx => by
    have ih : ∀ x ∈ leafAt (i + 1) r, x.w ∈ n :: r ∧ ∃ j, x.sym = ((i + j : Nat) : Int) ∧ (n :: r)[j]? = some x.w := fun x hx => by
      obtain ⟨h1, j, h2, h3⟩ := leafAt_mem r (i + 1) x hx
      exact ⟨List.mem_cons_of_mem _ h1, j + 1, by rw [h2]; congr 1; omega, by simpa using h3⟩
    rw [leafAt] at hx
    split at hx
    · rcases List.mem_cons.1 hx with rfl | hx
      · exact ⟨by simp, 0, by simp, by simp⟩
      · exact ih x hx
    · exact ih x hx
def leaves (c : List Nat) : List It := ssort It.w (leafAt 0 c)
/-- The numbers, from i on, whose length is positive. -/
def presAt : Nat → List Nat → List Nat
  | _, [] => []
  | i, n :: r => if 0 < n then i :: presAt (i + 1) r else presAt (i + 1) r
theorem presAt_snoc : ∀ (l : List Nat) (i x : Nat), presAt i (l ++ [x]) = presAt i l ++ (if 0 < x then [i + l.length] else [])
  | [], i, x => by simp [presAt]
  | n :: r, i, x => by
    have := presAt_snoc r (i + 1) x
    rw [show i + 1 + r.length = i + (n :: r).length by simp; omega] at this
    rw [List.cons_append, presAt, presAt, this]
    split <;> simp
theorem presAt_length : ∀ (l : List Nat) (i : Nat), (presAt i l).length ≤ l.length
  | [], i => by simp [presAt]
  | n :: r, i => by
    have := presAt_length r (i + 1)
    rw [presAt]; split <;> simp <;> omega
theorem presAt_mem : ∀ (l : List Nat) (i : Nat), ∀ x ∈ presAt i l, i ≤ x ∧ x < i + l.length ∧ 0 < l.getD (x - i) 0
  | [], i => by simp [presAt]
  | n :: r, i => fun x hx => by
    have ih : ∀ x ∈ presAt (i + 1) r, i ≤ x ∧ x < i + (n :: r).length ∧ 0 < (n :: r).getD (x - i) 0 := fun x hx => by
      obtain ⟨h1, h2, h3⟩ := presAt_mem r (i + 1) x hx
      refine ⟨by omega, by simp; omega, ?_⟩
      rw [show x - i = (x - (i + 1)) + 1 by omega]; simpa using h3
    rw [presAt] at hx
    split at hx
    · rename_i hn
      rcases List.mem_cons.1 hx with rfl | hx
      · exact ⟨Nat.le_refl _, by simp, by simpa using hn⟩
      · exact ih x hx
    · exact ih x hx
def lenKey (l : List Nat) (i : Nat) : Nat := l.getD i 0
def inOrd (l : List Nat) : List Nat := ssort (lenKey l) (presAt 0 l)
theorem Srt.get {α : Type} {key : α → Nat} {l : List α} (h : Srt key l) {i j : Nat} {x y : α} (hij : i < j) (hx : l[i]? = some x) (hy : l[j]? = some y) : key x ≤ key y := by
  obtain ⟨h1, rfl⟩ := List.getElem?_eq_some_iff.1 hx
  obtain ⟨h2, rfl⟩ := List.getElem?_eq_some_iff.1 hy
  exact List.pairwise_iff_getElem.1 h i j h1 h2 hij
/-- The canonical codes, one symbol after the other. -/
def cdStep (l : List Nat) (s : Nat × Nat × Nat × List Nat) (i : Nat) : Nat × Nat × Nat × List Nat :=
  let c := if 0 < s.1 then (s.2.1 + 1) % 2 ^ 64 * 2 ^ (lenKey l i - s.2.2.1) % 2 ^ 64 else s.2.1
  (s.1 + 1, c, lenKey l i, s.2.2.2.set i c)
def cdSt (l : List Nat) (ord : List Nat) : Nat × Nat × Nat × List Nat := ord.foldl (cdStep l) (0, 0, 0, List.replicate l.length 0)
theorem cdSt_snoc (l ord : List Nat) (i : Nat) : cdSt l (ord ++ [i]) = cdStep l (cdSt l ord) i := by simp [cdSt]
def codesN (l : List Nat) : List Nat := (cdSt l (inOrd l)).2.2.2
theorem cdSt_length (l : List Nat) : ∀ ord, (cdSt l ord).2.2.2.length = l.length := fun ord => by
  have : ∀ (ord : List Nat) s, (ord.foldl (cdStep l) s).2.2.2.length = s.2.2.2.length := by
    intro ord
    induction ord with
    | nil => intro s; rfl
    | cons i r ih => intro s; rw [List.foldl_cons, ih]; simp [cdStep]
  rw [cdSt, this]; simp
theorem codesN_length (l : List Nat) : (codesN l).length = l.length := cdSt_length l _
theorem inOrd_mem (l : List Nat) : ∀ x ∈ inOrd l, x < l.length ∧ 0 < lenKey l x := fun x hx => by
  have := presAt_mem l 0 x ((ssort_stb _).mem.2 hx)
  exact ⟨by omega, by have := this.2.2; simpa [lenKey] using this⟩
theorem inOrd_length (l : List Nat) : (inOrd l).length ≤ l.length := by
  have := presAt_length l 0
  rw [inOrd, ssort_length]; exact this
/-! ## Package-merge -/
/-- The packages of a list: each two that stand side by side, from number i on. -/
def pkgAt : Nat → List It → List It
  | i, x :: y :: r => ⟨x.w + y.w, -1, i, i + 1⟩ :: pkgAt (i + 2) r
  | _, _ => []
theorem pkgAt_snoc : ∀ (q i : Nat) (b : List It) (x y : It), b[2 * q]? = some x → b[2 * q + 1]? = some y →
    pkgAt i (b.take (2 * (q + 1))) = pkgAt i (b.take (2 * q)) ++ [⟨x.w + y.w, -1, i + 2 * q, i + 2 * q + 1⟩]
  | 0, i, b, x, y, hx, hy => by
    match b with
    | [] => simp at hx
    | [_] => simp at hy
    | u :: v :: r =>
      simp at hx hy; subst hx; subst hy
      simp [pkgAt]
  | q + 1, i, b, x, y, hx, hy => by
    match b with
    | [] => simp at hx
    | [_] => simp at hy
    | u :: v :: r =>
      have e1 : 2 * (q + 1) = 2 * q + 1 + 1 := by omega
      have e2 : 2 * (q + 1 + 1) = 2 * (q + 1) + 1 + 1 := by omega
      rw [e1] at hx hy
      have hx' : r[2 * q]? = some x := by simpa using hx
      have hy' : r[2 * q + 1]? = some y := by simpa using hy
      have ih := pkgAt_snoc q (i + 2) r x y hx' hy'
      rw [e2, e1, List.take_succ_cons, List.take_succ_cons, List.take_succ_cons, List.take_succ_cons, pkgAt, pkgAt, List.cons_append]
      rw [show 2 * q + 1 + 1 = 2 * (q + 1) by omega, ih]
      simp; omega
theorem pkgAt_all : ∀ (q i : Nat) (b : List It), b.length ≤ 2 * q + 1 → pkgAt i (b.take (2 * q)) = pkgAt i b
  | 0, i, b, h => by
    match b with
    | [] => rfl
    | [x] => rfl
    | _ :: _ :: _ => simp at h
  | q + 1, i, b, h => by
    match b with
    | [] => rfl
    | [x] => rfl
    | u :: v :: r =>
      have e1 : 2 * (q + 1) = 2 * q + 1 + 1 := by omega
      rw [e1, List.take_succ_cons, List.take_succ_cons, pkgAt, pkgAt, pkgAt_all q (i + 2) r (by simp at h; omega)]
theorem pkgAt_length : ∀ (i : Nat) (b : List It), (pkgAt i b).length = b.length / 2
  | i, [] => by simp [pkgAt]
  | i, [x] => by simp [pkgAt]
  | i, x :: y :: r => by rw [pkgAt, List.length_cons, pkgAt_length (i + 2) r, List.length_cons, List.length_cons]; omega
theorem pkgAt_mem : ∀ (i : Nat) (b : List It) (W : Nat), (∀ x ∈ b, x.w ≤ W) → ∀ x ∈ pkgAt i b, x.w ≤ 2 * W ∧ x.sym = -1
  | i, [], W, _ => by simp [pkgAt]
  | i, [x], W, _ => by simp [pkgAt]
  | i, x :: y :: r, W, h => fun z hz => by
    rw [pkgAt] at hz
    rcases List.mem_cons.1 hz with rfl | hz
    · have h1 := h x (by simp); have h2 := h y (by simp); exact ⟨by show x.w + y.w ≤ 2 * W; omega, rfl⟩
    · exact pkgAt_mem (i + 2) r W (fun q hq => h q (by simp [hq])) z hz
theorem pkgAt_sym : ∀ (i : Nat) (b : List It), ∀ x ∈ pkgAt i b, x.sym = -1
  | i, [] => by simp [pkgAt]
  | i, [x] => by simp [pkgAt]
  | i, x :: y :: r => fun z hz => by
    rw [pkgAt] at hz
    rcases List.mem_cons.1 hz with rfl | hz
    · rfl
    · exact pkgAt_sym (i + 2) r z hz
/-- The next list. -/
def nextL (l b : List It) : List It := ssort It.w (l ++ pkgAt 0 b)
theorem nextL_length (l b : List It) : (nextL l b).length = l.length + b.length / 2 := by simp [nextL, pkgAt_length]
/-- The lists, the leaves first. -/
def lvl (c : List Nat) : Nat → List It
  | 0 => leaves c
  | k + 1 => nextL (leaves c) (lvl c k)
def lvls (c : List Nat) (k : Nat) : List (List It) := (List.range k).map (lvl c)
theorem lvls_succ (c : List Nat) (k : Nat) : lvls c (k + 1) = lvls c k ++ [lvl c k] := by simp [lvls, List.range_succ]
theorem lvls_length (c : List Nat) (k : Nat) : (lvls c k).length = k := by simp [lvls]
theorem lvls_get (c : List Nat) {i k : Nat} (h : i < k) : (lvls c k)[i]? = some (lvl c i) := by simp [lvls, h]
theorem leaves_length (c : List Nat) : (leaves c).length ≤ c.length := by rw [leaves, ssort_length]; exact leafAt_length c 0
theorem leaves_mem (c : List Nat) : ∀ x ∈ leaves c, x.w ∈ c ∧ ∃ j : Nat, x.sym = (j : Int) ∧ c[j]? = some x.w := fun x hx => by
  have := leafAt_mem c 0 x ((ssort_stb _).mem.2 hx)
  simpa using this
theorem lvl_length (c : List Nat) : ∀ k, (leaves c).length ≤ (lvl c k).length ∧ (lvl c k).length ≤ 2 * (leaves c).length
  | 0 => by simp [lvl]; omega
  | k + 1 => by
    have := lvl_length c k
    rw [lvl, nextL_length]; omega
theorem lvl_deep (c : List Nat) (h1 : 1 ≤ (leaves c).length) : ∀ k, 2 * (leaves c).length ≤ (lvl c k).length + 1 + ((leaves c).length - 1) / 2 ^ k
  | 0 => by simp [lvl]; omega
  | k + 1 => by
    have ih := lvl_deep c h1 k
    rw [lvl, nextL_length]
    have e : ((leaves c).length - 1) / 2 ^ (k + 1) = ((leaves c).length - 1) / 2 ^ k / 2 := by rw [Nat.pow_succ, Nat.div_div_eq_div_mul]
    rw [e]; omega
theorem lvl_w (c : List Nat) (W : Nat) (h : ∀ x ∈ c, x ≤ W) : ∀ k, ∀ x ∈ lvl c k, x.w ≤ W * 2 ^ k
  | 0 => fun x hx => by have := h _ (leaves_mem c x hx).1; simpa using this
  | k + 1 => fun x hx => by
    have ih := lvl_w c W h k
    rw [lvl] at hx
    have hp : W * 2 ^ (k + 1) = 2 * (W * 2 ^ k) := by rw [Nat.pow_succ, ← Nat.mul_assoc, Nat.mul_comm]
    have h1 : W ≤ W * 2 ^ k := Nat.le_mul_of_pos_right _ (Nat.two_pow_pos k)
    rcases List.mem_append.1 ((ssort_stb _).mem.2 hx) with hx | hx
    · have := h _ (leaves_mem c x hx).1; omega
    · have := (pkgAt_mem 0 _ _ ih x hx).1; omega
/-- A symbol stands for a number of the counts; a package has none. -/
theorem lvl_sym (c : List Nat) : ∀ k, ∀ x ∈ lvl c k, x.sym = -1 ∨ ∃ j, x.sym = ((j : Nat) : Int) ∧ j < c.length
  | 0 => fun x hx => by
    obtain ⟨_, j, h1, h2⟩ := leaves_mem c x hx
    exact .inr ⟨j, h1, (List.getElem?_eq_some_iff.1 h2).1⟩
  | k + 1 => fun x hx => by
    rw [lvl] at hx
    rcases List.mem_append.1 ((ssort_stb _).mem.2 hx) with hx | hx
    · obtain ⟨_, j, h1, h2⟩ := leaves_mem c x hx
      exact .inr ⟨j, h1, (List.getElem?_eq_some_iff.1 h2).1⟩
    · exact .inl (pkgAt_sym 0 _ x hx)
/-! ## The lengths -/
/-- One more at the symbol of a leaf. -/
def bump (ls : List Nat) (x : It) : List Nat := if 0 ≤ x.sym then ls.set x.sym.toNat (ls.getD x.sym.toNat 0 + 1) else ls
def bumps (ls : List Nat) (xs : List It) : List Nat := xs.foldl bump ls
theorem bumps_snoc (ls : List Nat) (xs : List It) (x : It) : bumps ls (xs ++ [x]) = bump (bumps ls xs) x := by simp [bumps]
theorem bump_length (ls : List Nat) (x : It) : (bump ls x).length = ls.length := by unfold bump; split <;> simp
theorem bumps_length (xs : List It) : ∀ ls, (bumps ls xs).length = ls.length := by
  induction xs with
  | nil => intro ls; rfl
  | cons x r ih => intro ls; rw [bumps, List.foldl_cons]; exact (ih _).trans (bump_length ls x)
/-- How many packages. -/
def npk (xs : List It) : Nat := xs.countP fun x => decide (x.sym < 0)
theorem npk_snoc (xs : List It) (x : It) : npk (xs ++ [x]) = npk xs + if x.sym < 0 then 1 else 0 := by
  simp [npk, List.countP_append, List.countP_cons]
theorem npk_le (xs : List It) (t : Nat) : npk (xs.take t) ≤ npk xs := (List.take_sublist t xs).countP_le
theorem npk_len (xs : List It) : npk xs ≤ xs.length := List.countP_le_length
theorem leaves_sym (c : List Nat) : ∀ x ∈ leaves c, 0 ≤ x.sym := fun x hx => by
  obtain ⟨_, j, h, _⟩ := leaves_mem c x hx; omega
theorem npk_leaves (c : List Nat) : npk (leaves c) = 0 := by
  rw [npk, List.countP_eq_zero]; intro x hx; have := leaves_sym c x hx; simp; omega
theorem npk_next (c : List Nat) (b : List It) : npk (nextL (leaves c) b) = b.length / 2 := by
  have hp : npk (nextL (leaves c) b) = npk (leaves c ++ pkgAt 0 b) := ((ssort_stb (key := It.w) (leaves c ++ pkgAt 0 b)).perm.countP_eq _).symm
  have h0 := npk_leaves c
  have h1 : npk (pkgAt 0 b) = (pkgAt 0 b).length := by
    rw [npk, List.countP_eq_length]; intro x hx; have := pkgAt_sym 0 b x hx; simp; omega
  rw [hp]
  simp only [npk] at h0 h1 ⊢
  rw [List.countP_append, h0, h1, pkgAt_length]; omega
/-- From a level down: how many are taken there, the lengths so far. -/
def down (c : List Nat) : Nat → Nat → List Nat → List Nat
  | 0, _, ls => ls
  | k + 1, t, ls => down c k (2 * npk ((lvl c k).take t)) (bumps ls ((lvl c k).take t))
def lensN (c : List Nat) : List Nat :=
  if (leaves c).length < 2 then (leaves c).foldl (fun ls x => ls.set x.sym.toNat 1) (List.replicate c.length 0) else down c 15 (2 * (leaves c).length - 2) (List.replicate c.length 0)
theorem take_down (c : List Nat) (k t : Nat) : 2 * npk ((lvl c (k + 1)).take t) ≤ (lvl c k).length := by
  have h1 := npk_le (lvl c (k + 1)) t
  have h2 : npk (lvl c (k + 1)) = (lvl c k).length / 2 := npk_next c _
  omega
theorem take_top (c : List Nat) (h1 : 1 ≤ (leaves c).length) (hn : (leaves c).length ≤ 1024) : 2 * (leaves c).length - 2 ≤ (lvl c 14).length := by
  have := lvl_deep c h1 14
  rw [Nat.div_eq_of_lt (by omega : (leaves c).length - 1 < 2 ^ 14)] at this
  omega
theorem bump_le {ls : List Nat} {B : Nat} (h : ∀ x ∈ ls, x ≤ B) (y : It) : ∀ x ∈ bump ls y, x ≤ B + 1 := fun x hx => by
  unfold bump at hx
  split at hx
  · rcases List.mem_or_eq_of_mem_set hx with hx | rfl
    · have := h x hx; omega
    · rw [List.getD_eq_getElem?_getD]
      cases hg : ls[y.sym.toNat]? with
      | none => simp
      | some v => have := h v (List.mem_of_getElem? hg); simp; exact this
  · have := h x hx; omega
theorem down_length (c : List Nat) : ∀ k t ls, (down c k t ls).length = ls.length
  | 0, t, ls => rfl
  | k + 1, t, ls => by rw [down, down_length c k, bumps_length]
theorem lensN_length (c : List Nat) : (lensN c).length = c.length := by
  unfold lensN
  split
  · have : ∀ (xs : List It) (ls : List Nat), (xs.foldl (fun ls x => ls.set x.sym.toNat 1) ls).length = ls.length := by
      intro xs; induction xs with
      | nil => intro ls; rfl
      | cons x r ih => intro ls; rw [List.foldl_cons, ih]; simp
    rw [this]; simp
  · rw [down_length]; simp
end Go.Kw
