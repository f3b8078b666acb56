/-
  M14k: the lengths of package-merge fill Kraft's sum. Plain facts, no program in sight.
-/
import Derived.Test.YtfhbflhnelbkfaaM14
namespace Go.Kw
section
variable {α : Type} {key : α → Nat}
theorem Srt.filter {l : List α} (h : Srt key l) (p : α → Bool) : Srt key (l.filter p) := List.Pairwise.sublist List.filter_sublist h
theorem ssort_filter (l : List α) (p : α → Bool) : (ssort key l).filter p = ssort key (l.filter p) :=
  ssort_eq ((ssort_srt l).filter p) fun k => by
    have h := ssort_stb (key := key) l k
    have h1 : (l.filter p).filter (fun x => key x == k) = (l.filter fun x => key x == k).filter p := by simp only [List.filter_filter, Bool.and_comm]
    have h2 : ((ssort key l).filter p).filter (fun x => key x == k) = ((ssort key l).filter fun x => key x == k).filter p := by simp only [List.filter_filter, Bool.and_comm]
    rw [h1, h2, h]
theorem ssort_id {l : List α} (h : Srt key l) : ssort key l = l := (ssort_eq h (Stb.refl l)).symm
theorem Srt.take_drop {l : List α} (h : Srt key l) (t : Nat) : ∀ x ∈ l.take t, ∀ y ∈ l.drop t, key x ≤ key y := by
  rw [← List.take_append_drop t l, Srt.append] at h; exact h.2.2
theorem countP_take_drop (l : List α) (p : α → Bool) (t : Nat) : l.countP p = (l.take t).countP p + (l.drop t).countP p := by
  conv => lhs; rw [← List.take_append_drop t l]
  rw [List.countP_append]
theorem filter_take_prefix (p : α → Bool) : ∀ (l : List α) (t : Nat), (l.take t).filter p = (l.filter p).take ((l.take t).countP p)
  | [], t => by simp
  | x :: r, 0 => by simp
  | x :: r, t + 1 => by
    rw [List.take_succ_cons]
    cases hp : p x with
    | true => rw [List.filter_cons_of_pos hp, List.filter_cons_of_pos hp, List.countP_cons_of_pos hp, List.take_succ_cons, filter_take_prefix p r t]
    | false => rw [List.filter_cons_of_neg (by simp [hp]), List.filter_cons_of_neg (by simp [hp]), List.countP_cons_of_neg (by simp [hp]), filter_take_prefix p r t]
end
def isLf (x : It) : Bool := decide (0 ≤ x.sym)
def isPk (x : It) : Bool := decide (x.sym < 0)
def nlf (xs : List It) : Nat := xs.countP isLf
theorem nlf_npk (xs : List It) : nlf xs + npk xs = xs.length := by
  induction xs with
  | nil => rfl
  | cons x r ih =>
    simp only [nlf, npk, isLf, List.countP_cons, List.length_cons] at ih ⊢
    by_cases h : 0 ≤ x.sym
    · simp [h, show ¬ x.sym < 0 by omega]; omega
    · simp [h, show x.sym < 0 by omega]; omega
theorem pkgAt_filter (i : Nat) (b : List It) : (pkgAt i b).filter isPk = pkgAt i b ∧ (pkgAt i b).filter isLf = [] := by
  refine ⟨List.filter_eq_self.2 fun x hx => ?_, List.filter_eq_nil_iff.2 fun x hx => ?_⟩ <;> (have := pkgAt_sym i b x hx; simp [isPk, isLf, this])
theorem leaves_filter (c : List Nat) : (leaves c).filter isLf = leaves c ∧ (leaves c).filter isPk = [] := by
  refine ⟨List.filter_eq_self.2 fun x hx => ?_, List.filter_eq_nil_iff.2 fun x hx => ?_⟩ <;> (have := leaves_sym c x hx; simp [isPk, isLf]; omega)
theorem pkgAt_get : ∀ (q i : Nat) (b : List It) (z : It), (pkgAt i b)[q]? = some z → ∃ x y, b[2 * q]? = some x ∧ b[2 * q + 1]? = some y ∧ z.w = x.w + y.w
  | _, _, [], z, h => by simp [pkgAt] at h
  | _, _, [x], z, h => by simp [pkgAt] at h
  | 0, i, x :: y :: r, z, h => by simp [pkgAt] at h; subst h; exact ⟨x, y, rfl, rfl, rfl⟩
  | q + 1, i, x :: y :: r, z, h => by
    rw [pkgAt] at h
    obtain ⟨u, v, h1, h2, h3⟩ := pkgAt_get q (i + 2) r z (by simpa using h)
    refine ⟨u, v, ?_, ?_, h3⟩
    · rw [show 2 * (q + 1) = 2 * q + 1 + 1 by omega]; simpa using h1
    · rw [show 2 * (q + 1) + 1 = 2 * q + 1 + 1 + 1 by omega]; simpa using h2
theorem pkgAt_srt (i : Nat) (b : List It) (h : Srt It.w b) : Srt It.w (pkgAt i b) := by
  refine List.pairwise_iff_getElem.2 fun p q hp hq hpq => ?_
  obtain ⟨x, y, h1, h2, h3⟩ := pkgAt_get p i b _ (List.getElem?_eq_getElem hp)
  obtain ⟨u, v, g1, g2, g3⟩ := pkgAt_get q i b _ (List.getElem?_eq_getElem hq)
  rw [h3, g3]
  have a1 : x.w ≤ u.w := h.get (by omega) h1 g1
  have a2 : y.w ≤ v.w := h.get (by omega) h2 g2
  omega
theorem lvl_srt (c : List Nat) : ∀ k, Srt It.w (lvl c k)
  | 0 => ssort_srt _
  | _ + 1 => ssort_srt _
theorem lvl_leaves (c : List Nat) : ∀ k, (lvl c k).filter isLf = leaves c
  | 0 => (leaves_filter c).1
  | k + 1 => by
    rw [lvl, nextL, ssort_filter, List.filter_append, (leaves_filter c).1, (pkgAt_filter 0 _).2, List.append_nil]
    exact ssort_id (ssort_srt _)
theorem lvl_pkgs (c : List Nat) (k : Nat) : (lvl c (k + 1)).filter isPk = pkgAt 0 (lvl c k) := by
  rw [lvl, nextL, ssort_filter, List.filter_append, (leaves_filter c).2, (pkgAt_filter 0 _).1, List.nil_append]
  exact ssort_id (pkgAt_srt 0 _ (lvl_srt c k))
/-- The leaves that are taken are the first ones. -/
theorem taken_leaves (c : List Nat) (k t : Nat) : ((lvl c k).take t).filter isLf = (leaves c).take (nlf ((lvl c k).take t)) := by
  rw [filter_take_prefix, lvl_leaves]; rfl
theorem taken_pkgs (c : List Nat) (k t : Nat) : ((lvl c (k + 1)).take t).filter isPk = (pkgAt 0 (lvl c k)).take (npk ((lvl c (k + 1)).take t)) := by
  rw [filter_take_prefix, lvl_pkgs]; rfl
/-- The last package that is taken, and the two that it is made of. -/
theorem last_pkg (c : List Nat) (k t p : Nat) (hp : npk ((lvl c (k + 1)).take t) = p + 1) : ∃ z x y, z ∈ (lvl c (k + 1)).take t ∧ (lvl c k)[2 * p]? = some x ∧ (lvl c k)[2 * p + 1]? = some y ∧ z.w = x.w + y.w := by
  have h := taken_pkgs c k t
  rw [hp] at h
  have hl : (((lvl c (k + 1)).take t).filter isPk).length = p + 1 := by rw [← List.countP_eq_length_filter]; exact hp
  obtain ⟨z, hz⟩ : ∃ z, (((lvl c (k + 1)).take t).filter isPk)[p]? = some z := ⟨_, List.getElem?_eq_getElem (by omega)⟩
  have hz2 := hz
  rw [h, List.getElem?_take_of_lt (by omega)] at hz2
  obtain ⟨x, y, h1, h2, h3⟩ := pkgAt_get p 0 _ z hz2
  exact ⟨z, x, y, (List.mem_filter.1 (List.mem_of_getElem? hz)).1, h1, h2, h3⟩
theorem lvl_pos (c : List Nat) : ∀ k, ∀ x ∈ lvl c k, 0 < x.w
  | 0 => fun x hx => by
    have hm : x ∈ leafAt 0 c := (ssort_stb _).mem.2 hx
    have : ∀ (l : List Nat) (i : Nat), ∀ x ∈ leafAt i l, 0 < x.w := by
      intro l
      induction l with
      | nil => intro i x hx; simp [leafAt] at hx
      | cons n r ih =>
        intro i x hx
        rw [leafAt] at hx
        split at hx
        · rcases List.mem_cons.1 hx with rfl | hx
          · assumption
          · exact ih _ x hx
        · exact ih _ x hx
    exact this _ _ x hm
  | k + 1 => fun x hx => by
    rcases List.mem_append.1 ((ssort_stb _).mem.2 hx) with hx | hx
    · exact lvl_pos c 0 x hx
    · obtain ⟨q, hq⟩ := List.mem_iff_getElem?.1 hx
      obtain ⟨u, v, h1, _, h3⟩ := pkgAt_get q 0 _ x hq
      have := lvl_pos c k u (List.mem_of_getElem? h1)
      omega
/-- Fewer leaves are taken further down. -/
theorem nlf_mono (c : List Nat) (k t : Nat) : nlf ((lvl c k).take (2 * npk ((lvl c (k + 1)).take t))) ≤ nlf ((lvl c (k + 1)).take t) := by
  cases hp : npk ((lvl c (k + 1)).take t) with
  | zero => simp [nlf]
  | succ p =>
    obtain ⟨z, x, y, hz, hx, hy, hw⟩ := last_pkg c k t p hp
    have hx0 := lvl_pos c k x (List.mem_of_getElem? hx)
    let q : It → Bool := fun u => isLf u && decide (u.w < z.w)
    have h1 : nlf ((lvl c k).take (2 * (p + 1))) ≤ ((lvl c k).take (2 * (p + 1))).countP q := by
      refine List.countP_mono_left fun u hu hl => ?_
      obtain ⟨i, hi⟩ := List.mem_iff_getElem?.1 hu
      rw [List.getElem?_take] at hi
      split at hi
      · have : u.w ≤ y.w := by
          rcases Nat.lt_or_ge i (2 * p + 1) with h | h
          · exact (lvl_srt c k).get h hi hy
          · have : i = 2 * p + 1 := by omega
            subst this; rw [hi] at hy; cases hy; exact Nat.le_refl _
        have : u.w < z.w := by omega
        simp [q, hl, this]
      · cases hi
    have h2 : ((lvl c k).take (2 * (p + 1))).countP q ≤ (lvl c k).countP q := (List.take_sublist _ _).countP_le
    have h3 : ∀ k, (lvl c k).countP q = (leaves c).countP fun u => decide (u.w < z.w) := fun k => by
      rw [← lvl_leaves c k, List.countP_filter]
      exact List.countP_congr fun u _ => by simp [q, and_comm]
    have h4 : (lvl c (k + 1)).countP q = ((lvl c (k + 1)).take t).countP q := by
      rw [countP_take_drop _ _ t]
      have : ((lvl c (k + 1)).drop t).countP q = 0 := by
        rw [List.countP_eq_zero]
        intro u hu
        have := (lvl_srt c (k + 1)).take_drop t z hz u hu
        simp [q]; intro _; omega
      omega
    have h5 : ((lvl c (k + 1)).take t).countP q ≤ nlf ((lvl c (k + 1)).take t) := List.countP_mono_left fun u _ hu => by simp [q] at hu; exact hu.1
    have := h3 k; have := h3 (k + 1)
    omega
theorem nlf_leaves (c : List Nat) (k : Nat) : nlf (lvl c k) = (leaves c).length := by
  rw [nlf, List.countP_eq_length_filter, lvl_leaves]
/-- All leaves stand among the first 2n - 2 of every list. -/
theorem nlf_top (c : List Nat) (hn : 2 ≤ (leaves c).length) : ∀ k, nlf ((lvl c k).drop (2 * (leaves c).length - 2)) = 0
  | 0 => by
    rw [List.drop_of_length_le (by simp [lvl]; omega)]; rfl
  | k + 1 => by
    rw [nlf, List.countP_eq_zero]
    intro x hx hl
    have hcnt := nlf_leaves c (k + 1)
    have hsum := countP_take_drop (lvl c (k + 1)) isLf (2 * (leaves c).length - 2)
    have hpos : 0 < ((lvl c (k + 1)).drop (2 * (leaves c).length - 2)).countP isLf := List.countP_pos_iff.2 ⟨x, hx, hl⟩
    have hlen : ((lvl c (k + 1)).take (2 * (leaves c).length - 2)).length = 2 * (leaves c).length - 2 := by
      rw [List.length_take]
      have : 0 < ((lvl c (k + 1)).drop (2 * (leaves c).length - 2)).length := List.length_pos_of_mem hx
      rw [List.length_drop] at this
      omega
    have hnp := nlf_npk ((lvl c (k + 1)).take (2 * (leaves c).length - 2))
    have hge : (leaves c).length - 1 ≤ npk ((lvl c (k + 1)).take (2 * (leaves c).length - 2)) := by
      simp only [nlf] at hcnt hnp; omega
    obtain ⟨p, hp⟩ : ∃ p, npk ((lvl c (k + 1)).take (2 * (leaves c).length - 2)) = p + 1 := ⟨_ - 1, (Nat.sub_add_cancel (by omega)).symm⟩
    obtain ⟨z, u, y, hz, hu, hy, hw⟩ := last_pkg c k _ p hp
    have hzx := (lvl_srt c (k + 1)).take_drop _ z hz x hx
    have hu0 := lvl_pos c k u (List.mem_of_getElem? hu)
    have hxl : x ∈ leaves c := by rw [← lvl_leaves c (k + 1)]; exact List.mem_filter.2 ⟨List.mem_of_mem_drop hx, hl⟩
    have hxk : x ∈ lvl c k := by rw [← lvl_leaves c k] at hxl; exact (List.mem_filter.1 hxl).1
    have ih := nlf_top c hn k
    rw [nlf, List.countP_eq_zero] at ih
    rw [← List.take_append_drop (2 * (leaves c).length - 2) (lvl c k), List.mem_append] at hxk
    rcases hxk with hxk | hxk
    · obtain ⟨i, hi⟩ := List.mem_iff_getElem?.1 hxk
      rw [List.getElem?_take] at hi
      split at hi
      · have : x.w ≤ y.w := by
          rcases Nat.lt_or_ge i (2 * p + 1) with h | h
          · exact (lvl_srt c k).get h hi hy
          · have : i = 2 * p + 1 := by omega
            subst this; rw [hi] at hy; cases hy; exact Nat.le_refl _
        omega
      · cases hi
    · exact ih x hxk hl
theorem nlf_top' (c : List Nat) (hn : 2 ≤ (leaves c).length) (k : Nat) : nlf ((lvl c k).take (2 * (leaves c).length - 2)) = (leaves c).length := by
  have h1 := nlf_top c hn k
  have h2 := nlf_leaves c k
  have h3 := countP_take_drop (lvl c k) isLf (2 * (leaves c).length - 2)
  simp only [nlf] at h1 h2 ⊢; omega

/-! ## The sum -/
/-- What the leaves' lengths come to. -/
def lfSum (l : List It) (ls : List Nat) : Nat := (l.map fun x => 2 ^ (15 - ls.getD x.sym.toNat 0)).sum
theorem bumps_filter (ls : List Nat) (xs : List It) : bumps ls xs = bumps ls (xs.filter isLf) := by
  unfold bumps
  induction xs generalizing ls with
  | nil => rfl
  | cons x r ih =>
    by_cases h : 0 ≤ x.sym
    · rw [List.filter_cons_of_pos (by simp [isLf, h]), List.foldl_cons, List.foldl_cons, ih]
    · rw [List.filter_cons_of_neg (by simp [isLf, h]), List.foldl_cons, show bump ls x = ls by simp [bump, h], ih]
theorem getD_set_eq {ls : List Nat} {i v : Nat} (h : i < ls.length) : (ls.set i v).getD i 0 = v := by simp [List.getD_eq_getElem?_getD, h]
theorem getD_set_ne' {ls : List Nat} {i j v : Nat} (h : i ≠ j) : (ls.set i v).getD j 0 = ls.getD j 0 := by simp [List.getD_eq_getElem?_getD, List.getElem?_set_ne h]
/-- Distinct leaves of places in the list. -/
def Ok (n : Nat) (l : List It) : Prop := (∀ x ∈ l, 0 ≤ x.sym ∧ x.sym.toNat < n) ∧ l.Pairwise fun x y => x.sym.toNat ≠ y.sym.toNat
theorem Ok.left {n : Nat} {l m : List It} (h : Ok n (l ++ m)) : Ok n l := ⟨fun x hx => h.1 x (List.mem_append_left _ hx), (List.pairwise_append.1 h.2).1⟩
theorem Ok.right {n : Nat} {l m : List It} (h : Ok n (l ++ m)) : Ok n m := ⟨fun x hx => h.1 x (List.mem_append_right _ hx), (List.pairwise_append.1 h.2).2.1⟩
theorem bumps_in {n : Nat} : ∀ {l : List It} {ls : List Nat}, Ok n l → ls.length = n → ∀ x ∈ l, (bumps ls l).getD x.sym.toNat 0 = ls.getD x.sym.toNat 0 + 1
  | y :: r, ls, h, hl, x, hx => by
    have hb : bumps ls (y :: r) = bumps (bump ls y) r := rfl
    have hy := h.1 y (by simp)
    have hlb : (bump ls y).length = n := by rw [bump_length, hl]
    rw [hb]
    have hr : Ok n r := Ok.right (l := [y]) h
    rcases List.mem_cons.1 hx with rfl | hx
    · have hout : ∀ (r : List It) (ls : List Nat), (∀ z ∈ r, x.sym.toNat ≠ z.sym.toNat) → (bumps ls r).getD x.sym.toNat 0 = ls.getD x.sym.toNat 0 := by
        intro r
        induction r with
        | nil => intro ls _; rfl
        | cons z r ih =>
          intro ls hz
          have : bumps ls (z :: r) = bumps (bump ls z) r := rfl
          rw [this, ih _ fun q hq => hz q (by simp [hq])]
          unfold bump
          split
          · exact getD_set_ne' fun e => hz z (by simp) e.symm
          · rfl
      rw [hout r _ (List.pairwise_cons.1 h.2).1]
      unfold bump
      rw [if_pos hy.1, getD_set_eq (by omega)]
    · rw [bumps_in hr hlb x hx]
      have hne := (List.pairwise_cons.1 h.2).1 x hx
      unfold bump
      rw [if_pos hy.1, getD_set_ne' hne]
theorem bumps_out {j : Nat} : ∀ (l : List It) (ls : List Nat), (∀ x ∈ l, x.sym.toNat ≠ j) → (bumps ls l).getD j 0 = ls.getD j 0
  | [], ls, _ => rfl
  | x :: r, ls, h => by
    have : bumps ls (x :: r) = bumps (bump ls x) r := rfl
    rw [this, bumps_out r _ fun z hz => h z (by simp [hz])]
    unfold bump
    split
    · exact getD_set_ne' (h x (by simp))
    · rfl
theorem lfSum_append (l m : List It) (ls : List Nat) : lfSum (l ++ m) ls = lfSum l ls + lfSum m ls := by simp [lfSum]
theorem lfSum_const {l : List It} {ls : List Nat} {d : Nat} (h : ∀ x ∈ l, ls.getD x.sym.toNat 0 = d) : lfSum l ls = l.length * 2 ^ (15 - d) := by
  unfold lfSum
  induction l with
  | nil => simp
  | cons x r ih =>
    rw [List.map_cons, List.sum_cons, ih fun y hy => h y (by simp [hy]), h x (by simp), List.length_cons, Nat.add_mul, Nat.one_mul, Nat.add_comm]
theorem lfSum_congr {l : List It} {ls ls' : List Nat} (h : ∀ x ∈ l, ls.getD x.sym.toNat 0 = ls'.getD x.sym.toNat 0) : lfSum l ls = lfSum l ls' := by
  unfold lfSum
  exact congrArg List.sum (List.map_congr_left fun x hx => by rw [h x hx])
/-- One level: those taken had the length 14 - k, and have one more. -/
theorem lfSum_bumps {n : Nat} {A B : List It} {ls : List Nat} {k : Nat} (hO : Ok n (A ++ B)) (hl : ls.length = n) (hk : k ≤ 14) (hA : ∀ x ∈ A, ls.getD x.sym.toNat 0 = 14 - k) :
    lfSum (A ++ B) (bumps ls A) + A.length * 2 ^ k = lfSum (A ++ B) ls := by
  rw [lfSum_append, lfSum_append]
  have hB : lfSum B (bumps ls A) = lfSum B ls := lfSum_congr fun x hx => bumps_out A ls fun y hy => (List.pairwise_append.1 hO.2).2.2 y hy x hx
  have hA1 : lfSum A (bumps ls A) = A.length * 2 ^ k := by
    rw [lfSum_const (d := 15 - k) fun x hx => by rw [bumps_in hO.left hl x hx, hA x hx]; omega]
    rw [show 15 - (15 - k) = k by omega]
  have hA2 : lfSum A ls = A.length * 2 ^ (k + 1) := by
    rw [lfSum_const (d := 14 - k) hA, show 15 - (14 - k) = k + 1 by omega]
  rw [hB, hA1, hA2, Nat.pow_succ]
  have : A.length * (2 ^ k * 2) = A.length * 2 ^ k + A.length * 2 ^ k := by rw [Nat.mul_comm (2 ^ k) 2, Nat.two_mul, Nat.mul_add]
  omega
theorem leafAt_sym : ∀ (l : List Nat) (i : Nat), (leafAt i l).Pairwise fun x y => x.sym.toNat < y.sym.toNat
  | [], i => by simp [leafAt]
  | n :: r, i => by
    rw [leafAt]
    split
    · refine List.pairwise_cons.2 ⟨fun y hy => ?_, leafAt_sym r (i + 1)⟩
      obtain ⟨_, j, h, _⟩ := leafAt_mem r (i + 1) y hy
      simp [h]; omega
    · exact leafAt_sym r (i + 1)
theorem leaves_ok (c : List Nat) : Ok c.length (leaves c) := by
  refine ⟨fun x hx => ?_, ?_⟩
  · obtain ⟨_, j, h, hj⟩ := leaves_mem c x hx
    have := (List.getElem?_eq_some_iff.1 hj).1
    exact ⟨by omega, by rw [h]; simpa using this⟩
  · have h1 : (leafAt 0 c).Pairwise fun x y => x.sym.toNat ≠ y.sym.toNat := (leafAt_sym c 0).imp fun h => by omega
    exact (ssort_stb (leafAt 0 c)).perm.pairwise h1 fun h => h.symm
theorem down_sum (c : List Nat) : ∀ (k t : Nat) (ls : List Nat), ls.length = c.length → k ≤ 15 → t ≤ (lvl c (k - 1)).length → (k = 0 → t = 0) →
    (∀ x ∈ (leaves c).take (nlf ((lvl c (k - 1)).take t)), ls.getD x.sym.toNat 0 = 15 - k) → lfSum (leaves c) (down c k t ls) + t * 2 ^ k / 2 = lfSum (leaves c) ls
  | 0, t, ls, _, _, _, h0, _ => by rw [h0 rfl]; simp [down]
  | k + 1, t, ls, hl, hk, ht, _, hA => by
    rw [Nat.add_sub_cancel] at ht hA
    have hA' := fun x hx => (hA x hx).trans (by omega : 15 - (k + 1) = 14 - k)
    have hO := leaves_ok c
    have hcat := List.take_append_drop (nlf ((lvl c k).take t)) (leaves c)
    have hn1 : nlf ((lvl c k).take t) ≤ (leaves c).length := by
      rw [← nlf_leaves c k]; exact (List.take_sublist t (lvl c k)).countP_le
    have hb : bumps ls ((lvl c k).take t) = bumps ls ((leaves c).take (nlf ((lvl c k).take t))) := by rw [bumps_filter, taken_leaves]
    have h1 := lfSum_bumps (n := c.length) (A := (leaves c).take (nlf ((lvl c k).take t))) (B := (leaves c).drop (nlf ((lvl c k).take t))) (ls := ls) (k := k) (by rw [hcat]; exact hO) hl (by omega) hA'
    rw [hcat, List.length_take, Nat.min_eq_left hn1] at h1
    have hnp := nlf_npk ((lvl c k).take t)
    rw [List.length_take, Nat.min_eq_left ht] at hnp
    rw [down, hb]
    have hk2 : t * 2 ^ (k + 1) / 2 = t * 2 ^ k := by rw [Nat.pow_succ, ← Nat.mul_assoc, Nat.mul_div_cancel _ (by decide)]
    rw [hk2]
    cases k with
    | zero =>
      have h0 : npk ((lvl c 0).take t) = 0 := by
        have := npk_le (lvl c 0) t
        have h := npk_leaves c
        simp only [lvl] at this ⊢
        omega
      rw [h0] at hnp ⊢
      simp only [Nat.pow_zero, Nat.mul_one, Nat.mul_zero, down] at h1 ⊢
      omega
    | succ k =>
      have hmono := nlf_mono c k t
      have ih := down_sum c (k + 1) (2 * npk ((lvl c (k + 1)).take t)) (bumps ls ((leaves c).take (nlf ((lvl c (k + 1)).take t)))) (by rw [bumps_length, hl]) (by omega) (take_down c k t) (by omega) (by
        intro x hx
        rw [Nat.add_sub_cancel] at hx
        have hx2 : x ∈ (leaves c).take (nlf ((lvl c (k + 1)).take t)) := by
          rw [List.mem_iff_getElem?] at hx ⊢
          obtain ⟨i, hi⟩ := hx
          refine ⟨i, ?_⟩
          rw [List.getElem?_take] at hi ⊢
          split at hi
          · rw [if_pos (by omega)]; exact hi
          · cases hi
        rw [bumps_in (Ok.left (m := (leaves c).drop (nlf ((lvl c (k + 1)).take t))) (by rw [hcat]; exact hO)) hl x hx2, hA' x hx2]; omega)
      have e1 : 2 * npk ((lvl c (k + 1)).take t) * 2 ^ (k + 1) / 2 = npk ((lvl c (k + 1)).take t) * 2 ^ (k + 1) := by
        rw [Nat.mul_assoc, Nat.mul_div_cancel_left _ (by decide)]
      rw [e1] at ih
      have e2 : t * 2 ^ (k + 1) = nlf ((lvl c (k + 1)).take t) * 2 ^ (k + 1) + npk ((lvl c (k + 1)).take t) * 2 ^ (k + 1) := by rw [← Nat.add_mul, hnp]
      omega
theorem bump_getD_le (ls : List Nat) (x : It) (j : Nat) : ls.getD j 0 ≤ (bump ls x).getD j 0 := by
  unfold bump
  split
  · by_cases h : x.sym.toNat = j
    · subst h
      by_cases hl : x.sym.toNat < ls.length
      · rw [getD_set_eq hl]; omega
      · simp [List.getD_eq_getElem?_getD, List.getElem?_eq_none (Nat.le_of_not_lt hl)]
    · rw [getD_set_ne' h]; exact Nat.le_refl _
  · exact Nat.le_refl _
theorem bumps_getD_le (j : Nat) : ∀ (xs : List It) (ls : List Nat), ls.getD j 0 ≤ (bumps ls xs).getD j 0
  | [], ls => Nat.le_refl _
  | x :: r, ls => Nat.le_trans (bump_getD_le ls x j) (bumps_getD_le j r (bump ls x))
theorem down_getD_le (c : List Nat) (j : Nat) : ∀ k t ls, ls.getD j 0 ≤ (down c k t ls).getD j 0
  | 0, _, _ => Nat.le_refl _
  | k + 1, t, ls => Nat.le_trans (bumps_getD_le j _ ls) (down_getD_le c j k _ _)
theorem taken_ok (c : List Nat) (k t : Nat) : Ok c.length (((lvl c k).take t).filter isLf) := by
  rw [taken_leaves]; exact Ok.left (m := (leaves c).drop _) (by rw [List.take_append_drop]; exact leaves_ok c)
theorem bumps_step (c : List Nat) (k t j : Nat) {ls : List Nat} (hl : ls.length = c.length) : (bumps ls ((lvl c k).take t)).getD j 0 ≤ ls.getD j 0 + 1 := by
  rw [bumps_filter]
  by_cases h : ∃ x ∈ ((lvl c k).take t).filter isLf, x.sym.toNat = j
  · obtain ⟨x, hx, rfl⟩ := h
    rw [bumps_in (taken_ok c k t) hl x hx]; exact Nat.le_refl _
  · rw [bumps_out _ _ fun x hx he => h ⟨x, hx, he⟩]; omega
theorem down_le (c : List Nat) (j : Nat) : ∀ k t ls, ls.length = c.length → (down c k t ls).getD j 0 ≤ ls.getD j 0 + k
  | 0, _, _, _ => Nat.le_refl _
  | k + 1, t, ls, hl => by
    have h1 := bumps_step c k t j hl
    have h2 := down_le c j k (2 * npk ((lvl c k).take t)) (bumps ls ((lvl c k).take t)) (by rw [bumps_length, hl])
    rw [down]; omega
theorem down_out (c : List Nat) (j : Nat) (hj : ∀ x ∈ leaves c, x.sym.toNat ≠ j) : ∀ k t ls, (down c k t ls).getD j 0 = ls.getD j 0
  | 0, _, _ => rfl
  | k + 1, t, ls => by
    rw [down, down_out c j hj k, bumps_filter]
    refine bumps_out _ _ fun x hx => hj x ?_
    rw [taken_leaves] at hx
    exact List.mem_of_mem_take hx
theorem leaf_sym {c : List Nat} {j n : Nat} (h : c[j]? = some n) (hn : 0 < n) : ∃ x ∈ leaves c, x.sym.toNat = j ∧ x.w = n := by
  have : ∀ (l : List Nat) (i j : Nat), l[j]? = some n → ∃ x ∈ leafAt i l, x.sym.toNat = i + j ∧ x.w = n := by
    intro l
    induction l with
    | nil => intro i j h; simp at h
    | cons m r ih =>
      intro i j h
      cases j with
      | zero =>
        simp at h; subst h
        rw [leafAt, if_pos hn]
        exact ⟨⟨m, i, 0, 0⟩, by simp, by simp, rfl⟩
      | succ j =>
        obtain ⟨x, hx, h1, h2⟩ := ih (i + 1) j (by simpa using h)
        refine ⟨x, ?_, by omega, h2⟩
        rw [leafAt]; split
        · exact List.mem_cons_of_mem _ hx
        · exact hx
  obtain ⟨x, hx, h1, h2⟩ := this c 0 j h
  exact ⟨x, (ssort_stb _).mem.1 hx, by omega, h2⟩
theorem ksum_at (LS : List Nat) : ∀ (r s : List Nat) (i : Nat), LS.drop i = s → s.length = r.length → (∀ j, j < r.length → (s.getD j 0 = 0 ↔ r.getD j 0 = 0)) → lfSum (leafAt i r) LS = ksum s
  | [], s, i, _, hl, _ => by
    have h0 : s = [] := List.eq_nil_of_length_eq_zero (by simpa using hl)
    subst h0; rfl
  | n :: r, s, i, hd, hl, hz => by
    match s with
    | [] => simp at hl
    | v :: s =>
      have hi : LS.getD i 0 = v := by
        have : (LS.drop i)[0]? = some v := by rw [hd]; rfl
        rw [List.getElem?_drop] at this
        rw [List.getD_eq_getElem?_getD]; simpa using congrArg (fun o => o.getD 0) this
      have ih := ksum_at LS r s (i + 1) (by rw [← List.drop_drop, hd]; rfl) (by simpa using hl) (fun j hj => by have := hz (j + 1) (by simpa using hj); simpa using this)
      have h0 := hz 0 (by simp)
      simp only [List.getD_cons_zero] at h0
      rw [leafAt, ksum]
      split
      · rename_i hn
        have hv : 0 < v := by omega
        have e : lfSum (⟨n, i, 0, 0⟩ :: leafAt (i + 1) r) LS = 2 ^ (15 - LS.getD i 0) + lfSum (leafAt (i + 1) r) LS := by simp [lfSum]
        rw [e, ih, hi, kr, if_pos hv]
      · have hv : ¬ 0 < v := by omega
        rw [ih, kr, if_neg hv, Nat.zero_add]
/-- What the lengths are good for. -/
structure LensOk (c ls : List Nat) : Prop where
  len : ls.length = c.length
  le : ∀ j, ls.getD j 0 ≤ 15
  zero : ∀ j, j < c.length → (ls.getD j 0 = 0 ↔ c.getD j 0 = 0)
  kraft : ksum ls ≤ 2 ^ 15
theorem getD_some {l : List Nat} {j n : Nat} (h : l[j]? = some n) : l.getD j 0 = n := by simp [List.getD_eq_getElem?_getD, h]
theorem replicate_getD (n j : Nat) : (List.replicate n 0).getD j 0 = 0 := by
  rw [List.getD_eq_getElem?_getD, List.getElem?_replicate]; split <;> rfl
theorem lensN_ok (c : List Nat) (hn : (leaves c).length ≤ 1024) : LensOk c (lensN c) := by
  have hlen := lensN_length c
  have hperm : ∀ ls, lfSum (leaves c) ls = lfSum (leafAt 0 c) ls := fun ls => ((ssort_stb (key := It.w) (leafAt 0 c)).perm.symm.map _).sum_nat
  have hout : ∀ j, j < c.length → c.getD j 0 = 0 → ∀ x ∈ leaves c, x.sym.toNat ≠ j := fun j hj h0 x hx he => by
    obtain ⟨_, i, h1, h2⟩ := leaves_mem c x hx
    have : i = j := by omega
    subst this
    have hp := lvl_pos c 0 x hx
    rw [getD_some h2] at h0; omega
  have hin : ∀ j, j < c.length → c.getD j 0 ≠ 0 → ∃ x ∈ leaves c, x.sym.toNat = j := fun j hj h0 => by
    have hg : c[j]? = some c[j] := List.getElem?_eq_getElem hj
    rw [getD_some hg] at h0
    obtain ⟨x, hx, h1, _⟩ := leaf_sym hg (by omega)
    exact ⟨x, hx, h1⟩
  rcases Nat.lt_or_ge (leaves c).length 2 with h2 | h2
  · have hE : lensN c = (leaves c).foldl (fun ls x => ls.set x.sym.toNat 1) (List.replicate c.length 0) := by unfold lensN; rw [if_pos h2]
    rcases Nat.eq_zero_or_pos (leaves c).length with h0 | h0
    · have hnil := List.eq_nil_of_length_eq_zero h0
      rw [hnil] at hE
      have hz : ∀ j, j < c.length → ((lensN c).getD j 0 = 0 ↔ c.getD j 0 = 0) := fun j hj => by
        rw [hE]
        refine ⟨fun _ => ?_, fun _ => replicate_getD ..⟩
        refine Classical.byContradiction fun hne => ?_
        obtain ⟨x, hx, _⟩ := hin j hj hne
        rw [hnil] at hx; cases hx
      refine ⟨hlen, fun j => by rw [hE]; show (List.replicate c.length 0).getD j 0 ≤ 15; rw [replicate_getD]; omega, hz, ?_⟩
      rw [← ksum_at (lensN c) c (lensN c) 0 rfl hlen hz, ← hperm, hnil]
      exact Nat.zero_le _
    · obtain ⟨x, hx⟩ := List.length_eq_one_iff.1 (by omega : (leaves c).length = 1)
      rw [hx] at hE
      have hE' : lensN c = (List.replicate c.length 0).set x.sym.toNat 1 := hE
      have hxl := (leaves_ok c).1 x (by rw [hx]; simp)
      have hg : ∀ j, (lensN c).getD j 0 = if x.sym.toNat = j then 1 else 0 := fun j => by
        rw [hE']
        by_cases h : x.sym.toNat = j
        · subst h; rw [getD_set_eq (by simpa using hxl.2), if_pos rfl]
        · rw [getD_set_ne' h, if_neg h, replicate_getD]
      have hz : ∀ j, j < c.length → ((lensN c).getD j 0 = 0 ↔ c.getD j 0 = 0) := fun j hj => by
        rw [hg]
        by_cases h : x.sym.toNat = j
        · rw [if_pos h]
          refine ⟨fun h => by omega, fun h0 => absurd h (hout j hj h0 x (by rw [hx]; simp))⟩
        · rw [if_neg h]
          refine ⟨fun _ => Classical.byContradiction fun hne => ?_, fun _ => rfl⟩
          obtain ⟨y, hy, hy2⟩ := hin j hj hne
          rw [hx] at hy; simp at hy; subst hy; exact h hy2
      refine ⟨hlen, fun j => by rw [hg]; split <;> omega, hz, ?_⟩
      rw [← ksum_at (lensN c) c (lensN c) 0 rfl hlen hz, ← hperm, hx]
      simp only [lfSum, List.map_cons, List.map_nil, List.sum_cons, List.sum_nil, hg, if_pos]
      decide
  · have hE : lensN c = down c 15 (2 * (leaves c).length - 2) (List.replicate c.length 0) := by unfold lensN; rw [if_neg (by omega)]
    have htop := nlf_top' c h2 14
    have hz : ∀ j, j < c.length → ((lensN c).getD j 0 = 0 ↔ c.getD j 0 = 0) := fun j hj => by
      rw [hE]
      refine ⟨fun h => Classical.byContradiction fun hne => ?_, fun h0 => by rw [down_out c j (hout j hj h0), replicate_getD]⟩
      obtain ⟨x, hx, hxj⟩ := hin j hj hne
      rw [down] at h
      have h1 := down_getD_le c j 14 (2 * npk ((lvl c 14).take (2 * (leaves c).length - 2))) (bumps (List.replicate c.length 0) ((lvl c 14).take (2 * (leaves c).length - 2)))
      rw [h] at h1
      rw [bumps_filter, taken_leaves, htop, List.take_length, ← hxj, bumps_in (leaves_ok c) (by simp) x hx] at h1
      omega
    refine ⟨hlen, fun j => ?_, hz, ?_⟩
    · rw [hE]
      have := down_le c j 15 (2 * (leaves c).length - 2) (List.replicate c.length 0) (by simp)
      rw [replicate_getD] at this; omega
    · rw [← ksum_at (lensN c) c (lensN c) 0 rfl hlen hz, ← hperm]
      have h := down_sum c 15 (2 * (leaves c).length - 2) (List.replicate c.length 0) (by simp) (Nat.le_refl _) (take_top c (by omega) hn) (by omega) (fun x _ => by rw [replicate_getD])
      rw [← hE, lfSum_const (l := leaves c) (ls := List.replicate c.length 0) (d := 0) (fun x _ => replicate_getD ..)] at h
      have e : (2 * (leaves c).length - 2) * 2 ^ 15 / 2 = ((leaves c).length - 1) * 2 ^ 15 := by
        rw [show 2 * (leaves c).length - 2 = 2 * ((leaves c).length - 1) by omega, Nat.mul_assoc, Nat.mul_div_cancel_left _ (by decide)]
      rw [e] at h
      have e2 : (leaves c).length * 2 ^ 15 = ((leaves c).length - 1) * 2 ^ 15 + 2 ^ 15 := by
        conv => lhs; rw [show (leaves c).length = (leaves c).length - 1 + 1 by omega]
        rw [Nat.add_mul, Nat.one_mul]
      simp only [Nat.sub_zero] at h
      omega
end Go.Kw
