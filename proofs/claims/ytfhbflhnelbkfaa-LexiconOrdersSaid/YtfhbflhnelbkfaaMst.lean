/-
  Mst: plain facts on stable sorting by a key, by insertion, rotation and merging in place (layer 14 and wherever Go's stable sort is used). No program in sight.
-/
import Derived.WalkKit
namespace Go.Kw
section
variable {α : Type}

/-- Two places exchanged. -/
def sw (l : List α) (i j : Nat) : List α :=
  match l[i]?, l[j]? with
  | some x, some y => (l.set i y).set j x
  | _, _ => l
theorem sw_of {l : List α} {i j : Nat} {x y : α} (hi : l[i]? = some x) (hj : l[j]? = some y) : sw l i j = (l.set i y).set j x := by simp [sw, hi, hj]
@[simp] theorem sw_length (l : List α) (i j : Nat) : (sw l i j).length = l.length := by unfold sw; split <;> simp
theorem set_mid (P Q : List α) (x y : α) : (P ++ x :: Q).set P.length y = P ++ y :: Q := by simp
theorem set_at {P Q : List α} {x y : α} {i : Nat} (h : i = P.length) : (P ++ x :: Q).set i y = P ++ y :: Q := by subst h; simp
theorem get_at {P Q : List α} {x : α} {i : Nat} (h : i = P.length) : (P ++ x :: Q)[i]? = some x := by subst h; simp
theorem sw_up {P M Q : List α} {x y : α} {i j : Nat} (hi : i = P.length) (hj : j = P.length + 1 + M.length) : sw (P ++ x :: (M ++ y :: Q)) i j = P ++ y :: (M ++ x :: Q) := by
  have e : ∀ z, P ++ z :: (M ++ y :: Q) = (P ++ z :: M) ++ y :: Q := by simp
  rw [sw_of (get_at hi) (y := y) (by rw [e]; exact get_at (by simp; omega)), set_at hi, show P ++ y :: (M ++ y :: Q) = (P ++ y :: M) ++ y :: Q by simp, set_at (by simp; omega)]
  simp
theorem sw_down {P M Q : List α} {x y : α} {i j : Nat} (hi : i = P.length + 1 + M.length) (hj : j = P.length) : sw (P ++ x :: (M ++ y :: Q)) i j = P ++ y :: (M ++ x :: Q) := by
  have e : ∀ z, P ++ z :: (M ++ y :: Q) = (P ++ z :: M) ++ y :: Q := by simp
  rw [sw_of (x := y) (y := x) (by rw [e]; exact get_at (by simp; omega)) (get_at hj), e, set_at (by simp; omega)]
  rw [show (P ++ x :: M) ++ x :: Q = P ++ x :: (M ++ x :: Q) by simp, set_at hj]

theorem cut_at (X : List α) (n : Nat) (h : n < X.length) : ∃ x X', X.drop n = x :: X' ∧ X.drop (n + 1) = X' ∧ X.take (n + 1) = X.take n ++ [x] :=
  ⟨X[n], X.drop (n + 1), (List.getElem_cons_drop h).symm, rfl, (List.take_append_getElem h).symm⟩
def swapN (l : List α) (a b : Nat) : Nat → List α
  | 0 => l
  | n + 1 => sw (swapN l a b n) (a + n) (b + n)
@[simp] theorem swapN_length (l : List α) (a b n : Nat) : (swapN l a b n).length = l.length := by induction n <;> simp_all [swapN]
theorem swapN_at (A X M Y B : List α) (hxy : X.length = Y.length) {a b : Nat} (ha : a = A.length) (hb : b = A.length + X.length + M.length) : ∀ n, n ≤ X.length →
    swapN (A ++ X ++ M ++ Y ++ B) a b n = A ++ (Y.take n ++ X.drop n) ++ M ++ (X.take n ++ Y.drop n) ++ B
  | 0, _ => by simp [swapN]
  | n + 1, h => by
    rw [swapN, swapN_at A X M Y B hxy ha hb n (by omega)]
    obtain ⟨x, X', hX, hX1, hX2⟩ := cut_at X n (by omega)
    obtain ⟨y, Y', hY, hY1, hY2⟩ := cut_at Y n (by omega)
    rw [hX, hY, hX2, hY2, hX1, hY1]
    have lX : X'.length + (n + 1) = X.length := by have := congrArg List.length hX; simp at this; omega
    have e : A ++ (Y.take n ++ x :: X') ++ M ++ (X.take n ++ y :: Y') ++ B = (A ++ Y.take n) ++ x :: ((X' ++ M ++ X.take n) ++ y :: (Y' ++ B)) := by simp
    rw [e, sw_up (by simp; omega) (by simp; omega)]
    simp
theorem swapN_all (A X M Y B : List α) (hxy : X.length = Y.length) {a b n : Nat} (ha : a = A.length) (hb : b = A.length + X.length + M.length) (hn : n = X.length) :
    swapN (A ++ X ++ M ++ Y ++ B) a b n = A ++ Y ++ M ++ X ++ B := by
  rw [swapN_at A X M Y B hxy ha hb n (by omega), hn, List.take_of_length_le (by omega), List.drop_of_length_le (by omega), List.take_of_length_le (by omega), List.drop_of_length_le (l := Y) (by omega)]
  simp

/-- One shifted up by n places. -/
def shU (l : List α) (a : Nat) : Nat → List α
  | 0 => l
  | n + 1 => sw (shU l a n) (a + n) (a + n + 1)
@[simp] theorem shU_length (l : List α) (a n : Nat) : (shU l a n).length = l.length := by induction n <;> simp_all [shU]
theorem shU_at (A L B : List α) (x : α) {a : Nat} (ha : a = A.length) : ∀ n, n ≤ L.length → shU (A ++ x :: (L ++ B)) a n = A ++ L.take n ++ x :: (L.drop n ++ B)
  | 0, _ => by simp [shU]
  | n + 1, h => by
    rw [shU, shU_at A L B x ha n (by omega)]
    obtain ⟨y, L', hX, hX1, hX2⟩ := cut_at L n (by omega)
    rw [hX, hX2, hX1]
    have e : A ++ L.take n ++ x :: (y :: L' ++ B) = (A ++ L.take n) ++ x :: ([] ++ y :: (L' ++ B)) := by simp
    rw [e, sw_up (by simp; omega) (by simp; omega)]
    simp
/-- One shifted down by n places. -/
def shD (l : List α) (m : Nat) : Nat → List α
  | 0 => l
  | n + 1 => sw (shD l m n) (m - n) (m - n - 1)
@[simp] theorem shD_length (l : List α) (a n : Nat) : (shD l a n).length = l.length := by induction n <;> simp_all [shD]
theorem shD_at (A L B : List α) (x : α) {m : Nat} (hm : m = A.length + L.length) : ∀ n, n ≤ L.length → shD (A ++ L ++ x :: B) m n = A ++ L.take (L.length - n) ++ x :: (L.drop (L.length - n) ++ B)
  | 0, _ => by simp [shD]
  | n + 1, h => by
    rw [shD, shD_at A L B x hm n (by omega)]
    obtain ⟨q, hq⟩ : ∃ q, L.length - (n + 1) = q := ⟨_, rfl⟩
    rw [hq, show L.length - n = q + 1 by omega]
    obtain ⟨y, L', hX, hX1, hX2⟩ := cut_at L q (by omega)
    rw [hX, hX2, hX1]
    have e : A ++ (L.take q ++ [y]) ++ x :: (L' ++ B) = (A ++ L.take q) ++ y :: ([] ++ x :: (L' ++ B)) := by simp
    rw [e, sw_down (by simp; omega) (by simp; omega)]
    simp

/-! ## Sorted by a key; the same but for the order of unlike keys -/
def Srt (key : α → Nat) (l : List α) : Prop := l.Pairwise fun a b => key a ≤ key b
def Stb (key : α → Nat) (l m : List α) : Prop := ∀ k, l.filter (fun x => key x == k) = m.filter (fun x => key x == k)
variable {key : α → Nat}
theorem Stb.refl (l : List α) : Stb key l l := fun _ => rfl
theorem Stb.symm {l m : List α} (h : Stb key l m) : Stb key m l := fun k => (h k).symm
theorem Stb.trans {l m n : List α} (h : Stb key l m) (g : Stb key m n) : Stb key l n := fun k => (h k).trans (g k)
theorem Stb.append {l l' m m' : List α} (h : Stb key l l') (g : Stb key m m') : Stb key (l ++ m) (l' ++ m') := fun k => by simp only [List.filter_append, h k, g k]
theorem Stb.mid {A B l l' : List α} (h : Stb key l l') : Stb key (A ++ l ++ B) (A ++ l' ++ B) := ((Stb.refl A).append h).append (Stb.refl B)
theorem Stb.comm {l m : List α} (h : ∀ x ∈ l, ∀ y ∈ m, key x ≠ key y) : Stb key (l ++ m) (m ++ l) := fun k => by
  simp only [List.filter_append]
  rcases hl : l.filter (fun x => key x == k) with _ | ⟨x, r⟩
  · simp
  · have hx : x ∈ l.filter (fun x => key x == k) := by rw [hl]; simp
    rw [List.mem_filter] at hx
    have : m.filter (fun x => key x == k) = [] := by
      rw [List.filter_eq_nil_iff]
      intro y hy hk
      exact h x hx.1 y hy (by have := hx.2; simp at this hk; omega)
    simp [this]
theorem Stb.mem {l m : List α} (h : Stb key l m) {x : α} : x ∈ l ↔ x ∈ m := by
  have e : ∀ q : List α, x ∈ q ↔ x ∈ q.filter (fun y => key y == key x) := fun q => by simp [List.mem_filter]
  rw [e l, e m, h (key x)]
theorem Stb.perm : ∀ {l m : List α}, Stb key l m → l.Perm m
  | [], m, h => by
    cases m with
    | nil => exact .refl _
    | cons y r => exact absurd (h.mem.2 (List.mem_cons_self)) (by simp)
  | x :: l, m, h => by
    obtain ⟨p, q, rfl, hp⟩ : ∃ p q, m = p ++ x :: q ∧ ∀ y ∈ p, key y ≠ key x := by
      have hx := h (key x)
      rw [List.filter_cons_of_pos (by simp)] at hx
      have : ∀ m : List α, ∀ r, x :: r = m.filter (fun y => key y == key x) → ∃ p q, m = p ++ x :: q ∧ ∀ y ∈ p, key y ≠ key x := by
        intro m
        induction m with
        | nil => intro r h; simp at h
        | cons y m ih =>
          intro r hr
          by_cases hy : key y = key x
          · rw [List.filter_cons_of_pos (by simp [hy])] at hr
            exact ⟨[], m, by simp [List.cons.inj hr |>.1], by simp⟩
          · rw [List.filter_cons_of_neg (by simp [hy])] at hr
            obtain ⟨p, q, rfl, hp⟩ := ih r hr
            exact ⟨y :: p, q, rfl, fun z hz => (List.mem_cons.1 hz).elim (fun e => e ▸ hy) (hp z)⟩
      exact this m _ hx
    have h2 : Stb key l (p ++ q) := fun k => by
      have := h k
      simp only [List.filter_append, List.filter_cons] at this ⊢
      by_cases hk : key x = k
      · have hn : p.filter (fun y => key y == k) = [] := by
          rw [List.filter_eq_nil_iff]; intro y hy; simpa [← hk] using hp y hy
        simp [hk, hn] at this ⊢
        exact this
      · simp [hk] at this ⊢
        exact this
    exact (List.Perm.cons x h2.perm).trans List.perm_middle.symm
theorem Stb.length {l m : List α} (h : Stb key l m) : l.length = m.length := h.perm.length_eq

theorem Srt.append {l m : List α} : Srt key (l ++ m) ↔ Srt key l ∧ Srt key m ∧ ∀ x ∈ l, ∀ y ∈ m, key x ≤ key y := by unfold Srt; rw [List.pairwise_append]
theorem Srt.nil : Srt key ([] : List α) := List.Pairwise.nil
theorem Srt.one (x : α) : Srt key [x] := by simp [Srt]

/-- The stable sorting. -/
def insK (key : α → Nat) (x : α) : List α → List α
  | [] => [x]
  | y :: r => if key x ≤ key y then x :: y :: r else y :: insK key x r
def ssort (key : α → Nat) : List α → List α
  | [] => []
  | x :: r => insK key x (ssort key r)
theorem insK_stb (x : α) : ∀ l : List α, Stb key (x :: l) (insK key x l)
  | [] => Stb.refl _
  | y :: r => by
    rw [insK]; split
    · exact Stb.refl _
    · have h1 : Stb key (x :: y :: r) (y :: x :: r) := Stb.append (l := [x, y]) (l' := [y, x]) (Stb.comm (l := [x]) (m := [y]) (by simp; omega)) (Stb.refl r)
      exact h1.trans (Stb.append (Stb.refl [y]) (insK_stb x r))
theorem insK_srt (x : α) : ∀ l : List α, Srt key l → Srt key (insK key x l)
  | [], _ => Srt.one x
  | y :: r, h => by
    have h1 := List.pairwise_cons.1 h
    rw [insK]; split
    · rename_i hxy
      exact List.pairwise_cons.2 ⟨fun z hz => (List.mem_cons.1 hz).elim (fun e => e ▸ hxy) (fun hz => Nat.le_trans hxy (h1.1 z hz)), h⟩
    · refine List.pairwise_cons.2 ⟨fun z hz => ?_, insK_srt x r h1.2⟩
      rcases List.mem_cons.1 ((insK_stb x r).mem.2 hz) with rfl | hz
      · omega
      · exact h1.1 z hz
theorem ssort_stb : ∀ l : List α, Stb key l (ssort key l)
  | [] => Stb.refl _
  | x :: r => (Stb.append (Stb.refl [x]) (ssort_stb r)).trans (insK_stb x _)
theorem ssort_srt : ∀ l : List α, Srt key (ssort key l)
  | [] => Srt.nil
  | x :: r => insK_srt x _ (ssort_srt r)
theorem Srt.unique : ∀ {l m : List α}, Srt key l → Srt key m → Stb key l m → l = m
  | [], m, _, _, h => by
    have := h.length; simp at this; exact (List.eq_nil_of_length_eq_zero this.symm).symm
  | x :: l, [], _, _, h => by have := h.length; simp at this
  | x :: l, y :: m, hl, hm, h => by
    have h1 := List.pairwise_cons.1 hl
    have h2 := List.pairwise_cons.1 hm
    have hk : key x = key y := by
      have a1 : key x ≤ key y := by
        rcases List.mem_cons.1 (h.mem.2 (List.mem_cons_self : y ∈ y :: m)) with e | e
        · rw [e]; exact Nat.le_refl _
        · exact h1.1 y e
      have a2 : key y ≤ key x := by
        rcases List.mem_cons.1 (h.mem.1 (List.mem_cons_self : x ∈ x :: l)) with e | e
        · rw [e]; exact Nat.le_refl _
        · exact h2.1 x e
      omega
    have hxy : x = y := by
      have := h (key x)
      rw [List.filter_cons_of_pos (by simp), List.filter_cons_of_pos (by simp [hk])] at this
      exact (List.cons.inj this).1
    subst hxy
    congr 1
    refine Srt.unique h1.2 h2.2 fun k => ?_
    have := h k
    simp only [List.filter_cons] at this
    split at this
    · exact (List.cons.inj this).2
    · exact this
theorem ssort_eq {l m : List α} (h : Srt key m) (g : Stb key l m) : m = ssort key l := h.unique (ssort_srt l) (g.symm.trans (ssort_stb l))
@[simp] theorem ssort_length (l : List α) : (ssort key l).length = l.length := (ssort_stb l).length.symm

/-! ## Insertion sort in place -/
def kl (key : α → Nat) (l : List α) (i j : Nat) : Bool :=
  match l[i]?, l[j]? with
  | some x, some y => decide (key x < key y)
  | _, _ => false
def insW (key : α → Nat) (a : Nat) : Nat → List α → List α
  | 0, l => l
  | j + 1, l => if a < j + 1 ∧ kl key l (j + 1) j = true then insW key a j (sw l (j + 1) j) else l
def insS (key : α → Nat) (a : Nat) (l : List α) : Nat → List α
  | 0 => l
  | n + 1 => insW key a (a + (n + 1)) (insS key a l n)
theorem insW_stop {a j : Nat} {l : List α} {x y : α} (h : ¬ (a < j ∧ key x < key y)) (hx : l[j]? = some x) (hy : l[j - 1]? = some y) : insW key a j l = l := by
  cases j with
  | zero => rfl
  | succ j =>
    rw [insW]
    rw [Nat.add_sub_cancel] at hy
    have : kl key l (j + 1) j = decide (key x < key y) := by unfold kl; rw [hx, hy]
    rw [this, if_neg]
    simpa using h
theorem insW_go {a j : Nat} {l : List α} {x y : α} (h : a < j ∧ key x < key y) (hx : l[j]? = some x) (hy : l[j - 1]? = some y) : insW key a j l = insW key a (j - 1) ((l.set j y).set (j - 1) x) := by
  cases j with
  | zero => omega
  | succ j =>
    rw [insW]
    rw [Nat.add_sub_cancel] at hy ⊢
    have : kl key l (j + 1) j = decide (key x < key y) := by unfold kl; rw [hx, hy]
    rw [this, if_pos (by simpa using h), sw_of hx hy]
@[simp] theorem insW_length (a : Nat) : ∀ (j : Nat) (l : List α), (insW key a j l).length = l.length
  | 0, l => rfl
  | j + 1, l => by rw [insW]; split <;> simp [insW_length a j]
@[simp] theorem insS_length (a : Nat) (l : List α) : ∀ n, (insS key a l n).length = l.length
  | 0 => rfl
  | n + 1 => by rw [insS, insW_length, insS_length a l n]

theorem insW_at (A : List α) (x : α) {a : Nat} (ha : a = A.length) : ∀ (n : Nat) (S B : List α), S.length = n → ∀ j, j = a + n → Srt key S →
    ∃ S', insW key a j (A ++ S ++ x :: B) = A ++ S' ++ B ∧ Srt key S' ∧ Stb key (S ++ [x]) S'
  | 0, S, B, hn, j, hj, _ => by
    have : S = [] := List.eq_nil_of_length_eq_zero hn
    subst this
    refine ⟨[x], ?_, Srt.one x, Stb.refl _⟩
    have h0 : insW key a j (A ++ [] ++ x :: B) = A ++ [] ++ x :: B := by
      cases j with
      | zero => rfl
      | succ j => rw [insW, if_neg (by omega)]
    rw [h0]; simp
  | n + 1, S, B, hn, j, hj, hS => by
    obtain ⟨S0, y, rfl⟩ : ∃ S0 y, S = S0 ++ [y] := ⟨S.dropLast, S.getLast (by intro h; rw [h] at hn; simp at hn), (List.dropLast_concat_getLast _).symm⟩
    simp at hn
    have hS2 := Srt.append.1 hS
    have ex : (A ++ (S0 ++ [y]) ++ x :: B)[j]? = some x := get_at (P := A ++ (S0 ++ [y])) (by simp; omega)
    have ey : (A ++ (S0 ++ [y]) ++ x :: B)[j - 1]? = some y := by
      rw [show A ++ (S0 ++ [y]) ++ x :: B = (A ++ S0) ++ y :: (x :: B) by simp]; exact get_at (by simp; omega)
    by_cases hc : key x < key y
    · have hsw : ((A ++ (S0 ++ [y]) ++ x :: B).set j y).set (j - 1) x = A ++ S0 ++ x :: (y :: B) := by
        rw [set_at (P := A ++ (S0 ++ [y])) (by simp; omega), show A ++ (S0 ++ [y]) ++ y :: B = (A ++ S0) ++ y :: (y :: B) by simp, set_at (by simp; omega)]
      obtain ⟨S', h1, h2, h3⟩ := insW_at A x ha n S0 (y :: B) hn (j - 1) (by omega) hS2.1
      refine ⟨S' ++ [y], ?_, ?_, ?_⟩
      · rw [insW_go ⟨by omega, hc⟩ ex ey, hsw, h1]; simp
      · refine Srt.append.2 ⟨h2, Srt.one y, fun z hz q hq => ?_⟩
        simp at hq; subst hq
        rcases List.mem_append.1 (h3.mem.2 hz) with hz | hz
        · exact hS2.2.2 z hz q (by simp)
        · simp at hz; subst hz; omega
      · have e1 : Stb key (S0 ++ [y] ++ [x]) (S0 ++ [x] ++ [y]) := by
          rw [List.append_assoc, List.append_assoc]
          exact (Stb.refl S0).append (Stb.comm (by simp; omega))
        exact e1.trans (h3.append (Stb.refl [y]))
    · refine ⟨S0 ++ [y] ++ [x], ?_, ?_, Stb.refl _⟩
      · rw [insW_stop (by omega) ex ey]; simp
      · refine Srt.append.2 ⟨hS, Srt.one x, fun z hz q hq => ?_⟩
        simp at hq; subst hq
        rcases List.mem_append.1 hz with hz | hz
        · exact Nat.le_trans (hS2.2.2 z hz y (by simp)) (by omega)
        · simp at hz; subst hz; omega
theorem insS_at (A S B : List α) {a : Nat} (ha : a = A.length) : ∀ n, n + 1 ≤ S.length → ∃ S', insS key a (A ++ S ++ B) n = A ++ S' ++ (S.drop (n + 1) ++ B) ∧ Srt key S' ∧ Stb key (S.take (n + 1)) S'
  | 0, h => by
    cases S with
    | nil => simp at h
    | cons x S => exact ⟨[x], by simp [insS], Srt.one x, Stb.refl _⟩
  | n + 1, h => by
    obtain ⟨S', h1, h2, h3⟩ := insS_at A S B ha n (by omega)
    obtain ⟨y, L', hX, hX1, hX2⟩ := cut_at S (n + 1) (by omega)
    have hl : S'.length = n + 1 := by rw [← h3.length]; simp; omega
    obtain ⟨S2, g1, g2, g3⟩ := insW_at (key := key) A y ha (n + 1) S' (L' ++ B) hl (a + (n + 1)) rfl h2
    refine ⟨S2, ?_, g2, ?_⟩
    · rw [insS, h1, hX, hX1, List.cons_append, g1]
    · rw [hX2]; exact (h3.append (Stb.refl _)).trans g3
theorem insS_all (A S B : List α) {a n : Nat} (ha : a = A.length) (hn : n = S.length - 1) : ∃ S', insS key a (A ++ S ++ B) n = A ++ S' ++ B ∧ Srt key S' ∧ Stb key S S' := by
  rcases Nat.eq_zero_or_pos S.length with h0 | hp
  · have : S = [] := List.eq_nil_of_length_eq_zero h0
    subst this; simp at hn; subst hn
    exact ⟨[], rfl, Srt.nil, Stb.refl _⟩
  · obtain ⟨S', h1, h2, h3⟩ := insS_at (key := key) A S B ha n (by omega)
    rw [show n + 1 = S.length by omega, List.drop_of_length_le (Nat.le_refl _), List.nil_append] at h1
    rw [show n + 1 = S.length by omega, List.take_of_length_le (Nat.le_refl _)] at h3
    exact ⟨S', h1, h2, h3⟩

/-! ## Blocks -/
inductive Blks (key : α → Nat) (bs : Nat) : List α → Prop
  | last (l : List α) : l.length ≤ bs → Srt key l → Blks key bs l
  | cons (p r : List α) : p.length = bs → Srt key p → Blks key bs r → Blks key bs (p ++ r)
inductive Full (key : α → Nat) (bs : Nat) : List α → Prop
  | nil : Full key bs []
  | snoc (p q : List α) : Full key bs p → q.length = bs → Srt key q → Full key bs (p ++ q)
theorem Full.blks {bs : Nat} {p : List α} (h : Full key bs p) : ∀ {q : List α}, Blks key bs q → Blks key bs (p ++ q) := by
  induction h with
  | nil => intro q h; simpa using h
  | snoc p q _ hq hs ih => intro r hr; rw [List.append_assoc]; exact ih (.cons q r hq hs hr)
theorem Blks.two {bs : Nat} {l : List α} (h : Blks key bs l) (hl : 2 * bs ≤ l.length) (hb : 0 < bs) : ∃ L R B, l = L ++ R ++ B ∧ L.length = bs ∧ R.length = bs ∧ Srt key L ∧ Srt key R ∧ Blks key bs B := by
  cases h with
  | last _ h1 h2 => omega
  | cons p r hp hs hr =>
    cases hr with
    | last _ h1 h2 =>
      simp at hl
      exact ⟨p, r, [], by simp, hp, by omega, hs, h2, .last _ (by simp) Srt.nil⟩
    | cons q B hq hqs hB => exact ⟨p, q, B, by simp, hp, hq, hs, hqs, hB⟩
theorem Blks.split {bs : Nat} {l : List α} (h : Blks key bs l) (hl : l.length < 2 * bs) (hb : bs < l.length) : ∃ L R, l = L ++ R ∧ L.length = bs ∧ Srt key L ∧ Srt key R := by
  cases h with
  | last _ h1 h2 => omega
  | cons p r hp hs hr =>
    simp at hl
    cases hr with
    | last _ h1 h2 => exact ⟨p, r, rfl, hp, hs, h2⟩
    | cons q B hq hqs hB => simp at hl; omega
theorem Blks.srt {bs : Nat} {l : List α} (h : Blks key bs l) (hl : l.length ≤ bs) : Srt key l := by
  cases h with
  | last _ h1 h2 => exact h2
  | cons p r hp hs hr =>
    simp at hl
    have : r = [] := List.eq_nil_of_length_eq_zero (by omega)
    subst this; simpa using hs
end
end Go.Kw
