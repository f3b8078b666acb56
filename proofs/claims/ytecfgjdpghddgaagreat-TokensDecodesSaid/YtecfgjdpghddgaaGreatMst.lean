/-
  Mst: plain facts on stable sorting by a key, by insertion, rotation and merging in place (layer 14 and wherever Go's stable sort is used). No program in sight.
-/
import Derived.WalkKit
import Derived.Lib.BitFns
set_option linter.unusedVariables false
set_option linter.unusedSimpArgs false
set_option linter.unusedSectionVars false
namespace Go.Kw
section
variable {α : Type}
def sw (l : List α) (i j : Nat) : List α :=
  match l[i]?, l[j]? with
  | some x, some y => (l.set i y).set j x
  | _, _ => l
theorem sw_of {l : List α} {i j : Nat} {x y : α} (hi : l[i]? = some x) (hj : l[j]? = some y) : sw l i j = (l.set i y).set j x := by simp [sw, hi, hj]
@[simp] theorem sw_length (l : List α) (i j : Nat) : (sw l i j).length = l.length := by unfold sw; split <;> simp
theorem set_at {P Q : List α} {x y : α} {i : Nat} (h : i = P.length) : (P ++ x :: Q).set i y = P ++ y :: Q := by subst h; simp
theorem get_at {P Q : List α} {x : α} {i : Nat} (h : i = P.length) : (P ++ x :: Q)[i]? = some x := by subst h; simp
theorem sw_up {P M Q : List α} {x y : α} {i j : Nat} (hi : i = P.length) (hj : j = P.length + 1 + M.length) : sw (P ++ x :: (M ++ y :: Q)) i j = P ++ y :: (M ++ x :: Q) := by
  have e : ∀ z, P ++ z :: (M ++ y :: Q) = (P ++ z :: M) ++ y :: Q := by simp
  rw [sw_of (get_at hi) (y := y) (by rw [e]; exact get_at (by simp; omega)), set_at hi, show P ++ y :: (M ++ y :: Q) = (P ++ y :: M) ++ y :: Q by simp, set_at (by simp; omega)]
  simp
theorem sw_down {P M Q : List α} {x y : α} {i j : Nat} (hi : i = P.length + 1 + M.length) (hj : j = P.length) : sw (P ++ x :: (M ++ y :: Q)) i j = P ++ y :: (M ++ x :: Q) := by
  have e : ∀ z, P ++ z :: (M ++ y :: Q) = (P ++ z :: M) ++ y :: Q := by simp
  rw [sw_of (x := y) (y := x) (by rw [e]; exact get_at (by simp; omega)) (get_at hj), e, set_at (by simp; omega)]
  rw [show (P ++ x :: M) ++ x :: Q = P ++ x :: (M ++ x :: Q) by simp, set_at hj]
theorem cut_at (X : List α) (n : Nat) (h : n < X.length) : ∃ x X', X.drop n = x :: X' ∧ X.drop (n + 1) = X' ∧ X.take (n + 1) = X.take n ++ [x] :=
  ⟨X[n], X.drop (n + 1), (List.getElem_cons_drop h).symm, rfl, (List.take_append_getElem h).symm⟩
def swapN (l : List α) (a b : Nat) : Nat → List α
  | 0 => l
  | n + 1 => sw (swapN l a b n) (a + n) (b + n)
@[simp] theorem swapN_length (l : List α) (a b n : Nat) : (swapN l a b n).length = l.length := by induction n <;> simp_all [swapN]
theorem swapN_at (A X M Y B : List α) (hxy : X.length = Y.length) {a b : Nat} (ha : a = A.length) (hb : b = A.length + X.length + M.length) : ∀ n, n ≤ X.length →
    swapN (A ++ X ++ M ++ Y ++ B) a b n = A ++ (Y.take n ++ X.drop n) ++ M ++ (X.take n ++ Y.drop n) ++ B
  | 0, _ => by simp [swapN]
  | n + 1, h => by
    rw [swapN, swapN_at A X M Y B hxy ha hb n (by omega)]
    obtain ⟨x, X', hX, hX1, hX2⟩ := cut_at X n (by omega)
    obtain ⟨y, Y', hY, hY1, hY2⟩ := cut_at Y n (by omega)
    rw [hX, hY, hX2, hY2, hX1, hY1]
    have lX : X'.length + (n + 1) = X.length := by have := congrArg List.length hX; simp at this; omega
    have e : A ++ (Y.take n ++ x :: X') ++ M ++ (X.take n ++ y :: Y') ++ B = (A ++ Y.take n) ++ x :: ((X' ++ M ++ X.take n) ++ y :: (Y' ++ B)) := by simp
    rw [e, sw_up (by simp; omega) (by simp; omega)]
    simp
theorem swapN_all (A X M Y B : List α) (hxy : X.length = Y.length) {a b n : Nat} (ha : a = A.length) (hb : b = A.length + X.length + M.length) (hn : n = X.length) :
    swapN (A ++ X ++ M ++ Y ++ B) a b n = A ++ Y ++ M ++ X ++ B := by
  rw [swapN_at A X M Y B hxy ha hb n (by omega), hn, List.take_of_length_le (by omega), List.drop_of_length_le (by omega), List.take_of_length_le (by omega), List.drop_of_length_le (l := Y) (by omega)]
  simp
def shU (l : List α) (a : Nat) : Nat → List α
  | 0 => l
  | n + 1 => sw (shU l a n) (a + n) (a + n + 1)
@[simp] theorem shU_length (l : List α) (a n : Nat) : (shU l a n).length = l.length := by induction n <;> simp_all [shU]
theorem shU_at (A L B : List α) (x : α) {a : Nat} (ha : a = A.length) : ∀ n, n ≤ L.length → shU (A ++ x :: (L ++ B)) a n = A ++ L.take n ++ x :: (L.drop n ++ B)
  | 0, _ => by simp [shU]
  | n + 1, h => by
    rw [shU, shU_at A L B x ha n (by omega)]
    obtain ⟨y, L', hX, hX1, hX2⟩ := cut_at L n (by omega)
    rw [hX, hX2, hX1]
    have e : A ++ L.take n ++ x :: (y :: L' ++ B) = (A ++ L.take n) ++ x :: ([] ++ y :: (L' ++ B)) := by simp
    rw [e, sw_up (by simp; omega) (by simp; omega)]
    simp
def shD (l : List α) (m : Nat) : Nat → List α
  | 0 => l
  | n + 1 => sw (shD l m n) (m - n) (m - n - 1)
@[simp] theorem shD_length (l : List α) (a n : Nat) : (shD l a n).length = l.length := by induction n <;> simp_all [shD]
theorem shD_at (A L B : List α) (x : α) {m : Nat} (hm : m = A.length + L.length) : ∀ n, n ≤ L.length → shD (A ++ L ++ x :: B) m n = A ++ L.take (L.length - n) ++ x :: (L.drop (L.length - n) ++ B)
  | 0, _ => by simp [shD]
  | n + 1, h => by
    rw [shD, shD_at A L B x hm n (by omega)]
    obtain ⟨q, hq⟩ : ∃ q, L.length - (n + 1) = q := ⟨_, rfl⟩
    rw [hq, show L.length - n = q + 1 by omega]
    obtain ⟨y, L', hX, hX1, hX2⟩ := cut_at L q (by omega)
    rw [hX, hX2, hX1]
    have e : A ++ (L.take q ++ [y]) ++ x :: (L' ++ B) = (A ++ L.take q) ++ y :: ([] ++ x :: (L' ++ B)) := by simp
    rw [e, sw_down (by simp; omega) (by simp; omega)]
    simp
def Srt (key : α → Nat) (l : List α) : Prop := l.Pairwise fun a b => key a ≤ key b
def Stb (key : α → Nat) (l m : List α) : Prop := ∀ k, l.filter (fun x => key x == k) = m.filter (fun x => key x == k)
variable {key : α → Nat}
theorem Stb.refl (l : List α) : Stb key l l := fun _ => rfl
theorem Stb.symm {l m : List α} (h : Stb key l m) : Stb key m l := fun k => (h k).symm
theorem Stb.trans {l m n : List α} (h : Stb key l m) (g : Stb key m n) : Stb key l n := fun k => (h k).trans (g k)
theorem Stb.append {l l' m m' : List α} (h : Stb key l l') (g : Stb key m m') : Stb key (l ++ m) (l' ++ m') := fun k => by simp only [List.filter_append, h k, g k]
theorem Stb.mid {A B l l' : List α} (h : Stb key l l') : Stb key (A ++ l ++ B) (A ++ l' ++ B) := ((Stb.refl A).append h).append (Stb.refl B)
theorem Stb.comm {l m : List α} (h : ∀ x ∈ l, ∀ y ∈ m, key x ≠ key y) : Stb key (l ++ m) (m ++ l) := fun k => by
  simp only [List.filter_append]
  rcases hl : l.filter (fun x => key x == k) with _ | ⟨x, r⟩
  · simp
  · have hx : x ∈ l.filter (fun x => key x == k) := by rw [hl]; simp
    rw [List.mem_filter] at hx
    have : m.filter (fun x => key x == k) = [] := by
      rw [List.filter_eq_nil_iff]
      intro y hy hk
      exact h x hx.1 y hy (by have := hx.2; simp at this hk; omega)
    simp [this]
theorem Stb.mem {l m : List α} (h : Stb key l m) {x : α} : x ∈ l ↔ x ∈ m := by
  have e : ∀ q : List α, x ∈ q ↔ x ∈ q.filter (fun y => key y == key x) := fun q => by simp [List.mem_filter]
  rw [e l, e m, h (key x)]
theorem Stb.perm : ∀ {l m : List α}, Stb key l m → l.Perm m
  | [], m, h => by
    cases m with
    | nil => exact .refl _
    | cons y r => exact absurd (h.mem.2 (List.mem_cons_self)) (by simp)
  | x :: l, m, h => by
    obtain ⟨p, q, rfl, hp⟩ : ∃ p q, m = p ++ x :: q ∧ ∀ y ∈ p, key y ≠ key x := by
      have hx := h (key x)
      rw [List.filter_cons_of_pos (by simp)] at hx
      have : ∀ m : List α, ∀ r, x :: r = m.filter (fun y => key y == key x) → ∃ p q, m = p ++ x :: q ∧ ∀ y ∈ p, key y ≠ key x := by
        intro m
        induction m with
        | nil => intro r h; simp at h
        | cons y m ih =>
          intro r hr
          by_cases hy : key y = key x
          · rw [List.filter_cons_of_pos (by simp [hy])] at hr
            exact ⟨[], m, by simp [List.cons.inj hr |>.1], by simp⟩
          · rw [List.filter_cons_of_neg (by simp [hy])] at hr
            obtain ⟨p, q, rfl, hp⟩ := ih r hr
            exact ⟨y :: p, q, rfl, fun z hz => (List.mem_cons.1 hz).elim (fun e => e ▸ hy) (hp z)⟩
      exact this m _ hx
    have h2 : Stb key l (p ++ q) := fun k => by
      have := h k
      simp only [List.filter_append, List.filter_cons] at this ⊢
      by_cases hk : key x = k
      · have hn : p.filter (fun y => key y == k) = [] := by
          rw [List.filter_eq_nil_iff]; intro y hy; simpa [← hk] using hp y hy
        simp [hk, hn] at this ⊢
        exact this
      · simp [hk] at this ⊢
        exact this
    exact (List.Perm.cons x h2.perm).trans List.perm_middle.symm
theorem Stb.length {l m : List α} (h : Stb key l m) : l.length = m.length := h.perm.length_eq
theorem Srt.append {l m : List α} : Srt key (l ++ m) ↔ Srt key l ∧ Srt key m ∧ ∀ x ∈ l, ∀ y ∈ m, key x ≤ key y := by unfold Srt; rw [List.pairwise_append]
theorem Srt.nil : Srt key ([] : List α) := List.Pairwise.nil
theorem Srt.one (x : α) : Srt key [x] := by simp [Srt]
def insK (key : α → Nat) (x : α) : List α → List α
  | [] => [x]
  | y :: r => if key x ≤ key y then x :: y :: r else y :: insK key x r
def ssort (key : α → Nat) : List α → List α
  | [] => []
  | x :: r => insK key x (ssort key r)
theorem insK_stb (x : α) : ∀ l : List α, Stb key (x :: l) (insK key x l)
  | [] => Stb.refl _
  | y :: r => by
    rw [insK]; split
    · exact Stb.refl _
    · have h1 : Stb key (x :: y :: r) (y :: x :: r) := Stb.append (l := [x, y]) (l' := [y, x]) (Stb.comm (l := [x]) (m := [y]) (by simp; omega)) (Stb.refl r)
      exact h1.trans (Stb.append (Stb.refl [y]) (insK_stb x r))
theorem insK_srt (x : α) : ∀ l : List α, Srt key l → Srt key (insK key x l)
  | [], _ => Srt.one x
  | y :: r, h => by
    have h1 := List.pairwise_cons.1 h
    rw [insK]; split
    · rename_i hxy
      exact List.pairwise_cons.2 ⟨fun z hz => (List.mem_cons.1 hz).elim (fun e => e ▸ hxy) (fun hz => Nat.le_trans hxy (h1.1 z hz)), h⟩
    · refine List.pairwise_cons.2 ⟨fun z hz => ?_, insK_srt x r h1.2⟩
      rcases List.mem_cons.1 ((insK_stb x r).mem.2 hz) with rfl | hz
      · omega
      · exact h1.1 z hz
theorem ssort_stb : ∀ l : List α, Stb key l (ssort key l)
  | [] => Stb.refl _
  | x :: r => (Stb.append (Stb.refl [x]) (ssort_stb r)).trans (insK_stb x _)
theorem ssort_srt : ∀ l : List α, Srt key (ssort key l)
  | [] => Srt.nil
  | x :: r => insK_srt x _ (ssort_srt r)
theorem Srt.unique : ∀ {l m : List α}, Srt key l → Srt key m → Stb key l m → l = m
  | [], m, _, _, h => by
    have := h.length; simp at this; exact (List.eq_nil_of_length_eq_zero this.symm).symm
  | x :: l, [], _, _, h => by have := h.length; simp at this
  | x :: l, y :: m, hl, hm, h => by
    have h1 := List.pairwise_cons.1 hl
    have h2 := List.pairwise_cons.1 hm
    have hk : key x = key y := by
      have a1 : key x ≤ key y := by
        rcases List.mem_cons.1 (h.mem.2 (List.mem_cons_self : y ∈ y :: m)) with e | e
        · rw [e]; exact Nat.le_refl _
        · exact h1.1 y e
      have a2 : key y ≤ key x := by
        rcases List.mem_cons.1 (h.mem.1 (List.mem_cons_self : x ∈ x :: l)) with e | e
        · rw [e]; exact Nat.le_refl _
        · exact h2.1 x e
      omega
    have hxy : x = y := by
      have := h (key x)
      rw [List.filter_cons_of_pos (by simp), List.filter_cons_of_pos (by simp [hk])] at this
      exact (List.cons.inj this).1
    subst hxy
    congr 1
    refine Srt.unique h1.2 h2.2 fun k => ?_
    have := h k
    simp only [List.filter_cons] at this
    split at this
    · exact (List.cons.inj this).2
    · exact this
theorem ssort_eq {l m : List α} (h : Srt key m) (g : Stb key l m) : m = ssort key l := h.unique (ssort_srt l) (g.symm.trans (ssort_stb l))
@[simp] theorem ssort_length (l : List α) : (ssort key l).length = l.length := (ssort_stb l).length.symm
def kl (key : α → Nat) (l : List α) (i j : Nat) : Bool :=
  match l[i]?, l[j]? with
  | some x, some y => decide (key x < key y)
  | _, _ => false
def insW (key : α → Nat) (a : Nat) : Nat → List α → List α
  | 0, l => l
  | j + 1, l => if a < j + 1 ∧ kl key l (j + 1) j = true then insW key a j (sw l (j + 1) j) else l
def insS (key : α → Nat) (a : Nat) (l : List α) : Nat → List α
  | 0 => l
  | n + 1 => insW key a (a + (n + 1)) (insS key a l n)
theorem insW_stop {a j : Nat} {l : List α} {x y : α} (h : ¬ (a < j ∧ key x < key y)) (hx : l[j]? = some x) (hy : l[j - 1]? = some y) : insW key a j l = l := by
  cases j with
  | zero => rfl
  | succ j =>
    rw [insW]
    rw [Nat.add_sub_cancel] at hy
    have : kl key l (j + 1) j = decide (key x < key y) := by unfold kl; rw [hx, hy]
    rw [this, if_neg]
    simpa using h
theorem insW_go {a j : Nat} {l : List α} {x y : α} (h : a < j ∧ key x < key y) (hx : l[j]? = some x) (hy : l[j - 1]? = some y) : insW key a j l = insW key a (j - 1) ((l.set j y).set (j - 1) x) := by
  cases j with
  | zero => omega
  | succ j =>
    rw [insW]
    rw [Nat.add_sub_cancel] at hy ⊢
    have : kl key l (j + 1) j = decide (key x < key y) := by unfold kl; rw [hx, hy]
    rw [this, if_pos (by simpa using h), sw_of hx hy]
@[simp] theorem insW_length (a : Nat) : ∀ (j : Nat) (l : List α), (insW key a j l).length = l.length
  | 0, l => rfl
  | j + 1, l => by rw [insW]; split <;> simp [insW_length a j]
@[simp] theorem insS_length (a : Nat) (l : List α) : ∀ n, (insS key a l n).length = l.length
  | 0 => rfl
  | n + 1 => by rw [insS, insW_length, insS_length a l n]
theorem insW_at (A : List α) (x : α) {a : Nat} (ha : a = A.length) : ∀ (n : Nat) (S B : List α), S.length = n → ∀ j, j = a + n → Srt key S →
    ∃ S', insW key a j (A ++ S ++ x :: B) = A ++ S' ++ B ∧ Srt key S' ∧ Stb key (S ++ [x]) S'
  | 0, S, B, hn, j, hj, _ => by
    have : S = [] := List.eq_nil_of_length_eq_zero hn
    subst this
    refine ⟨[x], ?_, Srt.one x, Stb.refl _⟩
    have h0 : insW key a j (A ++ [] ++ x :: B) = A ++ [] ++ x :: B := by
      cases j with
      | zero => rfl
      | succ j => rw [insW, if_neg (by omega)]
    rw [h0]; simp
  | n + 1, S, B, hn, j, hj, hS => by
    obtain ⟨S0, y, rfl⟩ : ∃ S0 y, S = S0 ++ [y] := ⟨S.dropLast, S.getLast (by intro h; rw [h] at hn; simp at hn), (List.dropLast_concat_getLast _).symm⟩
    simp at hn
    have hS2 := Srt.append.1 hS
    have ex : (A ++ (S0 ++ [y]) ++ x :: B)[j]? = some x := get_at (P := A ++ (S0 ++ [y])) (by simp; omega)
    have ey : (A ++ (S0 ++ [y]) ++ x :: B)[j - 1]? = some y := by
      rw [show A ++ (S0 ++ [y]) ++ x :: B = (A ++ S0) ++ y :: (x :: B) by simp]; exact get_at (by simp; omega)
    by_cases hc : key x < key y
    · have hsw : ((A ++ (S0 ++ [y]) ++ x :: B).set j y).set (j - 1) x = A ++ S0 ++ x :: (y :: B) := by
        rw [set_at (P := A ++ (S0 ++ [y])) (by simp; omega), show A ++ (S0 ++ [y]) ++ y :: B = (A ++ S0) ++ y :: (y :: B) by simp, set_at (by simp; omega)]
      obtain ⟨S', h1, h2, h3⟩ := insW_at A x ha n S0 (y :: B) hn (j - 1) (by omega) hS2.1
      refine ⟨S' ++ [y], ?_, ?_, ?_⟩
      · rw [insW_go ⟨by omega, hc⟩ ex ey, hsw, h1]; simp
      · refine Srt.append.2 ⟨h2, Srt.one y, fun z hz q hq => ?_⟩
        simp at hq; subst hq
        rcases List.mem_append.1 (h3.mem.2 hz) with hz | hz
        · exact hS2.2.2 z hz q (by simp)
        · simp at hz; subst hz; omega
      · have e1 : Stb key (S0 ++ [y] ++ [x]) (S0 ++ [x] ++ [y]) := by
          rw [List.append_assoc, List.append_assoc]
          exact (Stb.refl S0).append (Stb.comm (by simp; omega))
        exact e1.trans (h3.append (Stb.refl [y]))
    · refine ⟨S0 ++ [y] ++ [x], ?_, ?_, Stb.refl _⟩
      · rw [insW_stop (by omega) ex ey]; simp
      · refine Srt.append.2 ⟨hS, Srt.one x, fun z hz q hq => ?_⟩
        simp at hq; subst hq
        rcases List.mem_append.1 hz with hz | hz
        · exact Nat.le_trans (hS2.2.2 z hz y (by simp)) (by omega)
        · simp at hz; subst hz; omega
theorem insS_at (A S B : List α) {a : Nat} (ha : a = A.length) : ∀ n, n + 1 ≤ S.length → ∃ S', insS key a (A ++ S ++ B) n = A ++ S' ++ (S.drop (n + 1) ++ B) ∧ Srt key S' ∧ Stb key (S.take (n + 1)) S'
  | 0, h => by
    cases S with
    | nil => simp at h
    | cons x S => exact ⟨[x], by simp [insS], Srt.one x, Stb.refl _⟩
  | n + 1, h => by
    obtain ⟨S', h1, h2, h3⟩ := insS_at A S B ha n (by omega)
    obtain ⟨y, L', hX, hX1, hX2⟩ := cut_at S (n + 1) (by omega)
    have hl : S'.length = n + 1 := by rw [← h3.length]; simp; omega
    obtain ⟨S2, g1, g2, g3⟩ := insW_at (key := key) A y ha (n + 1) S' (L' ++ B) hl (a + (n + 1)) rfl h2
    refine ⟨S2, ?_, g2, ?_⟩
    · rw [insS, h1, hX, hX1, List.cons_append, g1]
    · rw [hX2]; exact (h3.append (Stb.refl _)).trans g3
theorem insS_all (A S B : List α) {a n : Nat} (ha : a = A.length) (hn : n = S.length - 1) : ∃ S', insS key a (A ++ S ++ B) n = A ++ S' ++ B ∧ Srt key S' ∧ Stb key S S' := by
  rcases Nat.eq_zero_or_pos S.length with h0 | hp
  · have : S = [] := List.eq_nil_of_length_eq_zero h0
    subst this; simp at hn; subst hn
    exact ⟨[], rfl, Srt.nil, Stb.refl _⟩
  · obtain ⟨S', h1, h2, h3⟩ := insS_at (key := key) A S B ha n (by omega)
    rw [show n + 1 = S.length by omega, List.drop_of_length_le (Nat.le_refl _), List.nil_append] at h1
    rw [show n + 1 = S.length by omega, List.take_of_length_le (Nat.le_refl _)] at h3
    exact ⟨S', h1, h2, h3⟩
inductive Blks (key : α → Nat) (bs : Nat) : List α → Prop
  | last (l : List α) : l.length ≤ bs → Srt key l → Blks key bs l
  | cons (p r : List α) : p.length = bs → Srt key p → Blks key bs r → Blks key bs (p ++ r)
inductive Full (key : α → Nat) (bs : Nat) : List α → Prop
  | nil : Full key bs []
  | snoc (p q : List α) : Full key bs p → q.length = bs → Srt key q → Full key bs (p ++ q)
theorem Full.blks {bs : Nat} {p : List α} (h : Full key bs p) : ∀ {q : List α}, Blks key bs q → Blks key bs (p ++ q) := by
  induction h with
  | nil => intro q h; simpa using h
  | snoc p q _ hq hs ih => intro r hr; rw [List.append_assoc]; exact ih (.cons q r hq hs hr)
theorem Blks.two {bs : Nat} {l : List α} (h : Blks key bs l) (hl : 2 * bs ≤ l.length) (hb : 0 < bs) : ∃ L R B, l = L ++ R ++ B ∧ L.length = bs ∧ R.length = bs ∧ Srt key L ∧ Srt key R ∧ Blks key bs B := by
  cases h with
  | last _ h1 h2 => omega
  | cons p r hp hs hr =>
    cases hr with
    | last _ h1 h2 =>
      simp at hl
      exact ⟨p, r, [], by simp, hp, by omega, hs, h2, .last _ (by simp) Srt.nil⟩
    | cons q B hq hqs hB => exact ⟨p, q, B, by simp, hp, hq, hs, hqs, hB⟩
theorem Blks.split {bs : Nat} {l : List α} (h : Blks key bs l) (hl : l.length < 2 * bs) (hb : bs < l.length) : ∃ L R, l = L ++ R ∧ L.length = bs ∧ Srt key L ∧ Srt key R := by
  cases h with
  | last _ h1 h2 => omega
  | cons p r hp hs hr =>
    simp at hl
    cases hr with
    | last _ h1 h2 => exact ⟨p, r, rfl, hp, hs, h2⟩
    | cons q B hq hqs hB => simp at hl; omega
theorem Blks.srt {bs : Nat} {l : List α} (h : Blks key bs l) (hl : l.length ≤ bs) : Srt key l := by
  cases h with
  | last _ h1 h2 => exact h2
  | cons p r hp hs hr =>
    simp at hl
    have : r = [] := List.eq_nil_of_length_eq_zero (by omega)
    subst this; simpa using hs
end
end Go.Kw
namespace Go.Kw
section
variable {α : Type} {key : α → Nat}
theorem Srt.take {l : List α} (h : Srt key l) (q : Nat) : Srt key (l.take q) := List.Pairwise.sublist (List.take_sublist q l) h
theorem Srt.drop {l : List α} (h : Srt key l) (q : Nat) : Srt key (l.drop q) := List.Pairwise.sublist (List.drop_sublist q l) h
theorem Srt.left {l m : List α} (h : Srt key (l ++ m)) : Srt key l := (Srt.append.1 h).1
theorem Srt.right {l m : List α} (h : Srt key (l ++ m)) : Srt key m := (Srt.append.1 h).2.1
theorem Srt.or {l m : List α} (h : l.length = 0 ∨ m.length = 0) (hl : Srt key l) (hm : Srt key m) : Srt key (l ++ m) := by
  rcases h with h | h
  · rw [List.eq_nil_of_length_eq_zero h]; simpa using hm
  · rw [List.eq_nil_of_length_eq_zero h]; simpa using hl
theorem take_all {R : List α} {q : Nat} (hR : Srt key R) (p : Nat → Prop) (hp : ∀ u v, u ≤ v → p v → p u) (hq : q ≤ R.length) (h : 0 < q → ∀ y, R[q - 1]? = some y → p (key y)) : ∀ y ∈ R.take q, p (key y) := by
  intro y hy
  cases q with
  | zero => simp at hy
  | succ q =>
    obtain ⟨z, R', h1, h2, h3⟩ := cut_at R q (by omega)
    have hz : R[q]? = some z := by have := congrArg List.head? h1; simpa using this
    have hs := hR.take (q + 1)
    rw [h3] at hy hs
    have hpz := h (by omega) z (by simpa using hz)
    rcases List.mem_append.1 hy with hy | hy
    · exact hp _ _ ((Srt.append.1 hs).2.2 y hy z (by simp)) hpz
    · simp at hy; subst hy; exact hpz
theorem drop_all {R : List α} {q : Nat} (hR : Srt key R) (p : Nat → Prop) (hp : ∀ u v, u ≤ v → p u → p v) (h : q < R.length → ∀ y, R[q]? = some y → p (key y)) : ∀ y ∈ R.drop q, p (key y) := by
  intro y hy
  rcases Nat.lt_or_ge q R.length with hq | hq
  · obtain ⟨z, R', h1, h2, h3⟩ := cut_at R q hq
    have hz : R[q]? = some z := by have := congrArg List.head? h1; simpa using this
    have hs := hR.drop q
    rw [h1] at hy hs
    rcases List.mem_cons.1 hy with rfl | hy
    · exact h hq _ hz
    · exact hp _ _ ((List.pairwise_cons.1 hs).1 y hy) (h hq z hz)
  · rw [List.drop_of_length_le hq] at hy; simp at hy
theorem get_in {A R B : List α} {i k : Nat} (h : i = A.length + k) (hk : k < R.length) : (A ++ R ++ B)[i]? = R[k]? := by
  subst h
  rw [List.append_assoc, List.getElem?_append_right (by omega), List.getElem?_append_left (by omega)]
  congr 1; omega
theorem sym_left {l A R B : List α} {x : α} {a m i b : Nat} (hl : l = A ++ [x] ++ R ++ B) (ha : a = A.length) (hm : m = a + 1) (hb : b = m + R.length) (hmi : m ≤ i) (hib : i ≤ b)
    (lo : m < i → ∀ y, l[i - 1]? = some y → key y < key x) (hi : i < b → ∀ y, l[i]? = some y → key x ≤ key y) (hR : Srt key R) : ∃ M, shU l a (i - 1 - a) = A ++ M ++ B ∧ Srt key M ∧ Stb key ([x] ++ R) M := by
  obtain ⟨q, hq⟩ : ∃ q, q = i - m := ⟨_, rfl⟩
  have hgt : ∀ y ∈ R.take q, key y < key x := take_all hR (fun u => u < key x) (fun u v h1 h2 => by omega) (by omega) fun h y hy => lo (by omega) y (by
    rw [hl, get_in (A := A ++ [x]) (k := q - 1) (by simp; omega) (by omega)]; exact hy)
  have hge : ∀ y ∈ R.drop q, key x ≤ key y := drop_all hR (fun u => key x ≤ u) (fun u v h1 h2 => by omega) fun h y hy => hi (by omega) y (by
    rw [hl, get_in (A := A ++ [x]) (k := q) (by simp; omega) (by omega)]; exact hy)
  refine ⟨R.take q ++ [x] ++ R.drop q, ?_, ?_, ?_⟩
  · rw [hl, show A ++ [x] ++ R ++ B = A ++ x :: (R ++ B) by simp, shU_at A R B x ha _ (by omega), show i - 1 - a = q by omega]; simp
  · refine Srt.append.2 ⟨Srt.append.2 ⟨hR.take q, Srt.one x, fun y hy z hz => ?_⟩, hR.drop q, fun y hy z hz => ?_⟩
    · simp at hz; subst hz; exact Nat.le_of_lt (hgt y hy)
    · rcases List.mem_append.1 hy with hy | hy
      · exact Nat.le_trans (Nat.le_of_lt (hgt y hy)) (hge z hz)
      · simp at hy; subst hy; exact hge z hz
  · have e : [x] ++ R = ([x] ++ R.take q) ++ R.drop q := by rw [List.append_assoc, List.take_append_drop]
    rw [e]
    exact (Stb.comm fun y hy z hz => by simp at hy; subst hy; have := hgt z hz; omega).append (Stb.refl _)
theorem sym_right {l A L B : List α} {x : α} {a m i : Nat} (hl : l = A ++ L ++ [x] ++ B) (ha : a = A.length) (hm : m = a + L.length) (hai : a ≤ i) (him : i ≤ m)
    (lo : a < i → ∀ y, l[i - 1]? = some y → key y ≤ key x) (hi : i < m → ∀ y, l[i]? = some y → key x < key y) (hL : Srt key L) : ∃ M, shD l m (m - i) = A ++ M ++ B ∧ Srt key M ∧ Stb key (L ++ [x]) M := by
  obtain ⟨q, hq⟩ : ∃ q, q = i - a := ⟨_, rfl⟩
  have hl2 : l = A ++ L ++ ([x] ++ B) := by rw [hl]; simp
  have hle : ∀ y ∈ L.take q, key y ≤ key x := take_all hL (fun u => u ≤ key x) (fun u v h1 h2 => by omega) (by omega) fun h y hy => lo (by omega) y (by
    rw [hl2, get_in (k := q - 1) (by omega) (by omega)]; exact hy)
  have hgt : ∀ y ∈ L.drop q, key x < key y := drop_all hL (fun u => key x < u) (fun u v h1 h2 => by omega) fun h y hy => hi (by omega) y (by
    rw [hl2, get_in (k := q) (by omega) (by omega)]; exact hy)
  refine ⟨L.take q ++ [x] ++ L.drop q, ?_, ?_, ?_⟩
  · rw [hl, show A ++ L ++ [x] ++ B = A ++ L ++ x :: B by simp, shD_at A L B x (by omega) _ (by omega), show L.length - (m - i) = q by omega]; simp
  · refine Srt.append.2 ⟨Srt.append.2 ⟨hL.take q, Srt.one x, fun y hy z hz => ?_⟩, hL.drop q, fun y hy z hz => ?_⟩
    · simp at hz; subst hz; exact hle y hy
    · rcases List.mem_append.1 hy with hy | hy
      · exact Nat.le_trans (hle y hy) (Nat.le_of_lt (hgt z hz))
      · simp at hy; subst hy; exact Nat.le_of_lt (hgt z hz)
  · have e : L ++ [x] = L.take q ++ (L.drop q ++ [x]) := by rw [← List.append_assoc, List.take_append_drop]
    rw [e, List.append_assoc]
    exact (Stb.refl _).append (Stb.comm fun y hy z hz => by simp at hz; subst hz; have := hgt y hy; omega)
theorem sym_gen {l A L R B : List α} {a m b mid st st0 r0 : Nat} (hl : l = A ++ L ++ R ++ B) (ha : a = A.length) (hm : m = a + L.length) (hb : b = m + R.length) (hL : Srt key L) (hR : Srt key R)
    (h1 : a ≤ st) (h2 : st ≤ m) (h3 : st ≤ mid) (h4 : mid + m - st ≤ b) (hst0 : st0 = a ∨ mid + m - st0 = b) (hr0 : r0 = mid ∨ r0 = m)
    (lo : st0 < st → ∀ y z, l[mid + m - 1 - (st - 1)]? = some y → l[st - 1]? = some z → key z ≤ key y) (hi : st < r0 → ∀ y z, l[mid + m - 1 - st]? = some y → l[st]? = some z → key y < key z) (hss : st0 ≤ st) (hsr : st ≤ r0) :
    ∃ L1 L2 R1 R2, L = L1 ++ L2 ∧ R = R1 ++ R2 ∧ L1.length = st - a ∧ L2.length = m - st ∧ R1.length = mid - st ∧ R2.length = b - (mid + m - st) ∧ (∀ z ∈ L2, ∀ y ∈ R1, key z ≠ key y) ∧ (∀ z ∈ L1 ++ R1, ∀ y ∈ L2 ++ R2, key z ≤ key y) := by
  obtain ⟨q, hq⟩ : ∃ q, q = st - a := ⟨_, rfl⟩
  obtain ⟨t, ht⟩ : ∃ t, t = mid - st := ⟨_, rfl⟩
  have hl2 : l = A ++ L ++ (R ++ B) := by rw [hl]; simp
  have hlo : ∀ z ∈ L.take q, ∀ y ∈ R.drop t, key z ≤ key y := by
    intro z hz y hy
    have hq0 : 0 < q := by cases q <;> simp at hz ⊢
    have ht0 : t < R.length := by
      rcases Nat.lt_or_ge t R.length with h | h
      · exact h
      · rw [List.drop_of_length_le h] at hy; simp at hy
    obtain ⟨u, hu⟩ : ∃ u, L[q - 1]? = some u := ⟨_, List.getElem?_eq_getElem (by omega)⟩
    obtain ⟨v, hv⟩ : ∃ v, R[t]? = some v := ⟨_, List.getElem?_eq_getElem ht0⟩
    have huv : key u ≤ key v := lo (by omega) v u (by rw [hl, get_in (A := A ++ L) (k := t) (by simp; omega) ht0]; exact hv) (by rw [hl2, get_in (k := q - 1) (by omega) (by omega)]; exact hu)
    have e1 := take_all hL (fun x => x ≤ key v) (fun _ _ h1 h2 => Nat.le_trans h1 h2) (by omega) (fun _ y hy => by rw [hu] at hy; cases hy; exact huv) z hz
    exact drop_all hR (fun x => key z ≤ x) (fun _ _ h1 h2 => Nat.le_trans h2 h1) (fun _ y hy => by rw [hv] at hy; cases hy; exact e1) y hy
  have hhi : ∀ y ∈ R.take t, ∀ z ∈ L.drop q, key y < key z := by
    intro y hy z hz
    have ht0 : 0 < t := by cases t <;> simp at hy ⊢
    have hq0 : q < L.length := by
      rcases Nat.lt_or_ge q L.length with h | h
      · exact h
      · rw [List.drop_of_length_le h] at hz; simp at hz
    obtain ⟨u, hu⟩ : ∃ u, R[t - 1]? = some u := ⟨_, List.getElem?_eq_getElem (by omega)⟩
    obtain ⟨v, hv⟩ : ∃ v, L[q]? = some v := ⟨_, List.getElem?_eq_getElem hq0⟩
    have huv : key u < key v := hi (by omega) u v (by rw [hl, get_in (A := A ++ L) (k := t - 1) (by simp; omega) (by omega)]; exact hu) (by rw [hl2, get_in (k := q) (by omega) (by omega)]; exact hv)
    have e1 := take_all hR (fun x => x < key v) (fun _ _ h1 h2 => Nat.lt_of_le_of_lt h1 h2) (by omega) (fun _ y hy => by rw [hu] at hy; cases hy; exact huv) y hy
    exact drop_all hL (fun x => key y < x) (fun _ _ h1 h2 => Nat.lt_of_lt_of_le h2 h1) (fun _ y hy => by rw [hv] at hy; cases hy; exact e1) z hz
  refine ⟨L.take q, L.drop q, R.take t, R.drop t, (List.take_append_drop ..).symm, (List.take_append_drop ..).symm, by simp; omega, by simp; omega, by simp; omega, by simp; omega, fun z hz y hy => by have := hhi y hy z hz; omega, fun z hz y hy => ?_⟩
  have hL2 : Srt key (L.take q ++ L.drop q) := by rw [List.take_append_drop]; exact hL
  have hR2 : Srt key (R.take t ++ R.drop t) := by rw [List.take_append_drop]; exact hR
  rcases List.mem_append.1 hz with hz | hz <;> rcases List.mem_append.1 hy with hy | hy
  · exact (Srt.append.1 hL2).2.2 z hz y hy
  · exact hlo z hz y hy
  · exact Nat.le_of_lt (hhi z hz y hy)
  · exact (Srt.append.1 hR2).2.2 z hz y hy
theorem sym_fin {L L1 L2 R R1 R2 M1 M2 : List α} (hL : L = L1 ++ L2) (hR : R = R1 ++ R2) (h1 : ∀ z ∈ L2, ∀ y ∈ R1, key z ≠ key y) (h2 : ∀ z ∈ L1 ++ R1, ∀ y ∈ L2 ++ R2, key z ≤ key y)
    (m1 : Srt key M1) (m2 : Srt key M2) (s1 : Stb key (L1 ++ R1) M1) (s2 : Stb key (L2 ++ R2) M2) : Srt key (M1 ++ M2) ∧ Stb key (L ++ R) (M1 ++ M2) := by
  refine ⟨Srt.append.2 ⟨m1, m2, fun z hz y hy => h2 z (s1.mem.2 hz) y (s2.mem.2 hy)⟩, ?_⟩
  have e : L ++ R = L1 ++ (L2 ++ R1) ++ R2 := by rw [hL, hR]; simp
  have e2 : Stb key (L1 ++ (L2 ++ R1) ++ R2) (L1 ++ (R1 ++ L2) ++ R2) := Stb.mid (Stb.comm h1)
  rw [e]
  refine e2.trans ?_
  rw [show L1 ++ (R1 ++ L2) ++ R2 = (L1 ++ R1) ++ (L2 ++ R2) by simp]
  exact s1.append s2
theorem blk_step {bs : Nat} {l Pre Suf : List α} (hF : Full key bs Pre) (hT : Stb key l (Pre ++ Suf)) (h : bs ≤ Suf.length) :
    ∃ S', insS key Pre.length (Pre ++ Suf) (Pre.length + bs - Pre.length - 1) = Pre ++ S' ++ Suf.drop bs ∧ Full key bs (Pre ++ S') ∧ Stb key l (Pre ++ S' ++ Suf.drop bs) ∧ S'.length = bs := by
  have hl : (Suf.take bs).length = bs := by simp; omega
  obtain ⟨S', h1, h2, h3⟩ := insS_all (key := key) Pre (Suf.take bs) (Suf.drop bs) (a := Pre.length) (n := Pre.length + bs - Pre.length - 1) rfl (by omega)
  rw [List.append_assoc, List.take_append_drop] at h1
  refine ⟨S', h1, .snoc _ _ hF (by rw [← h3.length]; exact hl) h2, hT.trans ?_, by rw [← h3.length]; exact hl⟩
  have e : Pre ++ Suf = Pre ++ Suf.take bs ++ Suf.drop bs := by rw [List.append_assoc, List.take_append_drop]
  rw [e]; exact Stb.mid h3
theorem blk_end {bs n : Nat} {l Pre Suf : List α} (hF : Full key bs Pre) (hT : Stb key l (Pre ++ Suf)) (h : Suf.length < bs) (hn : n = l.length) :
    Blks key bs (insS key Pre.length (Pre ++ Suf) (n - Pre.length - 1)) ∧ Stb key l (insS key Pre.length (Pre ++ Suf) (n - Pre.length - 1)) := by
  have hl := hT.length
  rw [List.length_append] at hl
  obtain ⟨S', h1, h2, h3⟩ := insS_all (key := key) Pre Suf [] (a := Pre.length) (n := n - Pre.length - 1) rfl (by omega)
  simp only [List.append_nil] at h1
  rw [h1]
  exact ⟨hF.blks (.last _ (by rw [← h3.length]; omega) h2), hT.trans ((Stb.refl _).append h3)⟩
theorem mrg_step {bs : Nat} {l Pre Suf L R B M : List α} (hF : Full key (2 * bs) Pre) (hT : Stb key l (Pre ++ Suf)) (hS : Suf = L ++ R ++ B) (hL : L.length = bs) (hR : R.length = bs) (hM : Srt key M) (hS' : Stb key (L ++ R) M) :
    Full key (2 * bs) (Pre ++ M) ∧ Stb key l (Pre ++ M ++ B) ∧ M.length = 2 * bs := by
  have hl := hS'.length
  rw [List.length_append] at hl
  refine ⟨.snoc _ _ hF (by omega) hM, hT.trans ?_, by omega⟩
  have e : Pre ++ Suf = Pre ++ (L ++ R) ++ B := by rw [hS]; simp
  rw [e]; exact Stb.mid hS'
theorem mrg_fin {bs : Nat} {l Pre Suf L R M : List α} (hF : Full key (2 * bs) Pre) (hT : Stb key l (Pre ++ Suf)) (hS : Suf = L ++ R) (hl2 : Suf.length < 2 * bs) (hM : Srt key M) (hS' : Stb key (L ++ R) M) :
    Blks key (bs * 2) (Pre ++ M ++ []) ∧ Stb key l (Pre ++ M ++ []) := by
  have hl := hS'.length
  rw [← hS] at hl
  rw [List.append_nil, Nat.mul_comm bs 2]
  refine ⟨hF.blks (.last _ (by omega) hM), hT.trans ?_⟩
  rw [hS]; exact (Stb.refl _).append hS'
theorem mrg_none {bs : Nat} {Pre Suf : List α} (hF : Full key (2 * bs) Pre) (hB : Blks key bs Suf) (h : Suf.length ≤ bs) : Blks key (bs * 2) (Pre ++ Suf) := by
  rw [Nat.mul_comm]; exact hF.blks (.last _ (by omega) (hB.srt h))
end
end Go.Kw
namespace Go.Kw
theorem all_take {α : Type} {P : α → Prop} {l : List α} {k : Nat} {x : α} (h : ∀ z ∈ l.take k, P z) (hx : l[k]? = some x) (hp : P x) : ∀ z ∈ l.take (k + 1), P z := fun z hz => by
  have hk := (List.getElem?_eq_some_iff.1 hx)
  rw [← List.take_append_getElem hk.1, List.mem_append] at hz
  rcases hz with hz | hz
  · exact h z hz
  · simp at hz; rw [hz, hk.2]; exact hp
def kr (x : Nat) : Nat := if 0 < x then 2 ^ (15 - x) else 0
def ksum : List Nat → Nat
  | [] => 0
  | x :: r => kr x + ksum r
theorem ksum_append : ∀ (l m : List Nat), ksum (l ++ m) = ksum l + ksum m
  | [], m => by simp [ksum]
  | x :: l, m => by simp [ksum, ksum_append l m]; omega
def validB (l : List Nat) : Bool := l.all (fun x => decide (x ≤ 15)) && decide (ksum l ≤ 2 ^ 15)
theorem validB_bad {l : List Nat} {x : Nat} (h : x ∈ l) (hx : 15 < x) : validB l = false := by
  have : l.all (fun x => decide (x ≤ 15)) = false := by
    rw [List.all_eq_false]; exact ⟨x, h, by simp; omega⟩
  simp [validB, this]
theorem validB_of {l : List Nat} (h : ∀ x ∈ l, x ≤ 15) : validB l = decide (ksum l ≤ 2 ^ 15) := by
  have : l.all (fun x => decide (x ≤ 15)) = true := by
    rw [List.all_eq_true]; intro x hx; simpa using h x hx
  simp [validB, this]
structure It where
  w : Nat
  sym : Int
  lf : Nat
  rt : Nat
def leafAt : Nat → List Nat → List It
  | _, [] => []
  | i, n :: r => if 0 < n then ⟨n, i, 0, 0⟩ :: leafAt (i + 1) r else leafAt (i + 1) r
theorem leafAt_snoc : ∀ (l : List Nat) (i x : Nat), leafAt i (l ++ [x]) = leafAt i l ++ (if 0 < x then [⟨x, ((i + l.length : Nat) : Int), 0, 0⟩] else [])
  | [], i, x => by simp [leafAt]
  | n :: r, i, x => by
    have := leafAt_snoc r (i + 1) x
    rw [show i + 1 + r.length = i + (n :: r).length by simp; omega] at this
    rw [List.cons_append, leafAt, leafAt, this]
    split <;> simp
theorem leafAt_length : ∀ (l : List Nat) (i : Nat), (leafAt i l).length ≤ l.length
  | [], i => by simp [leafAt]
  | n :: r, i => by
    have := leafAt_length r (i + 1)
    rw [leafAt]; split <;> simp <;> omega
theorem leafAt_mem : ∀ (l : List Nat) (i : Nat), ∀ x ∈ leafAt i l, x.w ∈ l ∧ ∃ j, x.sym = ((i + j : Nat) : Int) ∧ l[j]? = some x.w
  | [], i => by simp [leafAt]
  | n :: r, i => fun x hx => by
    have ih : ∀ x ∈ leafAt (i + 1) r, x.w ∈ n :: r ∧ ∃ j, x.sym = ((i + j : Nat) : Int) ∧ (n :: r)[j]? = some x.w := fun x hx => by
      obtain ⟨h1, j, h2, h3⟩ := leafAt_mem r (i + 1) x hx
      exact ⟨List.mem_cons_of_mem _ h1, j + 1, by rw [h2]; congr 1; omega, by simpa using h3⟩
    rw [leafAt] at hx
    split at hx
    · rcases List.mem_cons.1 hx with rfl | hx
      · exact ⟨by simp, 0, by simp, by simp⟩
      · exact ih x hx
    · exact ih x hx
def leaves (c : List Nat) : List It := ssort It.w (leafAt 0 c)
def presAt : Nat → List Nat → List Nat
  | _, [] => []
  | i, n :: r => if 0 < n then i :: presAt (i + 1) r else presAt (i + 1) r
theorem presAt_snoc : ∀ (l : List Nat) (i x : Nat), presAt i (l ++ [x]) = presAt i l ++ (if 0 < x then [i + l.length] else [])
  | [], i, x => by simp [presAt]
  | n :: r, i, x => by
    have := presAt_snoc r (i + 1) x
    rw [show i + 1 + r.length = i + (n :: r).length by simp; omega] at this
    rw [List.cons_append, presAt, presAt, this]
    split <;> simp
theorem presAt_length : ∀ (l : List Nat) (i : Nat), (presAt i l).length ≤ l.length
  | [], i => by simp [presAt]
  | n :: r, i => by
    have := presAt_length r (i + 1)
    rw [presAt]; split <;> simp <;> omega
theorem presAt_mem : ∀ (l : List Nat) (i : Nat), ∀ x ∈ presAt i l, i ≤ x ∧ x < i + l.length ∧ 0 < l.getD (x - i) 0
  | [], i => by simp [presAt]
  | n :: r, i => fun x hx => by
    have ih : ∀ x ∈ presAt (i + 1) r, i ≤ x ∧ x < i + (n :: r).length ∧ 0 < (n :: r).getD (x - i) 0 := fun x hx => by
      obtain ⟨h1, h2, h3⟩ := presAt_mem r (i + 1) x hx
      refine ⟨by omega, by simp; omega, ?_⟩
      rw [show x - i = (x - (i + 1)) + 1 by omega]; simpa using h3
    rw [presAt] at hx
    split at hx
    · rename_i hn
      rcases List.mem_cons.1 hx with rfl | hx
      · exact ⟨Nat.le_refl _, by simp, by simpa using hn⟩
      · exact ih x hx
    · exact ih x hx
def lenKey (l : List Nat) (i : Nat) : Nat := l.getD i 0
def inOrd (l : List Nat) : List Nat := ssort (lenKey l) (presAt 0 l)
theorem Srt.get {α : Type} {key : α → Nat} {l : List α} (h : Srt key l) {i j : Nat} {x y : α} (hij : i < j) (hx : l[i]? = some x) (hy : l[j]? = some y) : key x ≤ key y := by
  obtain ⟨h1, rfl⟩ := List.getElem?_eq_some_iff.1 hx
  obtain ⟨h2, rfl⟩ := List.getElem?_eq_some_iff.1 hy
  exact List.pairwise_iff_getElem.1 h i j h1 h2 hij
def cdStep (l : List Nat) (s : Nat × Nat × Nat × List Nat) (i : Nat) : Nat × Nat × Nat × List Nat :=
  let c := if 0 < s.1 then (s.2.1 + 1) % 2 ^ 64 * 2 ^ (lenKey l i - s.2.2.1) % 2 ^ 64 else s.2.1
  (s.1 + 1, c, lenKey l i, s.2.2.2.set i c)
def cdSt (l : List Nat) (ord : List Nat) : Nat × Nat × Nat × List Nat := ord.foldl (cdStep l) (0, 0, 0, List.replicate l.length 0)
theorem cdSt_snoc (l ord : List Nat) (i : Nat) : cdSt l (ord ++ [i]) = cdStep l (cdSt l ord) i := by simp [cdSt]
def codesN (l : List Nat) : List Nat := (cdSt l (inOrd l)).2.2.2
theorem cdSt_length (l : List Nat) : ∀ ord, (cdSt l ord).2.2.2.length = l.length := fun ord => by
  have : ∀ (ord : List Nat) s, (ord.foldl (cdStep l) s).2.2.2.length = s.2.2.2.length := by
    intro ord
    induction ord with
    | nil => intro s; rfl
    | cons i r ih => intro s; rw [List.foldl_cons, ih]; simp [cdStep]
  rw [cdSt, this]; simp
theorem codesN_length (l : List Nat) : (codesN l).length = l.length := cdSt_length l _
theorem inOrd_mem (l : List Nat) : ∀ x ∈ inOrd l, x < l.length ∧ 0 < lenKey l x := fun x hx => by
  have := presAt_mem l 0 x ((ssort_stb _).mem.2 hx)
  exact ⟨by omega, by have := this.2.2; simpa [lenKey] using this⟩
theorem inOrd_length (l : List Nat) : (inOrd l).length ≤ l.length := by
  have := presAt_length l 0
  rw [inOrd, ssort_length]; exact this
def pkgAt : Nat → List It → List It
  | i, x :: y :: r => ⟨x.w + y.w, -1, i, i + 1⟩ :: pkgAt (i + 2) r
  | _, _ => []
theorem pkgAt_snoc : ∀ (q i : Nat) (b : List It) (x y : It), b[2 * q]? = some x → b[2 * q + 1]? = some y →
    pkgAt i (b.take (2 * (q + 1))) = pkgAt i (b.take (2 * q)) ++ [⟨x.w + y.w, -1, i + 2 * q, i + 2 * q + 1⟩]
  | 0, i, b, x, y, hx, hy => by
    match b with
    | [] => simp at hx
    | [_] => simp at hy
    | u :: v :: r =>
      simp at hx hy; subst hx; subst hy
      simp [pkgAt]
  | q + 1, i, b, x, y, hx, hy => by
    match b with
    | [] => simp at hx
    | [_] => simp at hy
    | u :: v :: r =>
      have e1 : 2 * (q + 1) = 2 * q + 1 + 1 := by omega
      have e2 : 2 * (q + 1 + 1) = 2 * (q + 1) + 1 + 1 := by omega
      rw [e1] at hx hy
      have hx' : r[2 * q]? = some x := by simpa using hx
      have hy' : r[2 * q + 1]? = some y := by simpa using hy
      have ih := pkgAt_snoc q (i + 2) r x y hx' hy'
      rw [e2, e1, List.take_succ_cons, List.take_succ_cons, List.take_succ_cons, List.take_succ_cons, pkgAt, pkgAt, List.cons_append]
      rw [show 2 * q + 1 + 1 = 2 * (q + 1) by omega, ih]
      simp; omega
theorem pkgAt_all : ∀ (q i : Nat) (b : List It), b.length ≤ 2 * q + 1 → pkgAt i (b.take (2 * q)) = pkgAt i b
  | 0, i, b, h => by
    match b with
    | [] => rfl
    | [x] => rfl
    | _ :: _ :: _ => simp at h
  | q + 1, i, b, h => by
    match b with
    | [] => rfl
    | [x] => rfl
    | u :: v :: r =>
      have e1 : 2 * (q + 1) = 2 * q + 1 + 1 := by omega
      rw [e1, List.take_succ_cons, List.take_succ_cons, pkgAt, pkgAt, pkgAt_all q (i + 2) r (by simp at h; omega)]
theorem pkgAt_length : ∀ (i : Nat) (b : List It), (pkgAt i b).length = b.length / 2
  | i, [] => by simp [pkgAt]
  | i, [x] => by simp [pkgAt]
  | i, x :: y :: r => by rw [pkgAt, List.length_cons, pkgAt_length (i + 2) r, List.length_cons, List.length_cons]; omega
theorem pkgAt_mem : ∀ (i : Nat) (b : List It) (W : Nat), (∀ x ∈ b, x.w ≤ W) → ∀ x ∈ pkgAt i b, x.w ≤ 2 * W ∧ x.sym = -1
  | i, [], W, _ => by simp [pkgAt]
  | i, [x], W, _ => by simp [pkgAt]
  | i, x :: y :: r, W, h => fun z hz => by
    rw [pkgAt] at hz
    rcases List.mem_cons.1 hz with rfl | hz
    · have h1 := h x (by simp); have h2 := h y (by simp); exact ⟨by show x.w + y.w ≤ 2 * W; omega, rfl⟩
    · exact pkgAt_mem (i + 2) r W (fun q hq => h q (by simp [hq])) z hz
theorem pkgAt_sym : ∀ (i : Nat) (b : List It), ∀ x ∈ pkgAt i b, x.sym = -1
  | i, [] => by simp [pkgAt]
  | i, [x] => by simp [pkgAt]
  | i, x :: y :: r => fun z hz => by
    rw [pkgAt] at hz
    rcases List.mem_cons.1 hz with rfl | hz
    · rfl
    · exact pkgAt_sym (i + 2) r z hz
def nextL (l b : List It) : List It := ssort It.w (l ++ pkgAt 0 b)
theorem nextL_length (l b : List It) : (nextL l b).length = l.length + b.length / 2 := by simp [nextL, pkgAt_length]
def lvl (c : List Nat) : Nat → List It
  | 0 => leaves c
  | k + 1 => nextL (leaves c) (lvl c k)
def lvls (c : List Nat) (k : Nat) : List (List It) := (List.range k).map (lvl c)
theorem lvls_succ (c : List Nat) (k : Nat) : lvls c (k + 1) = lvls c k ++ [lvl c k] := by simp [lvls, List.range_succ]
theorem lvls_get (c : List Nat) {i k : Nat} (h : i < k) : (lvls c k)[i]? = some (lvl c i) := by simp [lvls, h]
theorem leaves_length (c : List Nat) : (leaves c).length ≤ c.length := by rw [leaves, ssort_length]; exact leafAt_length c 0
theorem leaves_mem (c : List Nat) : ∀ x ∈ leaves c, x.w ∈ c ∧ ∃ j : Nat, x.sym = (j : Int) ∧ c[j]? = some x.w := fun x hx => by
  have := leafAt_mem c 0 x ((ssort_stb _).mem.2 hx)
  simpa using this
theorem lvl_length (c : List Nat) : ∀ k, (leaves c).length ≤ (lvl c k).length ∧ (lvl c k).length ≤ 2 * (leaves c).length
  | 0 => by simp [lvl]; omega
  | k + 1 => by
    have := lvl_length c k
    rw [lvl, nextL_length]; omega
theorem lvl_deep (c : List Nat) (h1 : 1 ≤ (leaves c).length) : ∀ k, 2 * (leaves c).length ≤ (lvl c k).length + 1 + ((leaves c).length - 1) / 2 ^ k
  | 0 => by simp [lvl]; omega
  | k + 1 => by
    have ih := lvl_deep c h1 k
    rw [lvl, nextL_length]
    have e : ((leaves c).length - 1) / 2 ^ (k + 1) = ((leaves c).length - 1) / 2 ^ k / 2 := by rw [Nat.pow_succ, Nat.div_div_eq_div_mul]
    rw [e]; omega
theorem lvl_w (c : List Nat) (W : Nat) (h : ∀ x ∈ c, x ≤ W) : ∀ k, ∀ x ∈ lvl c k, x.w ≤ W * 2 ^ k
  | 0 => fun x hx => by have := h _ (leaves_mem c x hx).1; simpa using this
  | k + 1 => fun x hx => by
    have ih := lvl_w c W h k
    rw [lvl] at hx
    have hp : W * 2 ^ (k + 1) = 2 * (W * 2 ^ k) := by rw [Nat.pow_succ, ← Nat.mul_assoc, Nat.mul_comm]
    have h1 : W ≤ W * 2 ^ k := Nat.le_mul_of_pos_right _ (Nat.two_pow_pos k)
    rcases List.mem_append.1 ((ssort_stb _).mem.2 hx) with hx | hx
    · have := h _ (leaves_mem c x hx).1; omega
    · have := (pkgAt_mem 0 _ _ ih x hx).1; omega
theorem lvl_sym (c : List Nat) : ∀ k, ∀ x ∈ lvl c k, x.sym = -1 ∨ ∃ j, x.sym = ((j : Nat) : Int) ∧ j < c.length
  | 0 => fun x hx => by
    obtain ⟨_, j, h1, h2⟩ := leaves_mem c x hx
    exact .inr ⟨j, h1, (List.getElem?_eq_some_iff.1 h2).1⟩
  | k + 1 => fun x hx => by
    rw [lvl] at hx
    rcases List.mem_append.1 ((ssort_stb _).mem.2 hx) with hx | hx
    · obtain ⟨_, j, h1, h2⟩ := leaves_mem c x hx
      exact .inr ⟨j, h1, (List.getElem?_eq_some_iff.1 h2).1⟩
    · exact .inl (pkgAt_sym 0 _ x hx)
def bump (ls : List Nat) (x : It) : List Nat := if 0 ≤ x.sym then ls.set x.sym.toNat (ls.getD x.sym.toNat 0 + 1) else ls
def bumps (ls : List Nat) (xs : List It) : List Nat := xs.foldl bump ls
theorem bumps_snoc (ls : List Nat) (xs : List It) (x : It) : bumps ls (xs ++ [x]) = bump (bumps ls xs) x := by simp [bumps]
theorem bump_length (ls : List Nat) (x : It) : (bump ls x).length = ls.length := by unfold bump; split <;> simp
theorem bumps_length (xs : List It) : ∀ ls, (bumps ls xs).length = ls.length := by
  induction xs with
  | nil => intro ls; rfl
  | cons x r ih => intro ls; rw [bumps, List.foldl_cons]; exact (ih _).trans (bump_length ls x)
def npk (xs : List It) : Nat := xs.countP fun x => decide (x.sym < 0)
theorem npk_snoc (xs : List It) (x : It) : npk (xs ++ [x]) = npk xs + if x.sym < 0 then 1 else 0 := by
  simp [npk, List.countP_append, List.countP_cons]
theorem npk_le (xs : List It) (t : Nat) : npk (xs.take t) ≤ npk xs := (List.take_sublist t xs).countP_le
theorem leaves_sym (c : List Nat) : ∀ x ∈ leaves c, 0 ≤ x.sym := fun x hx => by
  obtain ⟨_, j, h, _⟩ := leaves_mem c x hx; omega
theorem npk_leaves (c : List Nat) : npk (leaves c) = 0 := by
  rw [npk, List.countP_eq_zero]; intro x hx; have := leaves_sym c x hx; simp; omega
theorem npk_next (c : List Nat) (b : List It) : npk (nextL (leaves c) b) = b.length / 2 := by
  have hp : npk (nextL (leaves c) b) = npk (leaves c ++ pkgAt 0 b) := ((ssort_stb (key := It.w) (leaves c ++ pkgAt 0 b)).perm.countP_eq _).symm
  have h0 := npk_leaves c
  have h1 : npk (pkgAt 0 b) = (pkgAt 0 b).length := by
    rw [npk, List.countP_eq_length]; intro x hx; have := pkgAt_sym 0 b x hx; simp; omega
  rw [hp]
  simp only [npk] at h0 h1 ⊢
  rw [List.countP_append, h0, h1, pkgAt_length]; omega
def down (c : List Nat) : Nat → Nat → List Nat → List Nat
  | 0, _, ls => ls
  | k + 1, t, ls => down c k (2 * npk ((lvl c k).take t)) (bumps ls ((lvl c k).take t))
def lensN (c : List Nat) : List Nat :=
  if (leaves c).length < 2 then (leaves c).foldl (fun ls x => ls.set x.sym.toNat 1) (List.replicate c.length 0) else down c 15 (2 * (leaves c).length - 2) (List.replicate c.length 0)
theorem take_down (c : List Nat) (k t : Nat) : 2 * npk ((lvl c (k + 1)).take t) ≤ (lvl c k).length := by
  have h1 := npk_le (lvl c (k + 1)) t
  have h2 : npk (lvl c (k + 1)) = (lvl c k).length / 2 := npk_next c _
  omega
theorem take_top (c : List Nat) (h1 : 1 ≤ (leaves c).length) (hn : (leaves c).length ≤ 1024) : 2 * (leaves c).length - 2 ≤ (lvl c 14).length := by
  have := lvl_deep c h1 14
  rw [Nat.div_eq_of_lt (by omega : (leaves c).length - 1 < 2 ^ 14)] at this
  omega
theorem bump_le {ls : List Nat} {B : Nat} (h : ∀ x ∈ ls, x ≤ B) (y : It) : ∀ x ∈ bump ls y, x ≤ B + 1 := fun x hx => by
  unfold bump at hx
  split at hx
  · rcases List.mem_or_eq_of_mem_set hx with hx | rfl
    · have := h x hx; omega
    · rw [List.getD_eq_getElem?_getD]
      cases hg : ls[y.sym.toNat]? with
      | none => simp
      | some v => have := h v (List.mem_of_getElem? hg); simp; exact this
  · have := h x hx; omega
theorem down_length (c : List Nat) : ∀ k t ls, (down c k t ls).length = ls.length
  | 0, t, ls => rfl
  | k + 1, t, ls => by rw [down, down_length c k, bumps_length]
theorem lensN_length (c : List Nat) : (lensN c).length = c.length := by
  unfold lensN
  split
  · have : ∀ (xs : List It) (ls : List Nat), (xs.foldl (fun ls x => ls.set x.sym.toNat 1) ls).length = ls.length := by
      intro xs; induction xs with
      | nil => intro ls; rfl
      | cons x r ih => intro ls; rw [List.foldl_cons, ih]; simp
    rw [this]; simp
  · rw [down_length]; simp
end Go.Kw
namespace Go.Kw
section
variable {α : Type} {key : α → Nat}
theorem Srt.filter {l : List α} (h : Srt key l) (p : α → Bool) : Srt key (l.filter p) := List.Pairwise.sublist List.filter_sublist h
theorem ssort_filter (l : List α) (p : α → Bool) : (ssort key l).filter p = ssort key (l.filter p) :=
  ssort_eq ((ssort_srt l).filter p) fun k => by
    have h := ssort_stb (key := key) l k
    have h1 : (l.filter p).filter (fun x => key x == k) = (l.filter fun x => key x == k).filter p := by simp only [List.filter_filter, Bool.and_comm]
    have h2 : ((ssort key l).filter p).filter (fun x => key x == k) = ((ssort key l).filter fun x => key x == k).filter p := by simp only [List.filter_filter, Bool.and_comm]
    rw [h1, h2, h]
theorem ssort_id {l : List α} (h : Srt key l) : ssort key l = l := (ssort_eq h (Stb.refl l)).symm
theorem Srt.take_drop {l : List α} (h : Srt key l) (t : Nat) : ∀ x ∈ l.take t, ∀ y ∈ l.drop t, key x ≤ key y := by
  rw [← List.take_append_drop t l, Srt.append] at h; exact h.2.2
theorem countP_take_drop (l : List α) (p : α → Bool) (t : Nat) : l.countP p = (l.take t).countP p + (l.drop t).countP p := by
  conv => lhs; rw [← List.take_append_drop t l]
  rw [List.countP_append]
theorem filter_take_prefix (p : α → Bool) : ∀ (l : List α) (t : Nat), (l.take t).filter p = (l.filter p).take ((l.take t).countP p)
  | [], t => by simp
  | x :: r, 0 => by simp
  | x :: r, t + 1 => by
    rw [List.take_succ_cons]
    cases hp : p x with
    | true => rw [List.filter_cons_of_pos hp, List.filter_cons_of_pos hp, List.countP_cons_of_pos hp, List.take_succ_cons, filter_take_prefix p r t]
    | false => rw [List.filter_cons_of_neg (by simp [hp]), List.filter_cons_of_neg (by simp [hp]), List.countP_cons_of_neg (by simp [hp]), filter_take_prefix p r t]
end
def isLf (x : It) : Bool := decide (0 ≤ x.sym)
def isPk (x : It) : Bool := decide (x.sym < 0)
def nlf (xs : List It) : Nat := xs.countP isLf
theorem nlf_npk (xs : List It) : nlf xs + npk xs = xs.length := by
  induction xs with
  | nil => rfl
  | cons x r ih =>
    simp only [nlf, npk, isLf, List.countP_cons, List.length_cons] at ih ⊢
    by_cases h : 0 ≤ x.sym
    · simp [h, show ¬ x.sym < 0 by omega]; omega
    · simp [h, show x.sym < 0 by omega]; omega
theorem pkgAt_filter (i : Nat) (b : List It) : (pkgAt i b).filter isPk = pkgAt i b ∧ (pkgAt i b).filter isLf = [] := by
  refine ⟨List.filter_eq_self.2 fun x hx => ?_, List.filter_eq_nil_iff.2 fun x hx => ?_⟩ <;> (have := pkgAt_sym i b x hx; simp [isPk, isLf, this])
theorem leaves_filter (c : List Nat) : (leaves c).filter isLf = leaves c ∧ (leaves c).filter isPk = [] := by
  refine ⟨List.filter_eq_self.2 fun x hx => ?_, List.filter_eq_nil_iff.2 fun x hx => ?_⟩ <;> (have := leaves_sym c x hx; simp [isPk, isLf]; omega)
theorem pkgAt_get : ∀ (q i : Nat) (b : List It) (z : It), (pkgAt i b)[q]? = some z → ∃ x y, b[2 * q]? = some x ∧ b[2 * q + 1]? = some y ∧ z.w = x.w + y.w
  | _, _, [], z, h => by simp [pkgAt] at h
  | _, _, [x], z, h => by simp [pkgAt] at h
  | 0, i, x :: y :: r, z, h => by simp [pkgAt] at h; subst h; exact ⟨x, y, rfl, rfl, rfl⟩
  | q + 1, i, x :: y :: r, z, h => by
    rw [pkgAt] at h
    obtain ⟨u, v, h1, h2, h3⟩ := pkgAt_get q (i + 2) r z (by simpa using h)
    refine ⟨u, v, ?_, ?_, h3⟩
    · rw [show 2 * (q + 1) = 2 * q + 1 + 1 by omega]; simpa using h1
    · rw [show 2 * (q + 1) + 1 = 2 * q + 1 + 1 + 1 by omega]; simpa using h2
theorem pkgAt_srt (i : Nat) (b : List It) (h : Srt It.w b) : Srt It.w (pkgAt i b) := by
  refine List.pairwise_iff_getElem.2 fun p q hp hq hpq => ?_
  obtain ⟨x, y, h1, h2, h3⟩ := pkgAt_get p i b _ (List.getElem?_eq_getElem hp)
  obtain ⟨u, v, g1, g2, g3⟩ := pkgAt_get q i b _ (List.getElem?_eq_getElem hq)
  rw [h3, g3]
  have a1 : x.w ≤ u.w := h.get (by omega) h1 g1
  have a2 : y.w ≤ v.w := h.get (by omega) h2 g2
  omega
theorem lvl_srt (c : List Nat) : ∀ k, Srt It.w (lvl c k)
  | 0 => ssort_srt _
  | _ + 1 => ssort_srt _
theorem lvl_leaves (c : List Nat) : ∀ k, (lvl c k).filter isLf = leaves c
  | 0 => (leaves_filter c).1
  | k + 1 => by
    rw [lvl, nextL, ssort_filter, List.filter_append, (leaves_filter c).1, (pkgAt_filter 0 _).2, List.append_nil]
    exact ssort_id (ssort_srt _)
theorem lvl_pkgs (c : List Nat) (k : Nat) : (lvl c (k + 1)).filter isPk = pkgAt 0 (lvl c k) := by
  rw [lvl, nextL, ssort_filter, List.filter_append, (leaves_filter c).2, (pkgAt_filter 0 _).1, List.nil_append]
  exact ssort_id (pkgAt_srt 0 _ (lvl_srt c k))
theorem taken_leaves (c : List Nat) (k t : Nat) : ((lvl c k).take t).filter isLf = (leaves c).take (nlf ((lvl c k).take t)) := by
  rw [filter_take_prefix, lvl_leaves]; rfl
theorem taken_pkgs (c : List Nat) (k t : Nat) : ((lvl c (k + 1)).take t).filter isPk = (pkgAt 0 (lvl c k)).take (npk ((lvl c (k + 1)).take t)) := by
  rw [filter_take_prefix, lvl_pkgs]; rfl
theorem last_pkg (c : List Nat) (k t p : Nat) (hp : npk ((lvl c (k + 1)).take t) = p + 1) : ∃ z x y, z ∈ (lvl c (k + 1)).take t ∧ (lvl c k)[2 * p]? = some x ∧ (lvl c k)[2 * p + 1]? = some y ∧ z.w = x.w + y.w := by
  have h := taken_pkgs c k t
  rw [hp] at h
  have hl : (((lvl c (k + 1)).take t).filter isPk).length = p + 1 := by rw [← List.countP_eq_length_filter]; exact hp
  obtain ⟨z, hz⟩ : ∃ z, (((lvl c (k + 1)).take t).filter isPk)[p]? = some z := ⟨_, List.getElem?_eq_getElem (by omega)⟩
  have hz2 := hz
  rw [h, List.getElem?_take_of_lt (by omega)] at hz2
  obtain ⟨x, y, h1, h2, h3⟩ := pkgAt_get p 0 _ z hz2
  exact ⟨z, x, y, (List.mem_filter.1 (List.mem_of_getElem? hz)).1, h1, h2, h3⟩
theorem lvl_pos (c : List Nat) : ∀ k, ∀ x ∈ lvl c k, 0 < x.w
  | 0 => fun x hx => by
    have hm : x ∈ leafAt 0 c := (ssort_stb _).mem.2 hx
    have : ∀ (l : List Nat) (i : Nat), ∀ x ∈ leafAt i l, 0 < x.w := by
      intro l
      induction l with
      | nil => intro i x hx; simp [leafAt] at hx
      | cons n r ih =>
        intro i x hx
        rw [leafAt] at hx
        split at hx
        · rcases List.mem_cons.1 hx with rfl | hx
          · assumption
          · exact ih _ x hx
        · exact ih _ x hx
    exact this _ _ x hm
  | k + 1 => fun x hx => by
    rcases List.mem_append.1 ((ssort_stb _).mem.2 hx) with hx | hx
    · exact lvl_pos c 0 x hx
    · obtain ⟨q, hq⟩ := List.mem_iff_getElem?.1 hx
      obtain ⟨u, v, h1, _, h3⟩ := pkgAt_get q 0 _ x hq
      have := lvl_pos c k u (List.mem_of_getElem? h1)
      omega
theorem nlf_mono (c : List Nat) (k t : Nat) : nlf ((lvl c k).take (2 * npk ((lvl c (k + 1)).take t))) ≤ nlf ((lvl c (k + 1)).take t) := by
  cases hp : npk ((lvl c (k + 1)).take t) with
  | zero => simp [nlf]
  | succ p =>
    obtain ⟨z, x, y, hz, hx, hy, hw⟩ := last_pkg c k t p hp
    have hx0 := lvl_pos c k x (List.mem_of_getElem? hx)
    let q : It → Bool := fun u => isLf u && decide (u.w < z.w)
    have h1 : nlf ((lvl c k).take (2 * (p + 1))) ≤ ((lvl c k).take (2 * (p + 1))).countP q := by
      refine List.countP_mono_left fun u hu hl => ?_
      obtain ⟨i, hi⟩ := List.mem_iff_getElem?.1 hu
      rw [List.getElem?_take] at hi
      split at hi
      · have : u.w ≤ y.w := by
          rcases Nat.lt_or_ge i (2 * p + 1) with h | h
          · exact (lvl_srt c k).get h hi hy
          · have : i = 2 * p + 1 := by omega
            subst this; rw [hi] at hy; cases hy; exact Nat.le_refl _
        have : u.w < z.w := by omega
        simp [q, hl, this]
      · cases hi
    have h2 : ((lvl c k).take (2 * (p + 1))).countP q ≤ (lvl c k).countP q := (List.take_sublist _ _).countP_le
    have h3 : ∀ k, (lvl c k).countP q = (leaves c).countP fun u => decide (u.w < z.w) := fun k => by
      rw [← lvl_leaves c k, List.countP_filter]
      exact List.countP_congr fun u _ => by simp [q, and_comm]
    have h4 : (lvl c (k + 1)).countP q = ((lvl c (k + 1)).take t).countP q := by
      rw [countP_take_drop _ _ t]
      have : ((lvl c (k + 1)).drop t).countP q = 0 := by
        rw [List.countP_eq_zero]
        intro u hu
        have := (lvl_srt c (k + 1)).take_drop t z hz u hu
        simp [q]; intro _; omega
      omega
    have h5 : ((lvl c (k + 1)).take t).countP q ≤ nlf ((lvl c (k + 1)).take t) := List.countP_mono_left fun u _ hu => by simp [q] at hu; exact hu.1
    have := h3 k; have := h3 (k + 1)
    omega
theorem nlf_leaves (c : List Nat) (k : Nat) : nlf (lvl c k) = (leaves c).length := by
  rw [nlf, List.countP_eq_length_filter, lvl_leaves]
theorem nlf_top (c : List Nat) (hn : 2 ≤ (leaves c).length) : ∀ k, nlf ((lvl c k).drop (2 * (leaves c).length - 2)) = 0
  | 0 => by
    rw [List.drop_of_length_le (by simp [lvl]; omega)]; rfl
  | k + 1 => by
    rw [nlf, List.countP_eq_zero]
    intro x hx hl
    have hcnt := nlf_leaves c (k + 1)
    have hsum := countP_take_drop (lvl c (k + 1)) isLf (2 * (leaves c).length - 2)
    have hpos : 0 < ((lvl c (k + 1)).drop (2 * (leaves c).length - 2)).countP isLf := List.countP_pos_iff.2 ⟨x, hx, hl⟩
    have hlen : ((lvl c (k + 1)).take (2 * (leaves c).length - 2)).length = 2 * (leaves c).length - 2 := by
      rw [List.length_take]
      have : 0 < ((lvl c (k + 1)).drop (2 * (leaves c).length - 2)).length := List.length_pos_of_mem hx
      rw [List.length_drop] at this
      omega
    have hnp := nlf_npk ((lvl c (k + 1)).take (2 * (leaves c).length - 2))
    have hge : (leaves c).length - 1 ≤ npk ((lvl c (k + 1)).take (2 * (leaves c).length - 2)) := by
      simp only [nlf] at hcnt hnp; omega
    obtain ⟨p, hp⟩ : ∃ p, npk ((lvl c (k + 1)).take (2 * (leaves c).length - 2)) = p + 1 := ⟨_ - 1, (Nat.sub_add_cancel (by omega)).symm⟩
    obtain ⟨z, u, y, hz, hu, hy, hw⟩ := last_pkg c k _ p hp
    have hzx := (lvl_srt c (k + 1)).take_drop _ z hz x hx
    have hu0 := lvl_pos c k u (List.mem_of_getElem? hu)
    have hxl : x ∈ leaves c := by rw [← lvl_leaves c (k + 1)]; exact List.mem_filter.2 ⟨List.mem_of_mem_drop hx, hl⟩
    have hxk : x ∈ lvl c k := by rw [← lvl_leaves c k] at hxl; exact (List.mem_filter.1 hxl).1
    have ih := nlf_top c hn k
    rw [nlf, List.countP_eq_zero] at ih
    rw [← List.take_append_drop (2 * (leaves c).length - 2) (lvl c k), List.mem_append] at hxk
    rcases hxk with hxk | hxk
    · obtain ⟨i, hi⟩ := List.mem_iff_getElem?.1 hxk
      rw [List.getElem?_take] at hi
      split at hi
      · have : x.w ≤ y.w := by
          rcases Nat.lt_or_ge i (2 * p + 1) with h | h
          · exact (lvl_srt c k).get h hi hy
          · have : i = 2 * p + 1 := by omega
            subst this; rw [hi] at hy; cases hy; exact Nat.le_refl _
        omega
      · cases hi
    · exact ih x hxk hl
theorem nlf_top' (c : List Nat) (hn : 2 ≤ (leaves c).length) (k : Nat) : nlf ((lvl c k).take (2 * (leaves c).length - 2)) = (leaves c).length := by
  have h1 := nlf_top c hn k
  have h2 := nlf_leaves c k
  have h3 := countP_take_drop (lvl c k) isLf (2 * (leaves c).length - 2)
  simp only [nlf] at h1 h2 ⊢; omega
def lfSum (l : List It) (ls : List Nat) : Nat := (l.map fun x => 2 ^ (15 - ls.getD x.sym.toNat 0)).sum
theorem bumps_filter (ls : List Nat) (xs : List It) : bumps ls xs = bumps ls (xs.filter isLf) := by
  unfold bumps
  induction xs generalizing ls with
  | nil => rfl
  | cons x r ih =>
    by_cases h : 0 ≤ x.sym
    · rw [List.filter_cons_of_pos (by simp [isLf, h]), List.foldl_cons, List.foldl_cons, ih]
    · rw [List.filter_cons_of_neg (by simp [isLf, h]), List.foldl_cons, show bump ls x = ls by simp [bump, h], ih]
theorem getD_set_eq {ls : List Nat} {i v : Nat} (h : i < ls.length) : (ls.set i v).getD i 0 = v := by simp [List.getD_eq_getElem?_getD, h]
theorem getD_set_ne' {ls : List Nat} {i j v : Nat} (h : i ≠ j) : (ls.set i v).getD j 0 = ls.getD j 0 := by simp [List.getD_eq_getElem?_getD, List.getElem?_set_ne h]
def Ok (n : Nat) (l : List It) : Prop := (∀ x ∈ l, 0 ≤ x.sym ∧ x.sym.toNat < n) ∧ l.Pairwise fun x y => x.sym.toNat ≠ y.sym.toNat
theorem Ok.left {n : Nat} {l m : List It} (h : Ok n (l ++ m)) : Ok n l := ⟨fun x hx => h.1 x (List.mem_append_left _ hx), (List.pairwise_append.1 h.2).1⟩
theorem Ok.right {n : Nat} {l m : List It} (h : Ok n (l ++ m)) : Ok n m := ⟨fun x hx => h.1 x (List.mem_append_right _ hx), (List.pairwise_append.1 h.2).2.1⟩
theorem bumps_in {n : Nat} : ∀ {l : List It} {ls : List Nat}, Ok n l → ls.length = n → ∀ x ∈ l, (bumps ls l).getD x.sym.toNat 0 = ls.getD x.sym.toNat 0 + 1
  | y :: r, ls, h, hl, x, hx => by
    have hb : bumps ls (y :: r) = bumps (bump ls y) r := rfl
    have hy := h.1 y (by simp)
    have hlb : (bump ls y).length = n := by rw [bump_length, hl]
    rw [hb]
    have hr : Ok n r := Ok.right (l := [y]) h
    rcases List.mem_cons.1 hx with rfl | hx
    · have hout : ∀ (r : List It) (ls : List Nat), (∀ z ∈ r, x.sym.toNat ≠ z.sym.toNat) → (bumps ls r).getD x.sym.toNat 0 = ls.getD x.sym.toNat 0 := by
        intro r
        induction r with
        | nil => intro ls _; rfl
        | cons z r ih =>
          intro ls hz
          have : bumps ls (z :: r) = bumps (bump ls z) r := rfl
          rw [this, ih _ fun q hq => hz q (by simp [hq])]
          unfold bump
          split
          · exact getD_set_ne' fun e => hz z (by simp) e.symm
          · rfl
      rw [hout r _ (List.pairwise_cons.1 h.2).1]
      unfold bump
      rw [if_pos hy.1, getD_set_eq (by omega)]
    · rw [bumps_in hr hlb x hx]
      have hne := (List.pairwise_cons.1 h.2).1 x hx
      unfold bump
      rw [if_pos hy.1, getD_set_ne' hne]
theorem bumps_out {j : Nat} : ∀ (l : List It) (ls : List Nat), (∀ x ∈ l, x.sym.toNat ≠ j) → (bumps ls l).getD j 0 = ls.getD j 0
  | [], ls, _ => rfl
  | x :: r, ls, h => by
    have : bumps ls (x :: r) = bumps (bump ls x) r := rfl
    rw [this, bumps_out r _ fun z hz => h z (by simp [hz])]
    unfold bump
    split
    · exact getD_set_ne' (h x (by simp))
    · rfl
theorem lfSum_append (l m : List It) (ls : List Nat) : lfSum (l ++ m) ls = lfSum l ls + lfSum m ls := by simp [lfSum]
theorem lfSum_const {l : List It} {ls : List Nat} {d : Nat} (h : ∀ x ∈ l, ls.getD x.sym.toNat 0 = d) : lfSum l ls = l.length * 2 ^ (15 - d) := by
  unfold lfSum
  induction l with
  | nil => simp
  | cons x r ih =>
    rw [List.map_cons, List.sum_cons, ih fun y hy => h y (by simp [hy]), h x (by simp), List.length_cons, Nat.add_mul, Nat.one_mul, Nat.add_comm]
theorem lfSum_congr {l : List It} {ls ls' : List Nat} (h : ∀ x ∈ l, ls.getD x.sym.toNat 0 = ls'.getD x.sym.toNat 0) : lfSum l ls = lfSum l ls' := by
  unfold lfSum
  exact congrArg List.sum (List.map_congr_left fun x hx => by rw [h x hx])
theorem lfSum_bumps {n : Nat} {A B : List It} {ls : List Nat} {k : Nat} (hO : Ok n (A ++ B)) (hl : ls.length = n) (hk : k ≤ 14) (hA : ∀ x ∈ A, ls.getD x.sym.toNat 0 = 14 - k) :
    lfSum (A ++ B) (bumps ls A) + A.length * 2 ^ k = lfSum (A ++ B) ls := by
  rw [lfSum_append, lfSum_append]
  have hB : lfSum B (bumps ls A) = lfSum B ls := lfSum_congr fun x hx => bumps_out A ls fun y hy => (List.pairwise_append.1 hO.2).2.2 y hy x hx
  have hA1 : lfSum A (bumps ls A) = A.length * 2 ^ k := by
    rw [lfSum_const (d := 15 - k) fun x hx => by rw [bumps_in hO.left hl x hx, hA x hx]; omega]
    rw [show 15 - (15 - k) = k by omega]
  have hA2 : lfSum A ls = A.length * 2 ^ (k + 1) := by
    rw [lfSum_const (d := 14 - k) hA, show 15 - (14 - k) = k + 1 by omega]
  rw [hB, hA1, hA2, Nat.pow_succ]
  have : A.length * (2 ^ k * 2) = A.length * 2 ^ k + A.length * 2 ^ k := by rw [Nat.mul_comm (2 ^ k) 2, Nat.two_mul, Nat.mul_add]
  omega
theorem leafAt_sym : ∀ (l : List Nat) (i : Nat), (leafAt i l).Pairwise fun x y => x.sym.toNat < y.sym.toNat
  | [], i => by simp [leafAt]
  | n :: r, i => by
    rw [leafAt]
    split
    · refine List.pairwise_cons.2 ⟨fun y hy => ?_, leafAt_sym r (i + 1)⟩
      obtain ⟨_, j, h, _⟩ := leafAt_mem r (i + 1) y hy
      simp [h]; omega
    · exact leafAt_sym r (i + 1)
theorem leaves_ok (c : List Nat) : Ok c.length (leaves c) := by
  refine ⟨fun x hx => ?_, ?_⟩
  · obtain ⟨_, j, h, hj⟩ := leaves_mem c x hx
    have := (List.getElem?_eq_some_iff.1 hj).1
    exact ⟨by omega, by rw [h]; simpa using this⟩
  · have h1 : (leafAt 0 c).Pairwise fun x y => x.sym.toNat ≠ y.sym.toNat := (leafAt_sym c 0).imp fun h => by omega
    exact (ssort_stb (leafAt 0 c)).perm.pairwise h1 fun h => h.symm
theorem down_sum (c : List Nat) : ∀ (k t : Nat) (ls : List Nat), ls.length = c.length → k ≤ 15 → t ≤ (lvl c (k - 1)).length → (k = 0 → t = 0) →
    (∀ x ∈ (leaves c).take (nlf ((lvl c (k - 1)).take t)), ls.getD x.sym.toNat 0 = 15 - k) → lfSum (leaves c) (down c k t ls) + t * 2 ^ k / 2 = lfSum (leaves c) ls
  | 0, t, ls, _, _, _, h0, _ => by rw [h0 rfl]; simp [down]
  | k + 1, t, ls, hl, hk, ht, _, hA => by
    rw [Nat.add_sub_cancel] at ht hA
    have hA' := fun x hx => (hA x hx).trans (by omega : 15 - (k + 1) = 14 - k)
    have hO := leaves_ok c
    have hcat := List.take_append_drop (nlf ((lvl c k).take t)) (leaves c)
    have hn1 : nlf ((lvl c k).take t) ≤ (leaves c).length := by
      rw [← nlf_leaves c k]; exact (List.take_sublist t (lvl c k)).countP_le
    have hb : bumps ls ((lvl c k).take t) = bumps ls ((leaves c).take (nlf ((lvl c k).take t))) := by rw [bumps_filter, taken_leaves]
    have h1 := lfSum_bumps (n := c.length) (A := (leaves c).take (nlf ((lvl c k).take t))) (B := (leaves c).drop (nlf ((lvl c k).take t))) (ls := ls) (k := k) (by rw [hcat]; exact hO) hl (by omega) hA'
    rw [hcat, List.length_take, Nat.min_eq_left hn1] at h1
    have hnp := nlf_npk ((lvl c k).take t)
    rw [List.length_take, Nat.min_eq_left ht] at hnp
    rw [down, hb]
    have hk2 : t * 2 ^ (k + 1) / 2 = t * 2 ^ k := by rw [Nat.pow_succ, ← Nat.mul_assoc, Nat.mul_div_cancel _ (by decide)]
    rw [hk2]
    cases k with
    | zero =>
      have h0 : npk ((lvl c 0).take t) = 0 := by
        have := npk_le (lvl c 0) t
        have h := npk_leaves c
        simp only [lvl] at this ⊢
        omega
      rw [h0] at hnp ⊢
      simp only [Nat.pow_zero, Nat.mul_one, Nat.mul_zero, down] at h1 ⊢
      omega
    | succ k =>
      have hmono := nlf_mono c k t
      have ih := down_sum c (k + 1) (2 * npk ((lvl c (k + 1)).take t)) (bumps ls ((leaves c).take (nlf ((lvl c (k + 1)).take t)))) (by rw [bumps_length, hl]) (by omega) (take_down c k t) (by omega) (by
        intro x hx
        rw [Nat.add_sub_cancel] at hx
        have hx2 : x ∈ (leaves c).take (nlf ((lvl c (k + 1)).take t)) := by
          rw [List.mem_iff_getElem?] at hx ⊢
          obtain ⟨i, hi⟩ := hx
          refine ⟨i, ?_⟩
          rw [List.getElem?_take] at hi ⊢
          split at hi
          · rw [if_pos (by omega)]; exact hi
          · cases hi
        rw [bumps_in (Ok.left (m := (leaves c).drop (nlf ((lvl c (k + 1)).take t))) (by rw [hcat]; exact hO)) hl x hx2, hA' x hx2]; omega)
      have e1 : 2 * npk ((lvl c (k + 1)).take t) * 2 ^ (k + 1) / 2 = npk ((lvl c (k + 1)).take t) * 2 ^ (k + 1) := by
        rw [Nat.mul_assoc, Nat.mul_div_cancel_left _ (by decide)]
      rw [e1] at ih
      have e2 : t * 2 ^ (k + 1) = nlf ((lvl c (k + 1)).take t) * 2 ^ (k + 1) + npk ((lvl c (k + 1)).take t) * 2 ^ (k + 1) := by rw [← Nat.add_mul, hnp]
      omega
theorem bump_getD_le (ls : List Nat) (x : It) (j : Nat) : ls.getD j 0 ≤ (bump ls x).getD j 0 := by
  unfold bump
  split
  · by_cases h : x.sym.toNat = j
    · subst h
      by_cases hl : x.sym.toNat < ls.length
      · rw [getD_set_eq hl]; omega
      · simp [List.getD_eq_getElem?_getD, List.getElem?_eq_none (Nat.le_of_not_lt hl)]
    · rw [getD_set_ne' h]; exact Nat.le_refl _
  · exact Nat.le_refl _
theorem bumps_getD_le (j : Nat) : ∀ (xs : List It) (ls : List Nat), ls.getD j 0 ≤ (bumps ls xs).getD j 0
  | [], ls => Nat.le_refl _
  | x :: r, ls => Nat.le_trans (bump_getD_le ls x j) (bumps_getD_le j r (bump ls x))
theorem down_getD_le (c : List Nat) (j : Nat) : ∀ k t ls, ls.getD j 0 ≤ (down c k t ls).getD j 0
  | 0, _, _ => Nat.le_refl _
  | k + 1, t, ls => Nat.le_trans (bumps_getD_le j _ ls) (down_getD_le c j k _ _)
theorem taken_ok (c : List Nat) (k t : Nat) : Ok c.length (((lvl c k).take t).filter isLf) := by
  rw [taken_leaves]; exact Ok.left (m := (leaves c).drop _) (by rw [List.take_append_drop]; exact leaves_ok c)
theorem bumps_step (c : List Nat) (k t j : Nat) {ls : List Nat} (hl : ls.length = c.length) : (bumps ls ((lvl c k).take t)).getD j 0 ≤ ls.getD j 0 + 1 := by
  rw [bumps_filter]
  by_cases h : ∃ x ∈ ((lvl c k).take t).filter isLf, x.sym.toNat = j
  · obtain ⟨x, hx, rfl⟩ := h
    rw [bumps_in (taken_ok c k t) hl x hx]; exact Nat.le_refl _
  · rw [bumps_out _ _ fun x hx he => h ⟨x, hx, he⟩]; omega
theorem down_le (c : List Nat) (j : Nat) : ∀ k t ls, ls.length = c.length → (down c k t ls).getD j 0 ≤ ls.getD j 0 + k
  | 0, _, _, _ => Nat.le_refl _
  | k + 1, t, ls, hl => by
    have h1 := bumps_step c k t j hl
    have h2 := down_le c j k (2 * npk ((lvl c k).take t)) (bumps ls ((lvl c k).take t)) (by rw [bumps_length, hl])
    rw [down]; omega
theorem down_out (c : List Nat) (j : Nat) (hj : ∀ x ∈ leaves c, x.sym.toNat ≠ j) : ∀ k t ls, (down c k t ls).getD j 0 = ls.getD j 0
  | 0, _, _ => rfl
  | k + 1, t, ls => by
    rw [down, down_out c j hj k, bumps_filter]
    refine bumps_out _ _ fun x hx => hj x ?_
    rw [taken_leaves] at hx
    exact List.mem_of_mem_take hx
theorem leaf_sym {c : List Nat} {j n : Nat} (h : c[j]? = some n) (hn : 0 < n) : ∃ x ∈ leaves c, x.sym.toNat = j ∧ x.w = n := by
  have : ∀ (l : List Nat) (i j : Nat), l[j]? = some n → ∃ x ∈ leafAt i l, x.sym.toNat = i + j ∧ x.w = n := by
    intro l
    induction l with
    | nil => intro i j h; simp at h
    | cons m r ih =>
      intro i j h
      cases j with
      | zero =>
        simp at h; subst h
        rw [leafAt, if_pos hn]
        exact ⟨⟨m, i, 0, 0⟩, by simp, by simp, rfl⟩
      | succ j =>
        obtain ⟨x, hx, h1, h2⟩ := ih (i + 1) j (by simpa using h)
        refine ⟨x, ?_, by omega, h2⟩
        rw [leafAt]; split
        · exact List.mem_cons_of_mem _ hx
        · exact hx
  obtain ⟨x, hx, h1, h2⟩ := this c 0 j h
  exact ⟨x, (ssort_stb _).mem.1 hx, by omega, h2⟩
theorem ksum_at (LS : List Nat) : ∀ (r s : List Nat) (i : Nat), LS.drop i = s → s.length = r.length → (∀ j, j < r.length → (s.getD j 0 = 0 ↔ r.getD j 0 = 0)) → lfSum (leafAt i r) LS = ksum s
  | [], s, i, _, hl, _ => by
    have h0 : s = [] := List.eq_nil_of_length_eq_zero (by simpa using hl)
    subst h0; rfl
  | n :: r, s, i, hd, hl, hz => by
    match s with
    | [] => simp at hl
    | v :: s =>
      have hi : LS.getD i 0 = v := by
        have : (LS.drop i)[0]? = some v := by rw [hd]; rfl
        rw [List.getElem?_drop] at this
        rw [List.getD_eq_getElem?_getD]; simpa using congrArg (fun o => o.getD 0) this
      have ih := ksum_at LS r s (i + 1) (by rw [← List.drop_drop, hd]; rfl) (by simpa using hl) (fun j hj => by have := hz (j + 1) (by simpa using hj); simpa using this)
      have h0 := hz 0 (by simp)
      simp only [List.getD_cons_zero] at h0
      rw [leafAt, ksum]
      split
      · rename_i hn
        have hv : 0 < v := by omega
        have e : lfSum (⟨n, i, 0, 0⟩ :: leafAt (i + 1) r) LS = 2 ^ (15 - LS.getD i 0) + lfSum (leafAt (i + 1) r) LS := by simp [lfSum]
        rw [e, ih, hi, kr, if_pos hv]
      · have hv : ¬ 0 < v := by omega
        rw [ih, kr, if_neg hv, Nat.zero_add]
structure LensOk (c ls : List Nat) : Prop where
  len : ls.length = c.length
  le : ∀ j, ls.getD j 0 ≤ 15
  zero : ∀ j, j < c.length → (ls.getD j 0 = 0 ↔ c.getD j 0 = 0)
  kraft : ksum ls ≤ 2 ^ 15
theorem getD_some {l : List Nat} {j n : Nat} (h : l[j]? = some n) : l.getD j 0 = n := by simp [List.getD_eq_getElem?_getD, h]
theorem replicate_getD (n j : Nat) : (List.replicate n 0).getD j 0 = 0 := by
  rw [List.getD_eq_getElem?_getD, List.getElem?_replicate]; split <;> rfl
theorem lensN_ok (c : List Nat) (hn : (leaves c).length ≤ 1024) : LensOk c (lensN c) := by
  have hlen := lensN_length c
  have hperm : ∀ ls, lfSum (leaves c) ls = lfSum (leafAt 0 c) ls := fun ls => ((ssort_stb (key := It.w) (leafAt 0 c)).perm.symm.map _).sum_nat
  have hout : ∀ j, j < c.length → c.getD j 0 = 0 → ∀ x ∈ leaves c, x.sym.toNat ≠ j := fun j hj h0 x hx he => by
    obtain ⟨_, i, h1, h2⟩ := leaves_mem c x hx
    have : i = j := by omega
    subst this
    have hp := lvl_pos c 0 x hx
    rw [getD_some h2] at h0; omega
  have hin : ∀ j, j < c.length → c.getD j 0 ≠ 0 → ∃ x ∈ leaves c, x.sym.toNat = j := fun j hj h0 => by
    have hg : c[j]? = some c[j] := List.getElem?_eq_getElem hj
    rw [getD_some hg] at h0
    obtain ⟨x, hx, h1, _⟩ := leaf_sym hg (by omega)
    exact ⟨x, hx, h1⟩
  rcases Nat.lt_or_ge (leaves c).length 2 with h2 | h2
  · have hE : lensN c = (leaves c).foldl (fun ls x => ls.set x.sym.toNat 1) (List.replicate c.length 0) := by unfold lensN; rw [if_pos h2]
    rcases Nat.eq_zero_or_pos (leaves c).length with h0 | h0
    · have hnil := List.eq_nil_of_length_eq_zero h0
      rw [hnil] at hE
      have hz : ∀ j, j < c.length → ((lensN c).getD j 0 = 0 ↔ c.getD j 0 = 0) := fun j hj => by
        rw [hE]
        refine ⟨fun _ => ?_, fun _ => replicate_getD ..⟩
        refine Classical.byContradiction fun hne => ?_
        obtain ⟨x, hx, _⟩ := hin j hj hne
        rw [hnil] at hx; cases hx
      refine ⟨hlen, fun j => by rw [hE]; show (List.replicate c.length 0).getD j 0 ≤ 15; rw [replicate_getD]; omega, hz, ?_⟩
      rw [← ksum_at (lensN c) c (lensN c) 0 rfl hlen hz, ← hperm, hnil]
      exact Nat.zero_le _
    · obtain ⟨x, hx⟩ := List.length_eq_one_iff.1 (by omega : (leaves c).length = 1)
      rw [hx] at hE
      have hE' : lensN c = (List.replicate c.length 0).set x.sym.toNat 1 := hE
      have hxl := (leaves_ok c).1 x (by rw [hx]; simp)
      have hg : ∀ j, (lensN c).getD j 0 = if x.sym.toNat = j then 1 else 0 := fun j => by
        rw [hE']
        by_cases h : x.sym.toNat = j
        · subst h; rw [getD_set_eq (by simpa using hxl.2), if_pos rfl]
        · rw [getD_set_ne' h, if_neg h, replicate_getD]
      have hz : ∀ j, j < c.length → ((lensN c).getD j 0 = 0 ↔ c.getD j 0 = 0) := fun j hj => by
        rw [hg]
        by_cases h : x.sym.toNat = j
        · rw [if_pos h]
          refine ⟨fun h => by omega, fun h0 => absurd h (hout j hj h0 x (by rw [hx]; simp))⟩
        · rw [if_neg h]
          refine ⟨fun _ => Classical.byContradiction fun hne => ?_, fun _ => rfl⟩
          obtain ⟨y, hy, hy2⟩ := hin j hj hne
          rw [hx] at hy; simp at hy; subst hy; exact h hy2
      refine ⟨hlen, fun j => by rw [hg]; split <;> omega, hz, ?_⟩
      rw [← ksum_at (lensN c) c (lensN c) 0 rfl hlen hz, ← hperm, hx]
      simp only [lfSum, List.map_cons, List.map_nil, List.sum_cons, List.sum_nil, hg, if_pos]
      decide
  · have hE : lensN c = down c 15 (2 * (leaves c).length - 2) (List.replicate c.length 0) := by unfold lensN; rw [if_neg (by omega)]
    have htop := nlf_top' c h2 14
    have hz : ∀ j, j < c.length → ((lensN c).getD j 0 = 0 ↔ c.getD j 0 = 0) := fun j hj => by
      rw [hE]
      refine ⟨fun h => Classical.byContradiction fun hne => ?_, fun h0 => by rw [down_out c j (hout j hj h0), replicate_getD]⟩
      obtain ⟨x, hx, hxj⟩ := hin j hj hne
      rw [down] at h
      have h1 := down_getD_le c j 14 (2 * npk ((lvl c 14).take (2 * (leaves c).length - 2))) (bumps (List.replicate c.length 0) ((lvl c 14).take (2 * (leaves c).length - 2)))
      rw [h] at h1
      rw [bumps_filter, taken_leaves, htop, List.take_length, ← hxj, bumps_in (leaves_ok c) (by simp) x hx] at h1
      omega
    refine ⟨hlen, fun j => ?_, hz, ?_⟩
    · rw [hE]
      have := down_le c j 15 (2 * (leaves c).length - 2) (List.replicate c.length 0) (by simp)
      rw [replicate_getD] at this; omega
    · rw [← ksum_at (lensN c) c (lensN c) 0 rfl hlen hz, ← hperm]
      have h := down_sum c 15 (2 * (leaves c).length - 2) (List.replicate c.length 0) (by simp) (Nat.le_refl _) (take_top c (by omega) hn) (by omega) (fun x _ => by rw [replicate_getD])
      rw [← hE, lfSum_const (l := leaves c) (ls := List.replicate c.length 0) (d := 0) (fun x _ => replicate_getD ..)] at h
      have e : (2 * (leaves c).length - 2) * 2 ^ 15 / 2 = ((leaves c).length - 1) * 2 ^ 15 := by
        rw [show 2 * (leaves c).length - 2 = 2 * ((leaves c).length - 1) by omega, Nat.mul_assoc, Nat.mul_div_cancel_left _ (by decide)]
      rw [e] at h
      have e2 : (leaves c).length * 2 ^ 15 = ((leaves c).length - 1) * 2 ^ 15 + 2 ^ 15 := by
        conv => lhs; rw [show (leaves c).length = (leaves c).length - 1 + 1 by omega]
        rw [Nat.add_mul, Nat.one_mul]
      simp only [Nat.sub_zero] at h
      omega
end Go.Kw
namespace Go.Kw
def uvF : Nat → Nat → List Nat
  | 0, v => [v % 256]
  | f + 1, v => if v < 128 then [v % 256] else (v % 256 ||| 128) :: uvF f (v / 128)
def uv (v : Nat) : List Nat := uvF 9 v
theorem uvF_succ : ∀ (f v : Nat), v < 128 ^ (f + 1) → uvF (f + 1) v = uvF f v
  | 0, v, h => by simp only [uvF]; rw [if_pos (by omega)]
  | f + 1, v, h => by
    have h2 : v / 128 < 128 ^ (f + 1) := by rw [Nat.pow_succ] at h; omega
    rw [uvF]
    conv => rhs; rw [uvF]
    rw [uvF_succ f (v / 128) h2]
theorem uv_step (v : Nat) (hv : v < 2 ^ 64) (h : 128 ≤ v) : uv v = (v % 2 ^ 8 ||| 128) :: uv (v / 2 ^ 7) := by
  unfold uv
  rw [uvF_succ 8 (v / 2 ^ 7) (by omega)]
  rw [uvF, if_neg (by omega)]
theorem uv_small (v : Nat) (h : v < 128) : uv v = [v % 2 ^ 8] := by unfold uv; rw [uvF, if_pos h]
theorem uvF_le : ∀ (f v : Nat), (uvF f v).length ≤ f + 1
  | 0, v => by simp [uvF]
  | f + 1, v => by
    rw [uvF]; split
    · simp
    · simp; exact uvF_le f _
theorem uv_le (v : Nat) : (uv v).length ≤ 10 := uvF_le 9 v
theorem uvF_pos : ∀ (f v : Nat), 1 ≤ (uvF f v).length
  | 0, v => by simp [uvF]
  | f + 1, v => by rw [uvF]; split <;> simp
theorem uv_pos (v : Nat) : 1 ≤ (uv v).length := uvF_pos 9 v
theorem uvF_lt : ∀ (f v : Nat), ∀ x ∈ uvF f v, x < 256
  | 0, v => by simp [uvF]; omega
  | f + 1, v => by
    rw [uvF]; split
    · simp; omega
    · intro x hx
      rcases List.mem_cons.1 hx with rfl | hx
      · exact Nat.or_lt_two_pow (n := 8) (by omega) (by omega)
      · exact uvF_lt f _ x hx
theorem uv_lt (v : Nat) : ∀ x ∈ uv v, x < 256 := uvF_lt 9 v
def bitv (b : Bool) (m : Nat) : Nat := if b then m else 0
def bitAt (l : List Bool) (i : Nat) : Bool := l.getD i false
def byteAt (l : List Bool) (k : Nat) : Nat :=
  bitv (bitAt l (8 * k)) 128 ||| (bitv (bitAt l (8 * k + 1)) 64 ||| (bitv (bitAt l (8 * k + 2)) 32 ||| (bitv (bitAt l (8 * k + 3)) 16 |||
    (bitv (bitAt l (8 * k + 4)) 8 ||| (bitv (bitAt l (8 * k + 5)) 4 ||| (bitv (bitAt l (8 * k + 6)) 2 ||| bitv (bitAt l (8 * k + 7)) 1))))))
def packB (l : List Bool) : List Nat := (List.range ((l.length + 7) / 8)).map (byteAt l)
theorem packB_length (l : List Bool) : (packB l).length = (l.length + 7) / 8 := by simp [packB]
theorem bitAt_snoc (l : List Bool) (x : Bool) (i : Nat) : bitAt (l ++ [x]) i = if i = l.length then x else bitAt l i := by
  unfold bitAt
  simp only [List.getD_eq_getElem?_getD]
  rcases Nat.lt_trichotomy i l.length with h | h | h
  · rw [List.getElem?_append_left h, if_neg (by omega)]
  · subst h; simp
  · rw [if_neg (by omega), List.getElem?_eq_none (by simp; omega), List.getElem?_eq_none (by omega)]
theorem bitAt_out (l : List Bool) (i : Nat) (h : l.length ≤ i) : bitAt l i = false := by
  unfold bitAt; rw [List.getD_eq_getElem?_getD, List.getElem?_eq_none h]; rfl
theorem byteAt_snoc (l : List Bool) (x : Bool) (k : Nat) : byteAt (l ++ [x]) k = if k = l.length / 8 then byteAt l k ||| bitv x (128 / 2 ^ (l.length % 8)) else byteAt l k := by
  by_cases hk : k = l.length / 8
  · rw [if_pos hk]
    have hr : l.length % 8 < 8 := Nat.mod_lt _ (by decide)
    have hn : l.length = 8 * k + l.length % 8 := by omega
    have out : ∀ j, l.length % 8 ≤ j → bitAt l (8 * k + j) = false := fun j hj => bitAt_out l _ (by omega)
    unfold byteAt
    simp only [bitAt_snoc]
    have z0 := out 0; have z1 := out 1; have z2 := out 2; have z3 := out 3; have z4 := out 4; have z5 := out 5; have z6 := out 6; have z7 := out 7
    rw [Nat.add_zero] at z0
    generalize l.length % 8 = r at *
    have hcase : r = 0 ∨ r = 1 ∨ r = 2 ∨ r = 3 ∨ r = 4 ∨ r = 5 ∨ r = 6 ∨ r = 7 := by omega
    rcases hcase with rfl | rfl | rfl | rfl | rfl | rfl | rfl | rfl <;>
      simp [hn, z0, z1, z2, z3, z4, z5, z6, z7, bitv, Nat.or_assoc]
  · rw [if_neg hk]
    have e : ∀ j, j < 8 → bitAt (l ++ [x]) (8 * k + j) = bitAt l (8 * k + j) := fun j hj => by rw [bitAt_snoc, if_neg (by omega)]
    unfold byteAt
    rw [show bitAt (l ++ [x]) (8 * k) = bitAt l (8 * k) from e 0 (by omega), e 1 (by omega), e 2 (by omega), e 3 (by omega), e 4 (by omega), e 5 (by omega), e 6 (by omega), e 7 (by omega)]
theorem byteAt_out (l : List Bool) (k : Nat) (h : l.length ≤ 8 * k) : byteAt l k = 0 := by
  unfold byteAt
  simp [bitAt_out l (8 * k) (by omega), bitAt_out l (8 * k + 1) (by omega), bitAt_out l (8 * k + 2) (by omega), bitAt_out l (8 * k + 3) (by omega), bitAt_out l (8 * k + 4) (by omega), bitAt_out l (8 * k + 5) (by omega),
    bitAt_out l (8 * k + 6) (by omega), bitAt_out l (8 * k + 7) (by omega), bitv]
theorem byteAt_lt (l : List Bool) (k : Nat) : byteAt l k < 256 := by
  have h : ∀ (b : Bool) (m : Nat), m < 256 → bitv b m < 2 ^ 8 := fun b m hm => by cases b <;> simp [bitv, hm]
  unfold byteAt
  have := fun a b (h1 : a < 2 ^ 8) (h2 : b < 2 ^ 8) => Nat.or_lt_two_pow h1 h2
  exact this _ _ (h _ _ (by decide)) (this _ _ (h _ _ (by decide)) (this _ _ (h _ _ (by decide)) (this _ _ (h _ _ (by decide)) (this _ _ (h _ _ (by decide)) (this _ _ (h _ _ (by decide)) (this _ _ (h _ _ (by decide)) (h _ _ (by decide))))))))
theorem packB_lt (l : List Bool) : ∀ x ∈ packB l, x < 256 := fun x hx => by
  obtain ⟨k, _, rfl⟩ := List.mem_map.1 hx; exact byteAt_lt l k
def roomB (l : List Bool) : List Nat := if l.length % 8 = 0 then packB l ++ [0] else packB l
theorem roomB_eq (l : List Bool) : roomB l = (List.range (l.length / 8 + 1)).map (byteAt l) := by
  unfold roomB packB
  split
  · rename_i h
    rw [show (l.length + 7) / 8 = l.length / 8 by omega, List.range_succ, List.map_append]
    simp only [List.map_cons, List.map_nil]
    rw [byteAt_out l _ (by omega)]
  · rw [show (l.length + 7) / 8 = l.length / 8 + 1 by omega]
theorem packB_snoc (l : List Bool) (x : Bool) : packB (l ++ [x]) = (List.range (l.length / 8 + 1)).map (byteAt (l ++ [x])) := by
  unfold packB
  rw [List.length_append, List.length_singleton, show (l.length + 1 + 7) / 8 = l.length / 8 + 1 by omega]
theorem packB_false (l : List Bool) : packB (l ++ [false]) = roomB l := by
  rw [packB_snoc, roomB_eq]
  apply List.map_congr_left
  intro k _
  rw [byteAt_snoc]; split <;> simp [bitv]
theorem roomB_length (l : List Bool) : (roomB l).length = l.length / 8 + 1 := by rw [roomB_eq]; simp
theorem roomB_get (l : List Bool) : (roomB l)[l.length / 8]? = some (byteAt l (l.length / 8)) := by rw [roomB_eq]; simp
theorem packB_true (l : List Bool) : packB (l ++ [true]) = (roomB l).set (l.length / 8) (byteAt l (l.length / 8) ||| 128 / 2 ^ (l.length % 8)) := by
  rw [packB_snoc, roomB_eq, List.range_succ, List.map_append, List.map_append, List.set_append_right _ _ (by simp)]
  simp only [List.map_cons, List.map_nil, List.length_map, List.length_range, Nat.sub_self, List.set_cons_zero]
  congr 1
  · apply List.map_congr_left
    intro k hk
    rw [byteAt_snoc, if_neg (by have := List.mem_range.1 hk; omega)]
  · rw [byteAt_snoc, if_pos rfl]; simp [bitv]
def lowB (x : Nat) : Nat → List Bool
  | 0 => []
  | m + 1 => decide (x / 2 ^ m % 2 ^ 1 = 1) :: lowB x m
theorem lowB_length (x : Nat) : ∀ m, (lowB x m).length = m
  | 0 => rfl
  | m + 1 => by simp [lowB, lowB_length x m]
theorem take_succ_of {α : Type} {l : List α} {k : Nat} {x : α} (h : l[k]? = some x) : l.take (k + 1) = l.take k ++ [x] := by
  rw [List.take_add_one, h]; rfl
theorem lt_of_get {α : Type} {l : List α} {k : Nat} {x : α} (h : l[k]? = some x) : k < l.length := (List.getElem?_eq_some_iff.1 h).1
theorem mem_of_get {α : Type} {l : List α} {k : Nat} {x : α} (h : l[k]? = some x) : x ∈ l := List.mem_of_getElem? h
theorem bitLenAux_le : ∀ (f v n : Nat), v < 2 ^ n → Lib.bitLenAux f v ≤ n
  | 0, _, _, _ => Nat.zero_le _
  | f + 1, v, n, h => by
    unfold Lib.bitLenAux
    split
    · exact Nat.zero_le _
    · cases n with
      | zero => simp at h; omega
      | succ n =>
        have := bitLenAux_le f (v / 2) n (by rw [Nat.pow_succ] at h; omega)
        omega
theorem bitLen_le {v n : Nat} (h : v < 2 ^ n) : Lib.bitLen v ≤ n := bitLenAux_le 64 v n h
theorem bitLenAux_fuel_le : ∀ (f v : Nat), Lib.bitLenAux f v ≤ f
  | 0, _ => Nat.le_refl _
  | f + 1, v => by unfold Lib.bitLenAux; split; · omega
                   · have := bitLenAux_fuel_le f (v / 2); omega
theorem bitLen_le64 (v : Nat) : Lib.bitLen v ≤ 64 := bitLenAux_fuel_le 64 v
end Go.Kw
