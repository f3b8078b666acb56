/-
  Msm: plain facts on Go's merge in place. No program in sight.
-/
import Derived.Test.YtfhbflhnelbkfaaMst
namespace Go.Kw
section
variable {α : Type} {key : α → Nat}
theorem Srt.take {l : List α} (h : Srt key l) (q : Nat) : Srt key (l.take q) := List.Pairwise.sublist (List.take_sublist q l) h
theorem Srt.drop {l : List α} (h : Srt key l) (q : Nat) : Srt key (l.drop q) := List.Pairwise.sublist (List.drop_sublist q l) h
theorem Srt.left {l m : List α} (h : Srt key (l ++ m)) : Srt key l := (Srt.append.1 h).1
theorem Srt.right {l m : List α} (h : Srt key (l ++ m)) : Srt key m := (Srt.append.1 h).2.1
theorem Srt.or {l m : List α} (h : l.length = 0 ∨ m.length = 0) (hl : Srt key l) (hm : Srt key m) : Srt key (l ++ m) := by
  rcases h with h | h
  · rw [List.eq_nil_of_length_eq_zero h]; simpa using hm
  · rw [List.eq_nil_of_length_eq_zero h]; simpa using hl
/-- The last of the first ones says it for all of them. -/
theorem take_all {R : List α} {q : Nat} (hR : Srt key R) (p : Nat → Prop) (hp : ∀ u v, u ≤ v → p v → p u) (hq : q ≤ R.length) (h : 0 < q → ∀ y, R[q - 1]? = some y → p (key y)) : ∀ y ∈ R.take q, p (key y) := by
  intro y hy
  cases q with
  | zero => simp at hy
  | succ q =>
    obtain ⟨z, R', h1, h2, h3⟩ := cut_at R q (by omega)
    have hz : R[q]? = some z := by have := congrArg List.head? h1; simpa using this
    have hs := hR.take (q + 1)
    rw [h3] at hy hs
    have hpz := h (by omega) z (by simpa using hz)
    rcases List.mem_append.1 hy with hy | hy
    · exact hp _ _ ((Srt.append.1 hs).2.2 y hy z (by simp)) hpz
    · simp at hy; subst hy; exact hpz
theorem drop_all {R : List α} {q : Nat} (hR : Srt key R) (p : Nat → Prop) (hp : ∀ u v, u ≤ v → p u → p v) (h : q < R.length → ∀ y, R[q]? = some y → p (key y)) : ∀ y ∈ R.drop q, p (key y) := by
  intro y hy
  rcases Nat.lt_or_ge q R.length with hq | hq
  · obtain ⟨z, R', h1, h2, h3⟩ := cut_at R q hq
    have hz : R[q]? = some z := by have := congrArg List.head? h1; simpa using this
    have hs := hR.drop q
    rw [h1] at hy hs
    rcases List.mem_cons.1 hy with rfl | hy
    · exact h hq _ hz
    · exact hp _ _ ((List.pairwise_cons.1 hs).1 y hy) (h hq z hz)
  · rw [List.drop_of_length_le hq] at hy; simp at hy

theorem get_in {A R B : List α} {i k : Nat} (h : i = A.length + k) (hk : k < R.length) : (A ++ R ++ B)[i]? = R[k]? := by
  subst h
  rw [List.append_assoc, List.getElem?_append_right (by omega), List.getElem?_append_left (by omega)]
  congr 1; omega

theorem sym_left {l A R B : List α} {x : α} {a m i b : Nat} (hl : l = A ++ [x] ++ R ++ B) (ha : a = A.length) (hm : m = a + 1) (hb : b = m + R.length) (hmi : m ≤ i) (hib : i ≤ b)
    (lo : m < i → ∀ y, l[i - 1]? = some y → key y < key x) (hi : i < b → ∀ y, l[i]? = some y → key x ≤ key y) (hR : Srt key R) : ∃ M, shU l a (i - 1 - a) = A ++ M ++ B ∧ Srt key M ∧ Stb key ([x] ++ R) M := by
  obtain ⟨q, hq⟩ : ∃ q, q = i - m := ⟨_, rfl⟩
  have hgt : ∀ y ∈ R.take q, key y < key x := take_all hR (fun u => u < key x) (fun u v h1 h2 => by omega) (by omega) fun h y hy => lo (by omega) y (by
    rw [hl, get_in (A := A ++ [x]) (k := q - 1) (by simp; omega) (by omega)]; exact hy)
  have hge : ∀ y ∈ R.drop q, key x ≤ key y := drop_all hR (fun u => key x ≤ u) (fun u v h1 h2 => by omega) fun h y hy => hi (by omega) y (by
    rw [hl, get_in (A := A ++ [x]) (k := q) (by simp; omega) (by omega)]; exact hy)
  refine ⟨R.take q ++ [x] ++ R.drop q, ?_, ?_, ?_⟩
  · rw [hl, show A ++ [x] ++ R ++ B = A ++ x :: (R ++ B) by simp, shU_at A R B x ha _ (by omega), show i - 1 - a = q by omega]; simp
  · refine Srt.append.2 ⟨Srt.append.2 ⟨hR.take q, Srt.one x, fun y hy z hz => ?_⟩, hR.drop q, fun y hy z hz => ?_⟩
    · simp at hz; subst hz; exact Nat.le_of_lt (hgt y hy)
    · rcases List.mem_append.1 hy with hy | hy
      · exact Nat.le_trans (Nat.le_of_lt (hgt y hy)) (hge z hz)
      · simp at hy; subst hy; exact hge z hz
  · have e : [x] ++ R = ([x] ++ R.take q) ++ R.drop q := by rw [List.append_assoc, List.take_append_drop]
    rw [e]
    exact (Stb.comm fun y hy z hz => by simp at hy; subst hy; have := hgt z hz; omega).append (Stb.refl _)

theorem sym_right {l A L B : List α} {x : α} {a m i : Nat} (hl : l = A ++ L ++ [x] ++ B) (ha : a = A.length) (hm : m = a + L.length) (hai : a ≤ i) (him : i ≤ m)
    (lo : a < i → ∀ y, l[i - 1]? = some y → key y ≤ key x) (hi : i < m → ∀ y, l[i]? = some y → key x < key y) (hL : Srt key L) : ∃ M, shD l m (m - i) = A ++ M ++ B ∧ Srt key M ∧ Stb key (L ++ [x]) M := by
  obtain ⟨q, hq⟩ : ∃ q, q = i - a := ⟨_, rfl⟩
  have hl2 : l = A ++ L ++ ([x] ++ B) := by rw [hl]; simp
  have hle : ∀ y ∈ L.take q, key y ≤ key x := take_all hL (fun u => u ≤ key x) (fun u v h1 h2 => by omega) (by omega) fun h y hy => lo (by omega) y (by
    rw [hl2, get_in (k := q - 1) (by omega) (by omega)]; exact hy)
  have hgt : ∀ y ∈ L.drop q, key x < key y := drop_all hL (fun u => key x < u) (fun u v h1 h2 => by omega) fun h y hy => hi (by omega) y (by
    rw [hl2, get_in (k := q) (by omega) (by omega)]; exact hy)
  refine ⟨L.take q ++ [x] ++ L.drop q, ?_, ?_, ?_⟩
  · rw [hl, show A ++ L ++ [x] ++ B = A ++ L ++ x :: B by simp, shD_at A L B x (by omega) _ (by omega), show L.length - (m - i) = q by omega]; simp
  · refine Srt.append.2 ⟨Srt.append.2 ⟨hL.take q, Srt.one x, fun y hy z hz => ?_⟩, hL.drop q, fun y hy z hz => ?_⟩
    · simp at hz; subst hz; exact hle y hy
    · rcases List.mem_append.1 hy with hy | hy
      · exact Nat.le_trans (hle y hy) (Nat.le_of_lt (hgt z hz))
      · simp at hy; subst hy; exact Nat.le_of_lt (hgt z hz)
  · have e : L ++ [x] = L.take q ++ (L.drop q ++ [x]) := by rw [← List.append_assoc, List.take_append_drop]
    rw [e, List.append_assoc]
    exact (Stb.refl _).append (Stb.comm fun y hy z hz => by simp at hz; subst hz; have := hgt y hy; omega)

theorem sym_gen {l A L R B : List α} {a m b mid st st0 r0 : Nat} (hl : l = A ++ L ++ R ++ B) (ha : a = A.length) (hm : m = a + L.length) (hb : b = m + R.length) (hL : Srt key L) (hR : Srt key R)
    (h1 : a ≤ st) (h2 : st ≤ m) (h3 : st ≤ mid) (h4 : mid + m - st ≤ b) (hst0 : st0 = a ∨ mid + m - st0 = b) (hr0 : r0 = mid ∨ r0 = m)
    (lo : st0 < st → ∀ y z, l[mid + m - 1 - (st - 1)]? = some y → l[st - 1]? = some z → key z ≤ key y) (hi : st < r0 → ∀ y z, l[mid + m - 1 - st]? = some y → l[st]? = some z → key y < key z) (hss : st0 ≤ st) (hsr : st ≤ r0) :
    ∃ L1 L2 R1 R2, L = L1 ++ L2 ∧ R = R1 ++ R2 ∧ L1.length = st - a ∧ L2.length = m - st ∧ R1.length = mid - st ∧ R2.length = b - (mid + m - st) ∧ (∀ z ∈ L2, ∀ y ∈ R1, key z ≠ key y) ∧ (∀ z ∈ L1 ++ R1, ∀ y ∈ L2 ++ R2, key z ≤ key y) := by
  obtain ⟨q, hq⟩ : ∃ q, q = st - a := ⟨_, rfl⟩
  obtain ⟨t, ht⟩ : ∃ t, t = mid - st := ⟨_, rfl⟩
  have hl2 : l = A ++ L ++ (R ++ B) := by rw [hl]; simp
  have hlo : ∀ z ∈ L.take q, ∀ y ∈ R.drop t, key z ≤ key y := by
    intro z hz y hy
    have hq0 : 0 < q := by cases q <;> simp at hz ⊢
    have ht0 : t < R.length := by
      rcases Nat.lt_or_ge t R.length with h | h
      · exact h
      · rw [List.drop_of_length_le h] at hy; simp at hy
    obtain ⟨u, hu⟩ : ∃ u, L[q - 1]? = some u := ⟨_, List.getElem?_eq_getElem (by omega)⟩
    obtain ⟨v, hv⟩ : ∃ v, R[t]? = some v := ⟨_, List.getElem?_eq_getElem ht0⟩
    have huv : key u ≤ key v := lo (by omega) v u (by rw [hl, get_in (A := A ++ L) (k := t) (by simp; omega) ht0]; exact hv) (by rw [hl2, get_in (k := q - 1) (by omega) (by omega)]; exact hu)
    have e1 := take_all hL (fun x => x ≤ key v) (fun _ _ h1 h2 => Nat.le_trans h1 h2) (by omega) (fun _ y hy => by rw [hu] at hy; cases hy; exact huv) z hz
    exact drop_all hR (fun x => key z ≤ x) (fun _ _ h1 h2 => Nat.le_trans h2 h1) (fun _ y hy => by rw [hv] at hy; cases hy; exact e1) y hy
  have hhi : ∀ y ∈ R.take t, ∀ z ∈ L.drop q, key y < key z := by
    intro y hy z hz
    have ht0 : 0 < t := by cases t <;> simp at hy ⊢
    have hq0 : q < L.length := by
      rcases Nat.lt_or_ge q L.length with h | h
      · exact h
      · rw [List.drop_of_length_le h] at hz; simp at hz
    obtain ⟨u, hu⟩ : ∃ u, R[t - 1]? = some u := ⟨_, List.getElem?_eq_getElem (by omega)⟩
    obtain ⟨v, hv⟩ : ∃ v, L[q]? = some v := ⟨_, List.getElem?_eq_getElem hq0⟩
    have huv : key u < key v := hi (by omega) u v (by rw [hl, get_in (A := A ++ L) (k := t - 1) (by simp; omega) (by omega)]; exact hu) (by rw [hl2, get_in (k := q) (by omega) (by omega)]; exact hv)
    have e1 := take_all hR (fun x => x < key v) (fun _ _ h1 h2 => Nat.lt_of_le_of_lt h1 h2) (by omega) (fun _ y hy => by rw [hu] at hy; cases hy; exact huv) y hy
    exact drop_all hL (fun x => key y < x) (fun _ _ h1 h2 => Nat.lt_of_lt_of_le h2 h1) (fun _ y hy => by rw [hv] at hy; cases hy; exact e1) z hz
  refine ⟨L.take q, L.drop q, R.take t, R.drop t, (List.take_append_drop ..).symm, (List.take_append_drop ..).symm, by simp; omega, by simp; omega, by simp; omega, by simp; omega, fun z hz y hy => by have := hhi y hy z hz; omega, fun z hz y hy => ?_⟩
  have hL2 : Srt key (L.take q ++ L.drop q) := by rw [List.take_append_drop]; exact hL
  have hR2 : Srt key (R.take t ++ R.drop t) := by rw [List.take_append_drop]; exact hR
  rcases List.mem_append.1 hz with hz | hz <;> rcases List.mem_append.1 hy with hy | hy
  · exact (Srt.append.1 hL2).2.2 z hz y hy
  · exact hlo z hz y hy
  · exact Nat.le_of_lt (hhi z hz y hy)
  · exact (Srt.append.1 hR2).2.2 z hz y hy

theorem sym_fin {L L1 L2 R R1 R2 M1 M2 : List α} (hL : L = L1 ++ L2) (hR : R = R1 ++ R2) (h1 : ∀ z ∈ L2, ∀ y ∈ R1, key z ≠ key y) (h2 : ∀ z ∈ L1 ++ R1, ∀ y ∈ L2 ++ R2, key z ≤ key y)
    (m1 : Srt key M1) (m2 : Srt key M2) (s1 : Stb key (L1 ++ R1) M1) (s2 : Stb key (L2 ++ R2) M2) : Srt key (M1 ++ M2) ∧ Stb key (L ++ R) (M1 ++ M2) := by
  refine ⟨Srt.append.2 ⟨m1, m2, fun z hz y hy => h2 z (s1.mem.2 hz) y (s2.mem.2 hy)⟩, ?_⟩
  have e : L ++ R = L1 ++ (L2 ++ R1) ++ R2 := by rw [hL, hR]; simp
  have e2 : Stb key (L1 ++ (L2 ++ R1) ++ R2) (L1 ++ (R1 ++ L2) ++ R2) := Stb.mid (Stb.comm h1)
  rw [e]
  refine e2.trans ?_
  rw [show L1 ++ (R1 ++ L2) ++ R2 = (L1 ++ R1) ++ (L2 ++ R2) by simp]
  exact s1.append s2

theorem blk_step {bs : Nat} {l Pre Suf : List α} (hF : Full key bs Pre) (hT : Stb key l (Pre ++ Suf)) (h : bs ≤ Suf.length) :
    ∃ S', insS key Pre.length (Pre ++ Suf) (Pre.length + bs - Pre.length - 1) = Pre ++ S' ++ Suf.drop bs ∧ Full key bs (Pre ++ S') ∧ Stb key l (Pre ++ S' ++ Suf.drop bs) ∧ S'.length = bs := by
  have hl : (Suf.take bs).length = bs := by simp; omega
  obtain ⟨S', h1, h2, h3⟩ := insS_all (key := key) Pre (Suf.take bs) (Suf.drop bs) (a := Pre.length) (n := Pre.length + bs - Pre.length - 1) rfl (by omega)
  rw [List.append_assoc, List.take_append_drop] at h1
  refine ⟨S', h1, .snoc _ _ hF (by rw [← h3.length]; exact hl) h2, hT.trans ?_, by rw [← h3.length]; exact hl⟩
  have e : Pre ++ Suf = Pre ++ Suf.take bs ++ Suf.drop bs := by rw [List.append_assoc, List.take_append_drop]
  rw [e]; exact Stb.mid h3
theorem blk_end {bs n : Nat} {l Pre Suf : List α} (hF : Full key bs Pre) (hT : Stb key l (Pre ++ Suf)) (h : Suf.length < bs) (hn : n = l.length) :
    Blks key bs (insS key Pre.length (Pre ++ Suf) (n - Pre.length - 1)) ∧ Stb key l (insS key Pre.length (Pre ++ Suf) (n - Pre.length - 1)) := by
  have hl := hT.length
  rw [List.length_append] at hl
  obtain ⟨S', h1, h2, h3⟩ := insS_all (key := key) Pre Suf [] (a := Pre.length) (n := n - Pre.length - 1) rfl (by omega)
  simp only [List.append_nil] at h1
  rw [h1]
  exact ⟨hF.blks (.last _ (by rw [← h3.length]; omega) h2), hT.trans ((Stb.refl _).append h3)⟩
theorem mrg_step {bs : Nat} {l Pre Suf L R B M : List α} (hF : Full key (2 * bs) Pre) (hT : Stb key l (Pre ++ Suf)) (hS : Suf = L ++ R ++ B) (hL : L.length = bs) (hR : R.length = bs) (hM : Srt key M) (hS' : Stb key (L ++ R) M) :
    Full key (2 * bs) (Pre ++ M) ∧ Stb key l (Pre ++ M ++ B) ∧ M.length = 2 * bs := by
  have hl := hS'.length
  rw [List.length_append] at hl
  refine ⟨.snoc _ _ hF (by omega) hM, hT.trans ?_, by omega⟩
  have e : Pre ++ Suf = Pre ++ (L ++ R) ++ B := by rw [hS]; simp
  rw [e]; exact Stb.mid hS'
theorem mrg_fin {bs : Nat} {l Pre Suf L R M : List α} (hF : Full key (2 * bs) Pre) (hT : Stb key l (Pre ++ Suf)) (hS : Suf = L ++ R) (hl2 : Suf.length < 2 * bs) (hM : Srt key M) (hS' : Stb key (L ++ R) M) :
    Blks key (bs * 2) (Pre ++ M ++ []) ∧ Stb key l (Pre ++ M ++ []) := by
  have hl := hS'.length
  rw [← hS] at hl
  rw [List.append_nil, Nat.mul_comm bs 2]
  refine ⟨hF.blks (.last _ (by omega) hM), hT.trans ?_⟩
  rw [hS]; exact (Stb.refl _).append hS'
theorem mrg_none {bs : Nat} {Pre Suf : List α} (hF : Full key (2 * bs) Pre) (hB : Blks key bs Suf) (h : Suf.length ≤ bs) : Blks key (bs * 2) (Pre ++ Suf) := by
  rw [Nat.mul_comm]; exact hF.blks (.last _ (by omega) (hB.srt h))
end
end Go.Kw
