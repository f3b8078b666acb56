/-
  M07b: Huffman codes read back bit by bit, all symbols looked at for each bit. No program in sight.
-/
import Derived.Test.YtecfgjdpghddgaaGreatM15u
set_option linter.unusedVariables false
set_option linter.unusedSimpArgs false
set_option linter.unusedSectionVars false
namespace Go.Kw
def fndN (l C : List Nat) (n u : Nat) : Nat → Int
  | 0 => -1
  | j + 1 => if l.getD j 0 = n ∧ C.getD j 0 = u then (j : Int) else fndN l C n u j
def alvN (l C : List Nat) (n u : Nat) : Nat → Bool
  | 0 => false
  | j + 1 => decide ((alvN l C n u j = true) ∨ (n ≤ l.getD j 0 ∧ C.getD j 0 / 2 ^ (l.getD j 0 - n) = u))
theorem fnd_cases (l C : List Nat) (n u : Nat) : ∀ j, fndN l C n u j = -1 ∨ ∃ fx : Nat, fndN l C n u j = (fx : Int) ∧ fx < j
  | 0 => .inl rfl
  | j + 1 => by
    rw [fndN]
    split
    · exact .inr ⟨j, rfl, by omega⟩
    · rcases fnd_cases l C n u j with h | ⟨fx, h1, h2⟩
      · exact .inl h
      · exact .inr ⟨fx, h1, by omega⟩
theorem alv_le {l C : List Nat} {n u : Nat} (hb : ∀ i, lenKey l i ≤ 15) : ∀ j, alvN l C n u j = true → n ≤ 15
  | 0, h => by simp [alvN] at h
  | j + 1, h => by
    rw [alvN, decide_eq_true_eq] at h
    rcases h with h | ⟨h, _⟩
    · exact alv_le hb j h
    · exact Nat.le_trans h (hb j)
theorem lenKey_lt {l : List Nat} {x : Nat} (h : 0 < lenKey l x) : x < l.length := Classical.byContradiction fun hn => by
  unfold lenKey at h; rw [List.getD_eq_getElem?_getD, List.getElem?_eq_none (by omega)] at h; simp at h
theorem alv_true {l : List Nat} {x n : Nat} (hn : n ≤ lenKey l x) : ∀ j, x < j → alvN l (codesN l) n (cdOf l x / 2 ^ (lenKey l x - n)) j = true
  | 0, h => by omega
  | j + 1, h => by
    rw [alvN, decide_eq_true_eq]
    by_cases e : x = j
    · subst e; exact .inr ⟨hn, rfl⟩
    · exact .inl (alv_true hn j (by omega))
theorem fnd_none {l : List Nat} (h : GoodLens l) {x n : Nat} (hx : 0 < lenKey l x) (h1 : 1 ≤ n) (hn : n < lenKey l x) : ∀ j, fndN l (codesN l) n (cdOf l x / 2 ^ (lenKey l x - n)) j = -1
  | 0 => rfl
  | j + 1 => by
    rw [fndN, if_neg]
    · exact fnd_none h hx h1 hn j
    · rintro ⟨e1, e2⟩
      have hj : lenKey l j = n := e1
      obtain ⟨m, hm⟩ := grp_of (l := l) (x := j) (by omega)
      rw [hj] at hm
      exact code_free h hx hn hm e2
theorem code_one {l : List Nat} (h : GoodLens l) {x y : Nat} (hx : 0 < lenKey l x) (e1 : lenKey l y = lenKey l x) (e2 : cdOf l y = cdOf l x) : y = x := by
  obtain ⟨m, hm⟩ := grp_of hx
  obtain ⟨k, hk⟩ := grp_of (l := l) (x := y) (by omega)
  rw [e1] at hk
  have h1 := fst_code h hm; have h2 := fst_code h hk
  have : m = k := by omega
  subst this; rw [hm] at hk; exact (Option.some.inj hk).symm
theorem fnd_some {l : List Nat} (h : GoodLens l) {x : Nat} (hx : 0 < lenKey l x) : ∀ j, fndN l (codesN l) (lenKey l x) (cdOf l x) j = if x < j then (x : Int) else -1
  | 0 => rfl
  | j + 1 => by
    rw [fndN]
    split
    · rename_i hc
      have : j = x := code_one h hx hc.1 hc.2
      subst this; rw [if_pos (by omega)]
    · rename_i hc
      rw [fnd_some h hx j]
      have : j ≠ x := fun e => hc (by subst e; exact ⟨rfl, rfl⟩)
      by_cases hj : x < j
      · rw [if_pos hj, if_pos (by omega)]
      · rw [if_neg hj, if_neg (by omega)]
def HdOf (l b : List Nat) (bits count : Nat) (s : List Nat) : Prop := (∀ x ∈ s, 0 < lenKey l x) ∧ count = s.length ∧ bits = (hufB l s).length ∧ b = packB (hufB l s)
theorem hd_bv {l b s : List Nat} {bits count m x n : Nat} (h : GoodLens l) (hd : HdOf l b bits count s) (hm : s[m]? = some x) (hn : n ≤ lenKey l x) :
    bvN b (hufB l (s.take m)).length n = cdOf l x / 2 ^ (lenKey l x - n) ∧ (hufB l (s.take m)).length + lenKey l x ≤ bits := by
  obtain ⟨h1, h2, h3, h4⟩ := hd
  have hx := h1 x (List.mem_of_getElem? hm)
  have hs : s = s.take m ++ [x] ++ s.drop (m + 1) := by
    obtain ⟨hl, e⟩ := List.getElem?_eq_some_iff.1 hm
    subst e; simp
  have hb : hufB l s = hufB l (s.take m) ++ lowB (cdOf l x) (lenKey l x) ++ hufB l (s.drop (m + 1)) := by
    conv => lhs; rw [hs]
    rw [hufB_append, hufB_snoc]
  refine ⟨?_, ?_⟩
  · rw [h4, hb]; exact bvN_at _ _ _ _ (code_of h hx).2 n hn
  · rw [h3, hb]; simp only [List.length_append, lowB_length]; omega
theorem hd_next {l b s out : List Nat} {bits count fx : Nat} (hd : HdOf l b bits count s) (ho : out = s.take out.length) (hx : s[out.length]? = some fx) : out ++ [fx] = s.take (out ++ [fx]).length ∧ (hufB l (out ++ [fx])).length = (hufB l out).length + lenKey l fx := by
  refine ⟨?_, by rw [hufB_snoc, List.length_append, lowB_length]⟩
  rw [List.length_append, List.length_singleton]
  obtain ⟨hl, e⟩ := List.getElem?_eq_some_iff.1 hx
  rw [List.take_add_one, hx, ← ho]; rfl
theorem rh_step {l b s out : List Nat} {bits count at0 n j x : Nat} {fd2 : Int} (hgl : GoodLens l) (hd : HdOf l b bits count s) (hx : s[out.length]? = some x) (hE : out = s.take out.length ∧ at0 = (hufB l out).length) (h1 : n < lenKey l x) (hf2 : fd2 = fndN l (codesN l) (n + 1) (bvN b at0 (n + 1)) j) (hj : j = l.length) :
    (fd2 < 0 → n + 1 < lenKey l x) ∧ (0 ≤ fd2 → fd2 = (x : Int) ∧ n + 1 = lenKey l x) := by
  have hxp := hd.1 x (List.mem_of_getElem? hx)
  have hat0 : at0 = (hufB l (s.take out.length)).length := by rw [← hE.1]; exact hE.2
  have h2 := (hd_bv hgl hd hx (show n + 1 ≤ lenKey l x by omega)).1
  rw [← hat0] at h2
  rw [h2] at hf2
  rcases Nat.lt_or_ge (n + 1) (lenKey l x) with h3 | h3
  · rw [fnd_none hgl hxp (by omega) h3] at hf2
    exact ⟨fun _ => h3, fun h9 => by omega⟩
  · have h4 : n + 1 = lenKey l x := by omega
    rw [h4, Nat.sub_self, Nat.pow_zero, Nat.div_one, fnd_some hgl hxp, if_pos (by rw [hj]; exact lenKey_lt hxp)] at hf2
    exact ⟨fun h9 => by omega, fun _ => ⟨hf2, h4⟩⟩
theorem rh_alive {l b s out : List Nat} {bits count at0 n j x : Nat} (hgl : GoodLens l) (hd : HdOf l b bits count s) (hx : s[out.length]? = some x) (hE : out = s.take out.length ∧ at0 = (hufB l out).length) (h1 : n < lenKey l x) (hj : j = l.length) : alvN l (codesN l) (n + 1) (bvN b at0 (n + 1)) j = true := by
  have hxp := hd.1 x (List.mem_of_getElem? hx)
  have hat0 : at0 = (hufB l (s.take out.length)).length := by rw [← hE.1]; exact hE.2
  have h2 := (hd_bv hgl hd hx (show n + 1 ≤ lenKey l x by omega)).1
  rw [← hat0] at h2
  rw [h2]
  exact alv_true (by omega) j (by rw [hj]; exact lenKey_lt hxp)
theorem rh_more {l b s out : List Nat} {bits count at0 n x : Nat} (hgl : GoodLens l) (hd : HdOf l b bits count s) (hx : s[out.length]? = some x) (hE : out = s.take out.length ∧ at0 = (hufB l out).length) (h1 : n < lenKey l x) : at0 + n < bits := by
  have hat0 : at0 = (hufB l (s.take out.length)).length := by rw [← hE.1]; exact hE.2
  have h2 := (hd_bv hgl hd hx (Nat.le_refl _)).2
  omega
theorem rh_get {l b s out : List Nat} {bits count : Nat} (hd : HdOf l b bits count s) (h : out.length < count) : ∃ x, s[out.length]? = some x := ⟨_, List.getElem?_eq_getElem (by have := hd.2.1; omega)⟩
theorem rh_next {l b s out : List Nat} {bits count at0 at2 n fx : Nat} {fd : Int} (hd : HdOf l b bits count s) (hE : out = s.take out.length ∧ at0 = (hufB l out).length) (hF : ∀ x, s[out.length]? = some x → fd = (x : Int) ∧ n = lenKey l x) (hlt : out.length < count) (hfx : fd = (fx : Int)) (ha : at2 = at0 + n) :
    out ++ [fx] = s.take (out ++ [fx]).length ∧ at2 = (hufB l (out ++ [fx])).length := by
  obtain ⟨x, hx⟩ := rh_get hd hlt
  obtain ⟨h1, h2⟩ := hF x hx
  have h3 : fx = x := by omega
  subst h3
  obtain ⟨h4, h5⟩ := hd_next hd hE.1 hx
  exact ⟨h4, by rw [h5, ha, ← hE.2, h2]⟩
theorem rh_end {l b s out : List Nat} {bits count at0 : Nat} (hd : HdOf l b bits count s) (hE : out = s.take out.length ∧ at0 = (hufB l out).length) (h : ¬ out.length < count) : out = s ∧ at0 = bits := by
  have h1 := hE.1
  rw [List.take_of_length_le (by have := hd.2.1; omega)] at h1
  refine ⟨h1, ?_⟩
  rw [hE.2, h1, hd.2.2.1]
end Go.Kw
