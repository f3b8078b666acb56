/-
  M14q: the package merge of the reference gives the lengths of the program. No program in sight.
-/
import Derived.Test.YtecfgjdpghddgaaGreatM14p
set_option linter.unusedVariables false
set_option linter.unusedSimpArgs false
set_option linter.unusedSectionVars false
namespace Go.Kw
variable {α β : Type}
theorem insK_map (f : α → β) (key : β → Nat) (x : α) : ∀ l : List α, (insK (fun a => key (f a)) x l).map f = insK key (f x) (l.map f)
  | [] => rfl
  | y :: r => by
    rw [insK, List.map_cons, insK]
    split
    · rfl
    · rw [List.map_cons, insK_map f key x r]
theorem ssort_map (f : α → β) (key : β → Nat) : ∀ l : List α, (ssort (fun a => key (f a)) l).map f = ssort key (l.map f)
  | [] => rfl
  | x :: r => by rw [ssort, insK_map, ssort_map f key r]; rfl
theorem sum_split (f : α → Nat) (p : α → Bool) : ∀ l : List α, (l.map f).sum = ((l.filter p).map f).sum + ((l.filter fun x => !p x).map f).sum
  | [] => rfl
  | x :: r => by
    have ih := sum_split f p r
    cases h : p x <;> simp [List.filter_cons, h, ih] <;> omega
def unitN (n s : Nat) : List Nat := (List.replicate n 0).set s 1
def eIt (n : Nat) (x : It) : Nat × List Nat := (x.w, unitN n x.sym.toNat)
def vadd (a b : List Nat) : List Nat := List.zipWith (· + ·) a b
def epk : List (Nat × List Nat) → List (Nat × List Nat)
  | x :: y :: r => (x.1 + y.1, vadd x.2 y.2) :: epk r
  | _ => []
def leE (x y : Nat × List Nat) : Bool := decide (x.1 ≤ y.1)
def emrg (a b : List (Nat × List Nat)) : List (Nat × List Nat) := a.merge b leE
def eLv (c : List Nat) : Nat → List (Nat × List Nat)
  | 0 => (leaves c).map (eIt c.length)
  | k + 1 => emrg ((leaves c).map (eIt c.length)) (epk (eLv c k))
def cpk : Nat → List (It × List Nat) → List (It × List Nat)
  | i, x :: y :: r => (⟨x.1.w + y.1.w, -1, i, i + 1⟩, vadd x.2 y.2) :: cpk (i + 2) r
  | _, _ => []
def cL0 (c : List Nat) : List (It × List Nat) := (leaves c).map fun x => (x, unitN c.length x.sym.toNat)
def cLv (c : List Nat) : Nat → List (It × List Nat)
  | 0 => cL0 c
  | k + 1 => ssort (fun p => p.1.w) (cL0 c ++ cpk 0 (cLv c k))
def toE (p : It × List Nat) : Nat × List Nat := (p.1.w, p.2)
theorem cpk_fst : ∀ (i : Nat) (l : List (It × List Nat)), (cpk i l).map Prod.fst = pkgAt i (l.map Prod.fst)
  | i, [] => by simp [cpk, pkgAt]
  | i, [x] => by simp [cpk, pkgAt]
  | i, x :: y :: r => by simp only [cpk, List.map_cons, pkgAt, cpk_fst (i + 2) r]
theorem cpk_E : ∀ (i : Nat) (l : List (It × List Nat)), (cpk i l).map toE = epk (l.map toE)
  | i, [] => by simp [cpk, epk]
  | i, [x] => by simp [cpk, epk]
  | i, x :: y :: r => by simp only [cpk, List.map_cons, epk, cpk_E (i + 2) r]; rfl
theorem cL0_fst (c : List Nat) : (cL0 c).map Prod.fst = leaves c := by simp [cL0, Function.comp_def]
theorem cL0_E (c : List Nat) : (cL0 c).map toE = (leaves c).map (eIt c.length) := by simp [cL0, Function.comp_def, toE, eIt]
theorem cLv_fst (c : List Nat) : ∀ k, (cLv c k).map Prod.fst = lvl c k
  | 0 => cL0_fst c
  | k + 1 => by
    rw [cLv, ssort_map Prod.fst It.w, List.map_append, cL0_fst, cpk_fst, cLv_fst c k]; rfl
theorem Srt.of_map {f : α → β} {key : β → Nat} {l : List α} : Srt key (l.map f) ↔ Srt (fun a => key (f a)) l := by unfold Srt; rw [List.pairwise_map]
theorem emrg_eq : ∀ (a b : List (Nat × List Nat)), Srt Prod.fst a → Srt Prod.fst b → emrg a b = ssort Prod.fst (a ++ b)
  | [], b, _, hb => by rw [List.nil_append, ssort_id hb]; simp [emrg]
  | x :: a, [], ha, _ => by rw [List.append_nil, ssort_id ha]; simp [emrg]
  | x :: a, y :: b, ha, hb => by
    have ha' := List.pairwise_cons.1 ha
    have hb' := List.pairwise_cons.1 hb
    by_cases h : x.1 ≤ y.1
    · have e : leE x y = true := decide_eq_true h
      rw [emrg, List.cons_merge_cons_pos (h := e)]
      have ih := emrg_eq a (y :: b) ha'.2 hb
      rw [emrg] at ih
      rw [ih]
      refine ssort_eq ?_ ?_
      · refine List.pairwise_cons.2 ⟨fun z hz => ?_, ssort_srt _⟩
        rcases List.mem_append.1 ((ssort_stb _).mem.2 hz) with hz | hz
        · exact ha'.1 z hz
        · rcases List.mem_cons.1 hz with rfl | hz
          · exact h
          · exact Nat.le_trans h (hb'.1 z hz)
      · rw [List.cons_append]
        exact Stb.append (Stb.refl [x]) (ssort_stb _)
    · have e : ¬ leE x y = true := by simp [leE]; omega
      rw [emrg, List.cons_merge_cons_neg (h := e)]
      have ih := emrg_eq (x :: a) b ha hb'.2
      rw [emrg] at ih
      rw [ih]
      refine ssort_eq ?_ ?_
      · refine List.pairwise_cons.2 ⟨fun z hz => ?_, ssort_srt _⟩
        rcases List.mem_append.1 ((ssort_stb _).mem.2 hz) with hz | hz
        · rcases List.mem_cons.1 hz with rfl | hz
          · omega
          · have := ha'.1 z hz; omega
        · exact hb'.1 z hz
      · have h1 : Stb Prod.fst ((x :: a) ++ [y]) ([y] ++ (x :: a)) := Stb.comm fun z hz q hq => by
          have hq' : q = y := by simpa using hq
          subst hq'
          rcases List.mem_cons.1 hz with rfl | hz
          · omega
          · have := ha'.1 z hz; omega
        have h2 := Stb.append h1 (Stb.refl b)
        have h3 := Stb.append (Stb.refl (key := Prod.fst) [y]) (ssort_stb (key := Prod.fst) ((x :: a) ++ b))
        rw [show x :: a ++ y :: b = (x :: a) ++ [y] ++ b by simp]
        refine h2.trans ?_
        rw [show [y] ++ (x :: a) ++ b = [y] ++ ((x :: a) ++ b) by simp]
        exact h3
termination_by a b => a.length + b.length
theorem cLv_E (c : List Nat) : ∀ k, (cLv c k).map toE = eLv c k
  | 0 => cL0_E c
  | k + 1 => by
    have h0 : Srt Prod.fst ((cL0 c).map toE) := by
      rw [Srt.of_map]
      have := ssort_srt (key := It.w) (leafAt 0 c)
      have e : leaves c = (cL0 c).map Prod.fst := (cL0_fst c).symm
      have h : Srt It.w (leaves c) := this
      rw [e, Srt.of_map] at h; exact h
    have h1 : Srt Prod.fst ((cpk 0 (cLv c k)).map toE) := by
      rw [Srt.of_map]
      have h : Srt It.w ((cpk 0 (cLv c k)).map Prod.fst) := by rw [cpk_fst, cLv_fst]; exact pkgAt_srt 0 _ (lvl_srt c k)
      rw [Srt.of_map] at h; exact h
    have e := ssort_map toE Prod.fst (cL0 c ++ cpk 0 (cLv c k))
    rw [cLv]
    refine e.trans ?_
    rw [List.map_append, ← emrg_eq _ _ h0 h1, cpk_E, cLv_E c k, cL0_E]; rfl
def tot (l : List (List Nat)) (j : Nat) : Nat := (l.map fun o => o.getD j 0).sum
def cnt (xs : List It) (j : Nat) : Nat := (xs.map fun x => if x.sym = (j : Int) then 1 else 0).sum
theorem unitN_get {n s j : Nat} (hs : s < n) (hj : j < n) : (unitN n s).getD j 0 = if s = j then 1 else 0 := by
  unfold unitN
  rw [List.getD_eq_getElem?_getD, List.getElem?_set]
  split
  · simp [hs, *]
  · simp [hj]
theorem unitN_length (n s : Nat) : (unitN n s).length = n := by simp [unitN]
theorem bump_get {ls : List Nat} {x : It} {j : Nat} (hj : j < ls.length) : (bump ls x).getD j 0 = ls.getD j 0 + if x.sym = (j : Int) then 1 else 0 := by
  unfold bump
  split
  · rename_i h
    rw [List.getD_eq_getElem?_getD, List.getElem?_set]
    by_cases e : x.sym.toNat = j
    · rw [if_pos e, if_pos (by omega), if_pos (by omega), e]; rfl
    · rw [if_neg e, if_neg (by omega), ← List.getD_eq_getElem?_getD]; rfl
  · rw [if_neg (by omega)]; rfl
theorem bumps_get : ∀ (xs : List It) (ls : List Nat) {j : Nat}, j < ls.length → (bumps ls xs).getD j 0 = ls.getD j 0 + cnt xs j
  | [], ls, j, _ => by simp [bumps, cnt]
  | x :: r, ls, j, hj => by
    have ih := bumps_get r (bump ls x) (j := j) (by rw [bump_length]; exact hj)
    rw [show bumps ls (x :: r) = bumps (bump ls x) r from rfl, ih, bump_get hj]
    simp [cnt]; omega
theorem down_get (c : List Nat) {j : Nat} : ∀ (k t : Nat) (ls : List Nat), j < ls.length → (down c k t ls).getD j 0 = ls.getD j 0 + (down c k t (List.replicate ls.length 0)).getD j 0
  | 0, t, ls, hj => by simp [down, hj]
  | k + 1, t, ls, hj => by
    have h1 := down_get c k (2 * npk ((lvl c k).take t)) (bumps ls ((lvl c k).take t)) (by rw [bumps_length]; exact hj)
    have h2 := down_get c k (2 * npk ((lvl c k).take t)) (bumps (List.replicate ls.length 0) ((lvl c k).take t)) (by rw [bumps_length]; simpa using hj)
    rw [bumps_length, bumps_get _ _ hj] at h1
    rw [bumps_length, bumps_get _ _ (by simpa using hj), List.length_replicate] at h2
    rw [down, down, h1, h2]
    simp [hj]; omega
theorem vadd_get {a b : List Nat} {n j : Nat} (ha : a.length = n) (hb : b.length = n) : (vadd a b).getD j 0 = a.getD j 0 + b.getD j 0 := by
  unfold vadd
  simp only [List.getD_eq_getElem?_getD, List.getElem?_zipWith]
  rcases Nat.lt_or_ge j n with h | h
  · rw [List.getElem?_eq_getElem (by omega), List.getElem?_eq_getElem (by omega)]; rfl
  · rw [List.getElem?_eq_none (by omega), List.getElem?_eq_none (by omega)]; rfl
theorem vadd_length {a b : List Nat} {n : Nat} (ha : a.length = n) (hb : b.length = n) : (vadd a b).length = n := by simp [vadd, ha, hb]
theorem epk_mem : ∀ (l : List (Nat × List Nat)), ∀ e ∈ epk l, ∃ x ∈ l, ∃ y ∈ l, e = (x.1 + y.1, vadd x.2 y.2)
  | [], e, h => by simp [epk] at h
  | [x], e, h => by simp [epk] at h
  | x :: y :: r, e, h => by
    rcases List.mem_cons.1 (by rw [epk] at h; exact h) with rfl | h
    · exact ⟨x, by simp, y, by simp, rfl⟩
    · obtain ⟨a, ha, b, hb, he⟩ := epk_mem r e h
      exact ⟨a, by simp [ha], b, by simp [hb], he⟩
theorem emrg_mem {a b : List (Nat × List Nat)} {e : Nat × List Nat} : e ∈ emrg a b ↔ e ∈ a ∨ e ∈ b := by rw [emrg, (List.merge_perm_append leE).mem_iff, List.mem_append]
theorem eLv_len (c : List Nat) : ∀ k, ∀ e ∈ eLv c k, e.2.length = c.length
  | 0, e, h => by obtain ⟨x, _, rfl⟩ := List.mem_map.1 h; exact unitN_length _ _
  | k + 1, e, h => by
    rcases emrg_mem.1 h with h | h
    · obtain ⟨x, _, rfl⟩ := List.mem_map.1 h; exact unitN_length _ _
    · obtain ⟨x, hx, y, hy, rfl⟩ := epk_mem _ e h
      exact vadd_length (eLv_len c k x hx) (eLv_len c k y hy)
theorem eLv_le (c : List Nat) : ∀ k, ∀ e ∈ eLv c k, ∀ y ∈ e.2, y ≤ 2 ^ k := by
  have h0 : ∀ e ∈ (leaves c).map (eIt c.length), ∀ y ∈ e.2, y ≤ 1 := fun e h y hy => by
    obtain ⟨x, _, rfl⟩ := List.mem_map.1 h
    rcases List.mem_or_eq_of_mem_set hy with h | h
    · have := List.eq_of_mem_replicate h; omega
    · omega
  intro k
  induction k with
  | zero => exact h0
  | succ k ih =>
    intro e h y hy
    rcases emrg_mem.1 h with h | h
    · have := h0 e h y hy; have := Nat.one_le_two_pow (n := k + 1); omega
    · obtain ⟨a, ha, b, hb, rfl⟩ := epk_mem _ e h
      obtain ⟨i, hi, rfl⟩ := List.mem_iff_getElem.1 hy
      have hi' := hi
      simp only [vadd, List.length_zipWith] at hi'
      have e1 : (vadd a.2 b.2)[i] = a.2[i]'(by omega) + b.2[i]'(by omega) := by simp [vadd]
      have h1 := ih a ha _ (List.getElem_mem (l := a.2) (n := i) (by omega))
      have h2 := ih b hb _ (List.getElem_mem (l := b.2) (n := i) (by omega))
      show (vadd a.2 b.2)[i] ≤ _
      rw [e1, Nat.pow_succ]; omega
theorem cLv_len (c : List Nat) (k : Nat) : ∀ p ∈ cLv c k, p.2.length = c.length := fun p hp => by
  have : toE p ∈ eLv c k := by rw [← cLv_E]; exact List.mem_map_of_mem hp
  exact eLv_len c k _ this
theorem cpk_tot {n : Nat} (j : Nat) : ∀ (m i : Nat) (l : List (It × List Nat)), (∀ p ∈ l, p.2.length = n) → 2 * m ≤ l.length → tot (((cpk i l).take m).map Prod.snd) j = tot ((l.take (2 * m)).map Prod.snd) j
  | 0, i, l, _, _ => by simp [tot]
  | m + 1, i, [], _, h => by simp at h
  | m + 1, i, [x], _, h => by simp at h; omega
  | m + 1, i, x :: y :: r, hl, h => by
    have ih := cpk_tot j m (i + 2) r (fun p hp => hl p (by simp [hp])) (by simp at h; omega)
    rw [show 2 * (m + 1) = 2 * m + 1 + 1 by omega, cpk]
    simp only [List.take_succ_cons, List.map_cons]
    have hv := vadd_get (j := j) (hl x (by simp)) (hl y (by simp))
    unfold tot at ih ⊢
    simp only [List.map_cons, List.sum_cons, hv, ih]
    omega
theorem cLv_filter (c : List Nat) (k : Nat) : (cLv c k).filter (fun p => isLf p.1) = cL0 c ∧ (cLv c (k + 1)).filter (fun p => isPk p.1) = cpk 0 (cLv c k) := by
  have hl : ∀ p ∈ cL0 c, 0 ≤ p.1.sym := fun p hp => by
    obtain ⟨x, hx, rfl⟩ := List.mem_map.1 hp; exact leaves_sym c x hx
  have hp : ∀ (k : Nat), ∀ p ∈ cpk 0 (cLv c k), p.1.sym = -1 := fun k p hp => by
    have : p.1 ∈ pkgAt 0 (lvl c k) := by rw [← cLv_fst, ← cpk_fst]; exact List.mem_map_of_mem hp
    exact pkgAt_sym 0 _ _ this
  have s0 : Srt (fun p : It × List Nat => p.1.w) (cL0 c) := by
    have h : Srt It.w (leaves c) := ssort_srt _
    rw [← cL0_fst, Srt.of_map] at h; exact h
  have s1 : Srt (fun p : It × List Nat => p.1.w) (cpk 0 (cLv c k)) := by
    have h : Srt It.w ((cpk 0 (cLv c k)).map Prod.fst) := by rw [cpk_fst, cLv_fst]; exact pkgAt_srt 0 _ (lvl_srt c k)
    rw [Srt.of_map] at h; exact h
  have f0 : (cL0 c).filter (fun p => isLf p.1) = cL0 c := List.filter_eq_self.2 fun p h => by have := hl p h; simp [isLf, this]
  constructor
  · cases k with
    | zero => exact f0
    | succ k =>
      rw [cLv, ssort_filter, List.filter_append, f0, List.filter_eq_nil_iff.2, List.append_nil, ssort_id s0]
      intro p h; have := hp k p h; simp [isLf, this]
  · rw [cLv, ssort_filter, List.filter_append, List.filter_eq_nil_iff.2, List.nil_append, List.filter_eq_self.2, ssort_id s1]
    · intro p h; have := hp k p h; simp [isPk, this]
    · intro p h; have := hl p h; simp [isPk]; omega
theorem cL0_cnt (c : List Nat) {j : Nat} (hj : j < c.length) : ∀ (l : List (It × List Nat)), (∀ p ∈ l, p ∈ cL0 c) → tot (l.map Prod.snd) j = cnt (l.map Prod.fst) j
  | [], _ => by simp [tot, cnt]
  | p :: r, h => by
    have ih := cL0_cnt c hj r fun q hq => h q (by simp [hq])
    obtain ⟨x, hx, rfl⟩ := List.mem_map.1 (h p (by simp))
    obtain ⟨_, s, hs, hc⟩ := leaves_mem c x hx
    have hs2 := (List.getElem?_eq_some_iff.1 hc).1
    have hu := unitN_get (n := c.length) (s := s) (j := j) hs2 hj
    unfold tot cnt at ih ⊢
    simp only [List.map_cons, List.sum_cons, ih, hs, Int.toNat_natCast, hu]
    congr 1
    by_cases e : s = j
    · rw [if_pos e, if_pos (by omega)]
    · rw [if_neg e, if_neg (by omega)]
theorem cnt_split (xs : List It) (j : Nat) : cnt xs j = cnt (xs.filter isLf) j := by
  unfold cnt
  rw [sum_split _ isLf xs]
  have : ((xs.filter fun x => !isLf x).map fun x => if x.sym = (j : Int) then 1 else 0).sum = 0 := by
    rw [List.sum_eq_zero_iff_forall_eq_nat]
    intro a ha
    obtain ⟨x, hx, rfl⟩ := List.mem_map.1 ha
    have := (List.mem_filter.1 hx).2
    simp [isLf] at this
    rw [if_neg (by omega)]
  omega
theorem tot_down (c : List Nat) {j : Nat} (hj : j < c.length) : ∀ (k t : Nat), tot (((cLv c k).take t).map Prod.snd) j = (down c (k + 1) t (List.replicate c.length 0)).getD j 0
  | 0, t => by
    rw [down, down, bumps_get _ _ (by simpa using hj), cLv, cL0_cnt c hj _ (fun p hp => List.mem_of_mem_take hp), List.map_take, cL0_fst]
    simp [hj, lvl]
  | k + 1, t => by
    have hf : ((cLv c (k + 1)).take t).map Prod.fst = (lvl c (k + 1)).take t := by rw [List.map_take, cLv_fst]
    have hsp := sum_split (fun p : It × List Nat => p.2.getD j 0) (fun p => isLf p.1) ((cLv c (k + 1)).take t)
    have e1 : ∀ l : List (It × List Nat), tot (l.map Prod.snd) j = (l.map fun p => p.2.getD j 0).sum := fun l => by simp [tot, Function.comp_def]
    have hneg : ((cLv c (k + 1)).take t).filter (fun p => !isLf p.1) = ((cLv c (k + 1)).take t).filter (fun p => isPk p.1) := List.filter_congr fun p _ => by
      simp only [isLf, isPk]
      rcases Int.lt_or_le p.1.sym 0 with h | h
      · simp [h]
      · have : ¬ p.1.sym < 0 := by omega
        simp [h]
    have hpk : ((cLv c (k + 1)).take t).filter (fun p => isPk p.1) = (cpk 0 (cLv c k)).take (npk ((lvl c (k + 1)).take t)) := by
      rw [filter_take_prefix, (cLv_filter c k).2, ← hf, npk, List.countP_map]; rfl
    have hlf : tot ((((cLv c (k + 1)).take t).filter fun p => isLf p.1).map Prod.snd) j = cnt ((lvl c (k + 1)).take t) j := by
      rw [cL0_cnt c hj, cnt_split ((lvl c (k + 1)).take t), ← hf, List.filter_map]; rfl
      intro p hp
      have h1 := List.mem_filter.1 hp
      rw [← (cLv_filter c (k + 1)).1]
      exact List.mem_filter.2 ⟨List.mem_of_mem_take h1.1, h1.2⟩
    have hm : 2 * npk ((lvl c (k + 1)).take t) ≤ (cLv c k).length := by
      have := take_down c k t
      have h2 := congrArg List.length (cLv_fst c k)
      rw [List.length_map] at h2; omega
    have ih := tot_down c hj k (2 * npk ((lvl c (k + 1)).take t))
    rw [e1, hsp, hneg, hpk, ← e1, ← e1, hlf, cpk_tot j _ 0 _ (cLv_len c k) hm, ih]
    have hd := down_get c (j := j) (k + 1) (2 * npk ((lvl c (k + 1)).take t)) (bumps (List.replicate c.length 0) ((lvl c (k + 1)).take t)) (by rw [bumps_length]; simpa using hj)
    rw [bumps_length, List.length_replicate, bumps_get _ _ (by simpa using hj)] at hd
    have hd0 : down c (k + 1 + 1) t (List.replicate c.length 0) = down c (k + 1) (2 * npk ((lvl c (k + 1)).take t)) (bumps (List.replicate c.length 0) ((lvl c (k + 1)).take t)) := rfl
    rw [hd0, hd]; simp [hj]
theorem lens_ref (c : List Nat) (h2 : 2 ≤ (leaves c).length) {j : Nat} (hj : j < c.length) : tot (((eLv c 14).take (2 * (leaves c).length - 2)).map Prod.snd) j = (lensN c).getD j 0 := by
  have h := tot_down c hj 14 (2 * (leaves c).length - 2)
  have e : ((cLv c 14).take (2 * (leaves c).length - 2)).map Prod.snd = ((eLv c 14).take (2 * (leaves c).length - 2)).map Prod.snd := by
    rw [← cLv_E, ← List.map_take, List.map_map]; rfl
  rw [← e, h, lensN, if_neg (by omega)]
def wo (x : RI) : Nat × List Nat := (x.w, x.occ)
theorem mrgR_wo (a b : List RI) : (mrgR a b).map wo = emrg (a.map wo) (b.map wo) := List.map_merge fun _ _ _ _ => rfl
theorem ssort_snoc {key : α → Nat} {l : List α} {x : α} {j : Nat} (hlo : ∀ y ∈ (ssort key l).take j, key y ≤ key x) (hhi : ∀ y ∈ (ssort key l).drop j, key x < key y) :
    ssort key (l ++ [x]) = (ssort key l).take j ++ [x] ++ (ssort key l).drop j := by
  have hs := ssort_srt (key := key) l
  rw [← List.take_append_drop j (ssort key l)] at hs
  obtain ⟨h1, h2, h3⟩ := Srt.append.1 hs
  refine (ssort_eq ?_ ?_).symm
  · refine Srt.append.2 ⟨Srt.append.2 ⟨h1, Srt.one x, fun y hy z hz => ?_⟩, h2, fun y hy z hz => ?_⟩
    · have : z = x := by simpa using hz
      subst this; exact hlo y hy
    · rcases List.mem_append.1 hy with hy | hy
      · exact h3 y hy z hz
      · have : y = x := by simpa using hy
        subst this; have := hhi z hz; omega
  · have e1 : Stb key (l ++ [x]) (ssort key l ++ [x]) := Stb.append (ssort_stb l) (Stb.refl _)
    have e2 : ssort key l ++ [x] = (ssort key l).take j ++ ((ssort key l).drop j ++ [x]) := by
      rw [← List.append_assoc, List.take_append_drop]
    rw [e2] at e1
    refine e1.trans ?_
    rw [List.append_assoc]
    refine Stb.append (Stb.refl _) (Stb.comm fun y hy z hz => ?_)
    have : z = x := by simpa using hz
    subst this; have := hhi y hy; omega
theorem leaf_step {c : List Nat} {k x j : Nat} {lv : List RI} (hx : c[k]? = some x) (h0 : 0 < x) (hlv : lv.map wo = (ssort It.w (leafAt 0 (c.take k))).map (eIt c.length)) (hj : j ≤ lv.length)
    (hhi : ∀ z ∈ lv.drop j, x < z.w) (hlo : 0 < j → ∀ y, lv[j - 1]? = some y → y.w ≤ x) (b : Bool) (s : SV) :
    (lv.take j ++ [(⟨x, b, s, unitN c.length k⟩ : RI)] ++ lv.drop j).map wo = (ssort It.w (leafAt 0 (c.take (k + 1)))).map (eIt c.length) := by
  have hkl := (List.getElem?_eq_some_iff.1 hx).1
  have hget : ∀ (i : Nat) (z : It), (ssort It.w (leafAt 0 (c.take k)))[i]? = some z → ∃ y, lv[i]? = some y ∧ y.w = z.w := fun i z hz => by
    have h := congrArg (fun l => l[i]?) hlv
    simp only [List.getElem?_map, hz, Option.map_some] at h
    cases hy : lv[i]? with
    | none => rw [hy] at h; simp at h
    | some y => rw [hy] at h; exact ⟨y, rfl, congrArg Prod.fst (Option.some.inj h)⟩
  have hlen : (ssort It.w (leafAt 0 (c.take k))).length = lv.length := by have := congrArg List.length hlv; simpa using this.symm
  have e := ssort_snoc (key := It.w) (l := leafAt 0 (c.take k)) (x := ⟨x, (k : Int), 0, 0⟩) (j := j) (fun y hy => by
      obtain ⟨i, hi, hiy⟩ := List.mem_iff_getElem.1 hy
      rw [List.length_take] at hi
      have hyi : (ssort It.w (leafAt 0 (c.take k)))[i]? = some y := by rw [← hiy, List.getElem_take]; exact List.getElem?_eq_getElem _
      obtain ⟨z, hz⟩ : ∃ z, (ssort It.w (leafAt 0 (c.take k)))[j - 1]? = some z := ⟨_, List.getElem?_eq_getElem (by omega)⟩
      obtain ⟨q, hq, hqw⟩ := hget _ _ hz
      have h1 := hlo (by omega) q hq
      show y.w ≤ x
      by_cases e : i = j - 1
      · subst e; rw [hyi] at hz; cases hz; omega
      · have := (ssort_srt (key := It.w) (leafAt 0 (c.take k))).get (by omega : i < j - 1) hyi hz
        omega) (fun y hy => by
      obtain ⟨i, hi, hiy⟩ := List.mem_iff_getElem.1 hy
      rw [List.length_drop] at hi
      have hyi : (ssort It.w (leafAt 0 (c.take k)))[j + i]? = some y := by rw [← hiy, List.getElem_drop]; exact List.getElem?_eq_getElem _
      obtain ⟨q, hq, hqw⟩ := hget _ _ hyi
      have := hhi q (List.mem_of_getElem? (by rw [List.getElem?_drop]; exact hq))
      show x < y.w
      omega)
  rw [take_succ_of hx, leafAt_snoc, if_pos h0]
  have hk : (c.take k).length = k := by simp; omega
  rw [hk, Nat.zero_add, e]
  simp only [List.map_append, List.map_cons, List.map_nil, List.map_take, List.map_drop, hlv]
  rfl
theorem leaf_skip {c : List Nat} {k x : Nat} (hx : c[k]? = some x) (h0 : x = 0) : leafAt 0 (c.take (k + 1)) = leafAt 0 (c.take k) := by
  rw [take_succ_of hx, leafAt_snoc, if_neg (by omega), List.append_nil]
def oneZ (c : List Nat) : List Nat := c.map fun x => if 0 < x then 1 else 0
theorem oneZ_snoc (l : List Nat) (x : Nat) : oneZ (l ++ [x]) = oneZ l ++ [if 0 < x then 1 else 0] := by simp [oneZ]
def oneT (c : List Nat) (k : Nat) : List Nat := oneZ (c.take k) ++ List.replicate (c.length - k) 0
theorem oneT_length {c : List Nat} {k : Nat} (h : k ≤ c.length) : (oneT c k).length = c.length := by simp [oneT, oneZ]; omega
theorem oneT_skip {c : List Nat} {k x : Nat} (hx : c[k]? = some x) (h0 : x = 0) : oneT c (k + 1) = oneT c k := by
  have hk := (List.getElem?_eq_some_iff.1 hx).1
  rw [oneT, oneT, take_succ_of hx, oneZ_snoc, if_neg (by omega), List.append_assoc, show c.length - k = (c.length - (k + 1)) + 1 by omega, List.replicate_succ]
  rfl
theorem oneT_set {c : List Nat} {k x : Nat} (hx : c[k]? = some x) (h0 : 0 < x) : (oneT c k).set k 1 = oneT c (k + 1) := by
  have hk := (List.getElem?_eq_some_iff.1 hx).1
  have hl : (oneZ (c.take k)).length = k := by simp [oneZ]; omega
  rw [oneT, oneT, take_succ_of hx, oneZ_snoc, if_pos h0, List.append_assoc, show c.length - k = (c.length - (k + 1)) + 1 by omega, List.replicate_succ]
  have e := set_at (P := oneZ (c.take k)) (Q := List.replicate (c.length - (k + 1)) 0) (x := 0) (y := 1) (i := k) hl.symm
  rw [e]; rfl
theorem oneT_all (c : List Nat) : oneT c c.length = oneZ c := by simp [oneT]
theorem leafAt_has : ∀ (l : List Nat) (i j x : Nat), l[j]? = some x → 0 < x → ∃ y ∈ leafAt i l, y.sym = ((i + j : Nat) : Int)
  | [], i, j, x, h, _ => by simp at h
  | n :: r, i, 0, x, h, h0 => by
    have : n = x := by simpa using h
    subst this
    exact ⟨⟨n, i, 0, 0⟩, by rw [leafAt, if_pos h0]; simp, by simp⟩
  | n :: r, i, j + 1, x, h, h0 => by
    obtain ⟨y, hy, hs⟩ := leafAt_has r (i + 1) j x (by simpa using h) h0
    refine ⟨y, ?_, by rw [hs]; omega⟩
    rw [leafAt]; split
    · exact List.mem_cons_of_mem _ hy
    · exact hy
theorem leaves_pos (c : List Nat) : ∀ x ∈ leaves c, 0 < x.w := lvl_pos c 0
theorem sets_get : ∀ (xs : List It) (ls : List Nat) (j : Nat), j < ls.length → (xs.foldl (fun ls x => ls.set x.sym.toNat 1) ls).getD j 0 = if ∃ x ∈ xs, x.sym.toNat = j then 1 else ls.getD j 0
  | [], ls, j, _ => by simp
  | x :: r, ls, j, hj => by
    have ih := sets_get r (ls.set x.sym.toNat 1) j (by simpa using hj)
    rw [List.foldl_cons, ih]
    by_cases h : ∃ y ∈ r, y.sym.toNat = j
    · rw [if_pos h, if_pos (by obtain ⟨y, hy, e⟩ := h; exact ⟨y, by simp [hy], e⟩)]
    · rw [if_neg h]
      by_cases e : x.sym.toNat = j
      · rw [if_pos ⟨x, by simp, e⟩, List.getD_eq_getElem?_getD, List.getElem?_set, if_pos e, if_pos (by omega)]; rfl
      · rw [if_neg (by rintro ⟨y, hy, e2⟩; rcases List.mem_cons.1 hy with rfl | hy; (exact e e2); (exact h ⟨y, hy, e2⟩)), List.getD_eq_getElem?_getD, List.getElem?_set, if_neg e, ← List.getD_eq_getElem?_getD]
theorem lens_few {c : List Nat} (h : (leaves c).length < 2) : lensN c = oneZ c := by
  rw [lensN, if_pos h]
  apply List.ext_getElem?
  intro j
  have hl : ∀ (xs : List It) (ls : List Nat), (xs.foldl (fun ls x => ls.set x.sym.toNat 1) ls).length = ls.length := by
    intro xs
    induction xs with
    | nil => intro ls; rfl
    | cons x r ih => intro ls; rw [List.foldl_cons, ih]; simp
  rcases Nat.lt_or_ge j c.length with hj | hj
  · have h1 := sets_get (leaves c) (List.replicate c.length 0) j (by simpa using hj)
    have e1 : ∀ (l : List Nat), j < l.length → l[j]? = some (l.getD j 0) := fun l hl => by rw [List.getD_eq_getElem?_getD, List.getElem?_eq_getElem hl]; rfl
    rw [e1 _ (by rw [hl]; simpa using hj), h1, oneZ, List.getElem?_map, List.getElem?_eq_getElem hj]
    simp only [Option.map_some]
    congr 1
    by_cases hc : 0 < c[j]
    · obtain ⟨y, hy, hs⟩ := leafAt_has c 0 j c[j] (List.getElem?_eq_getElem hj) hc
      rw [if_pos hc, if_pos ⟨y, (ssort_stb _).mem.1 hy, by omega⟩]
    · rw [if_neg hc, if_neg]
      · simp [hj]
      · rintro ⟨y, hy, hs⟩
        obtain ⟨_, s, hs2, hcs⟩ := leaves_mem c y hy
        have hp := leaves_pos c y hy
        have : s = j := by omega
        subst this
        rw [List.getElem?_eq_getElem hj] at hcs
        have := Option.some.inj hcs
        omega
  · rw [List.getElem?_eq_none (by rw [hl]; simpa using hj), List.getElem?_eq_none (by simp [oneZ]; exact hj)]
theorem epk_w (W : Nat) : ∀ l : List (Nat × List Nat), (∀ e ∈ l, e.1 ≤ W) → ∀ e ∈ epk l, e.1 ≤ 2 * W := fun l h e he => by
  obtain ⟨x, hx, y, hy, rfl⟩ := epk_mem l e he
  have := h x hx; have := h y hy
  show x.1 + y.1 ≤ _; omega
theorem eLv_w (c : List Nat) (W : Nat) (h : ∀ x ∈ c, x ≤ W) : ∀ k, ∀ e ∈ eLv c k, e.1 ≤ W * 2 ^ k
  | 0, e, he => by
    obtain ⟨x, hx, rfl⟩ := List.mem_map.1 he
    have := h _ (leaves_mem c x hx).1
    show x.w ≤ _; omega
  | k + 1, e, he => by
    rcases emrg_mem.1 he with he | he
    · obtain ⟨x, hx, rfl⟩ := List.mem_map.1 he
      have h1 := h _ (leaves_mem c x hx).1
      have h2 : W ≤ W * 2 ^ (k + 1) := Nat.le_mul_of_pos_right _ (Nat.two_pow_pos _)
      show x.w ≤ _; omega
    · have := epk_w (W * 2 ^ k) (eLv c k) (eLv_w c W h k) e he
      rw [Nat.pow_succ, ← Nat.mul_assoc]; omega
theorem eLv_length (c : List Nat) (k : Nat) : (eLv c k).length = (lvl c k).length := by rw [← cLv_E, List.length_map, ← cLv_fst, List.length_map]
theorem epk_snoc : ∀ (q : Nat) (b : List (Nat × List Nat)) (x y : Nat × List Nat), b[2 * q]? = some x → b[2 * q + 1]? = some y → epk (b.take (2 * (q + 1))) = epk (b.take (2 * q)) ++ [(x.1 + y.1, vadd x.2 y.2)]
  | 0, b, x, y, hx, hy => by
    match b, hx, hy with
    | a :: a2 :: r, hx, hy => simp at hx hy; subst hx hy; simp [epk]
  | q + 1, b, x, y, hx, hy => by
    match b, hx, hy with
    | [], hx, _ => simp at hx
    | [a], hx, _ => simp at hx
    | a :: a2 :: r, hx, hy =>
      have ih := epk_snoc q r x y (by rw [show 2 * (q + 1) = 2 * q + 1 + 1 by omega] at hx; simpa using hx) (by rw [show 2 * (q + 1) + 1 = 2 * q + 1 + 1 + 1 by omega] at hy; simpa using hy)
      rw [show 2 * (q + 1 + 1) = 2 * (q + 1) + 1 + 1 by omega, show 2 * (q + 1) = 2 * q + 1 + 1 by omega]
      simp only [List.take_succ_cons, epk]
      rw [show 2 * q + 1 + 1 = 2 * (q + 1) by omega, ih]; rfl
theorem epk_all : ∀ (q : Nat) (b : List (Nat × List Nat)), b.length ≤ 2 * q + 1 → epk (b.take (2 * q)) = epk b
  | 0, b, h => by
    match b with
    | [] => rfl
    | [x] => rfl
    | _ :: _ :: _ => simp at h
  | q + 1, b, h => by
    match b with
    | [] => rfl
    | [x] => rw [List.take_of_length_le (by simp; omega)]
    | a :: a2 :: r =>
      have ih := epk_all q r (by simp at h; omega)
      rw [show 2 * (q + 1) = 2 * q + 1 + 1 by omega]
      simp only [List.take_succ_cons, epk, ih]
def vaT (a b : List Nat) (s : Nat) : List Nat := (vadd a b).take s ++ List.replicate (a.length - s) 0
theorem vaT_zero (a b : List Nat) : vaT a b 0 = List.replicate a.length 0 := by simp [vaT]
theorem vaT_length {a b : List Nat} {n s : Nat} (ha : a.length = n) (hb : b.length = n) (hs : s ≤ n) : (vaT a b s).length = n := by simp [vaT, vadd, ha, hb]; omega
theorem vaT_all {a b : List Nat} {n : Nat} (ha : a.length = n) (hb : b.length = n) : vaT a b n = vadd a b := by
  rw [vaT, List.take_of_length_le (by rw [vadd_length ha hb]; exact Nat.le_refl _), ha, Nat.sub_self]; simp
theorem vaT_set {a b : List Nat} {n s x y : Nat} (ha : a.length = n) (hb : b.length = n) (hx : a[s]? = some x) (hy : b[s]? = some y) : (vaT a b s).set s (x + y) = vaT a b (s + 1) := by
  have hs := (List.getElem?_eq_some_iff.1 hx).1
  have hv : (vadd a b)[s]? = some (x + y) := by simp [vadd, List.getElem?_zipWith, hx, hy]
  have hl : ((vadd a b).take s).length = s := by rw [List.length_take, vadd_length ha hb]; omega
  rw [vaT, vaT, take_succ_of hv, show a.length - s = (a.length - (s + 1)) + 1 by omega, List.replicate_succ, set_at hl.symm]
  simp
theorem fin_tot {c : List Nat} {p2 : List RI} (hp : p2.map wo = eLv c 14) (h2 : 2 ≤ (leaves c).length) {j : Nat} (hj : j < c.length) : tot (((p2.take (2 * (leaves c).length - 2)).drop 0).map RI.occ) j = (lensN c).getD j 0 := by
  rw [← lens_ref c h2 hj, ← hp, List.drop_zero, ← List.map_take, List.map_map]; rfl
theorem tot_snoc (l : List (List Nat)) (x : List Nat) (j : Nat) : tot (l ++ [x]) j = tot l j + x.getD j 0 := by simp [tot]
theorem lens_fin {c cur : List Nat} {s : Nat} (hs : s = c.length) (hcl : cur.length = c.length) (hcur : ∀ j, j < s → cur[j]? = some ((lensN c).getD j 0)) : cur = lensN c := by
  apply List.ext_getElem?
  intro j
  have hll := lensN_length c
  rcases Nat.lt_or_ge j c.length with hj | hj
  · rw [hcur j (by omega), List.getD_eq_getElem?_getD, List.getElem?_eq_getElem (by omega)]; rfl
  · rw [List.getElem?_eq_none (by omega), List.getElem?_eq_none (by omega)]
end Go.Kw
