/-
  M16: streams of numbers in blocks: what the chunks hold, and plain facts. No program in sight.
-/
import Derived.Test.YtfhbflhnelbkfaaKn
import Derived.Test.YtfhbflhnelbkfaaM14d
import Derived.Test.YtfhbflhnelbkfaaM15
namespace Go.Kw
open Go.RowKit
/-- A part: its slice's value, its bits, its bytes. -/
structure Pt where
  sv : SV
  bits : Nat
  bys : List Nat
def encPt : Enc Pt := ⟨2, fun p => [p.sv.val, .int .i64 (p.bits : Int)], fun _ => rfl, fun p u h => by simp at h; rcases h with rfl | rfl <;> rfl⟩
def cParts (ps : List Pt) : Chunk := cAll (ps.map fun p => cL p.sv.val 5 (encN .u8) p.bys)
section
variable {w0 w : World} {cs : List Chunk}
theorem Sat.newParts (h : Sat w0 cs w) : Sat w0 (cs ++ [cParts []]) w := by
  have : Sat w0 (cs ++ cAll [] :: []) w := Sat.all_iff.2 (by simpa using h)
  exact this
theorem Sat.pushParts {A : List Chunk} {s : SV} {b : Nat} {l : List Nat} {ps : List Pt} (h : Sat w0 (A ++ [cL s.val 5 (encN .u8) l]) w) (i : Nat) (hi : A[i]? = some (cParts ps)) : Sat w0 (A.set i (cParts (ps ++ [⟨s, b, l⟩]))) w := by
  have := h.push i hi
  rw [cParts, List.map_append]; exact this
theorem Sat.rdParts (h : Sat w0 cs w) (i : Nat) {ps : List Pt} (hi : cs[i]? = some (cParts ps)) : ∀ p ∈ ps, RdL w p.sv.val (encN .u8) p.bys := fun p hp =>
  Rd.of_own ((h.get hi).1 (cL p.sv.val 5 (encN .u8) p.bys) (List.mem_map_of_mem hp))
end
/-! ## Blocks of 64 -/
def chk (l : List Nat) (k : Nat) : List Nat := (l.drop (64 * k)).take 64
def nbk (n : Nat) : Nat := (n + 63) / 64
theorem chk_eq (l : List Nat) (k : Nat) : (l.take (min (64 * k + 64) l.length)).drop (64 * k) = chk l k := by
  rw [chk, List.drop_take]
  have : min (64 * k + 64) l.length - 64 * k = min 64 (l.length - 64 * k) := by omega
  rw [this, ← List.length_drop, ← List.take_eq_take_min]
theorem chk_length (l : List Nat) (k : Nat) : (chk l k).length = min 64 (l.length - 64 * k) := by simp [chk]
theorem chk_mem {l : List Nat} {k x : Nat} (h : x ∈ chk l k) : x ∈ l := List.mem_of_mem_drop (List.mem_of_mem_take h)
def ptsOf (ps : List Pt) : List (List Nat × Nat) := ps.map fun p => (p.bys, p.bits)
def pk0 (l : List Nat) (k : Nat) : List (List Nat × Nat) := (List.range k).map fun i => (packBk (chk l i), 0)
theorem pk0_succ (l : List Nat) (k : Nat) : pk0 l (k + 1) = pk0 l k ++ [(packBk (chk l k), 0)] := by simp [pk0, List.range_succ]
theorem ptsOf_snoc (ps : List Pt) (p : Pt) : ptsOf (ps ++ [p]) = ptsOf ps ++ [(p.bys, p.bits)] := by simp [ptsOf]
theorem ptsOf_length (ps : List Pt) : (ptsOf ps).length = ps.length := by simp [ptsOf]
/-- 1 plus the greatest. -/
def mxN (l : List Nat) : Nat := l.foldl (fun m x => max m (x + 1)) 0
theorem mxN_snoc (l : List Nat) (x : Nat) : mxN (l ++ [x]) = max (mxN l) (x + 1) := by simp [mxN]
theorem mxN_le {l : List Nat} {B : Nat} (h : ∀ x ∈ l, x < B) : mxN l ≤ B := by
  have : ∀ (l : List Nat) (m : Nat), m ≤ B → (∀ x ∈ l, x < B) → l.foldl (fun m x => max m (x + 1)) m ≤ B := by
    intro l
    induction l with
    | nil => intro m hm _; exact hm
    | cons x r ih => intro m hm h; exact ih _ (by have := h x (by simp); show max m (x + 1) ≤ B; omega) fun y hy => h y (by simp [hy])
  exact this l 0 (Nat.zero_le _) h
theorem mxN_ge : ∀ (l : List Nat), ∀ x ∈ l, x < mxN l := by
  have mono : ∀ (l : List Nat) (m : Nat), m ≤ l.foldl (fun m x => max m (x + 1)) m := by
    intro l
    induction l with
    | nil => intro m; exact Nat.le_refl _
    | cons x r ih => intro m; exact Nat.le_trans (Nat.le_max_left _ _) (ih _)
  have : ∀ (l : List Nat) (m : Nat), ∀ x ∈ l, x < l.foldl (fun m x => max m (x + 1)) m := by
    intro l
    induction l with
    | nil => intro m x h; cases h
    | cons y r ih =>
      intro m x h
      rcases List.mem_cons.1 h with rfl | h
      · exact Nat.lt_of_lt_of_le (by omega : x < max m (x + 1)) (mono r _)
      · exact ih _ x h
  exact fun l => this l 0
def cntStep (c : List Nat) (x : Nat) : List Nat := c.set x (c.getD x 0 + 1)
def cntN (m : Nat) (l : List Nat) : List Nat := l.foldl cntStep (List.replicate m 0)
theorem cntN_snoc (m : Nat) (l : List Nat) (x : Nat) : cntN m (l ++ [x]) = cntStep (cntN m l) x := by simp [cntN]
theorem cntN_length (m : Nat) (l : List Nat) : (cntN m l).length = m := by
  have : ∀ (l c : List Nat), (l.foldl cntStep c).length = c.length := by
    intro l; induction l with
    | nil => intro c; rfl
    | cons x r ih => intro c; rw [List.foldl_cons, ih]; simp [cntStep]
  rw [cntN, this]; simp
theorem cntN_le (m : Nat) (l : List Nat) : ∀ x ∈ cntN m l, x ≤ l.length := by
  have : ∀ (l c : List Nat) (B : Nat), (∀ x ∈ c, x ≤ B) → ∀ x ∈ l.foldl cntStep c, x ≤ B + l.length := by
    intro l
    induction l with
    | nil => intro c B h x hx; simpa using h x hx
    | cons y r ih =>
      intro c B h x hx
      have := ih (cntStep c y) (B + 1) (fun z hz => by
        rcases List.mem_or_eq_of_mem_set hz with hz | rfl
        · have := h z hz; omega
        · rw [List.getD_eq_getElem?_getD]
          cases hg : c[y]? with
          | none => simp
          | some v => have := h v (List.mem_of_getElem? hg); simp; exact this) x hx
      simp only [List.length_cons]; omega
  have h := this l (List.replicate m 0) 0 (fun x hx => by have := List.eq_of_mem_replicate hx; omega)
  simpa [cntN] using h
theorem cntN_pos {m : Nat} {l : List Nat} (hm : ∀ x ∈ l, x < m) : ∀ x ∈ l, 0 < (cntN m l).getD x 0 := by
  have mono : ∀ (l c : List Nat) (j : Nat), c.getD j 0 ≤ (l.foldl cntStep c).getD j 0 := by
    intro l
    induction l with
    | nil => intro c j; exact Nat.le_refl _
    | cons y r ih =>
      intro c j
      refine Nat.le_trans ?_ (ih _ j)
      by_cases h : y = j
      · subst h
        by_cases hl : y < c.length
        · rw [cntStep, getD_set_eq hl]; omega
        · simp [List.getD_eq_getElem?_getD, List.getElem?_eq_none (Nat.le_of_not_lt hl)]
      · rw [cntStep, getD_set_ne' h]; exact Nat.le_refl _
  have : ∀ (l c : List Nat), (∀ x ∈ l, x < c.length) → ∀ x ∈ l, 0 < (l.foldl cntStep c).getD x 0 := by
    intro l
    induction l with
    | nil => intro c _ x h; cases h
    | cons y r ih =>
      intro c hc x h
      have hy := hc y (by simp)
      by_cases hx : x = y
      · subst hx
        refine Nat.lt_of_lt_of_le ?_ (mono r _ x)
        rw [cntStep, getD_set_eq hy]; omega
      · exact ih (cntStep c y) (fun z hz => by simp [cntStep]; exact hc z (by simp [hz])) x ((List.mem_cons.1 h).resolve_left hx)
  exact this l _ (by simpa using hm)
/-- The lengths of the symbols of some numbers. -/
def symL (l : List Nat) : List Nat := lensN (cntN (mxN l) l)
theorem symL_length (l : List Nat) : (symL l).length = mxN l := by rw [symL, lensN_length, cntN_length]
theorem symL_ok (l : List Nat) (h : mxN l ≤ 1024) : LensOk (cntN (mxN l) l) (symL l) := lensN_ok _ (by have := leaves_length (cntN (mxN l) l); rw [cntN_length] at this; omega)
theorem symL_pos {l : List Nat} (h : mxN l ≤ 1024) : ∀ x ∈ l, x < (symL l).length ∧ 0 < lenKey (symL l) x := fun x hx => by
  have h1 := mxN_ge l x hx
  have h2 := cntN_pos (mxN_ge l) x hx
  refine ⟨by rw [symL_length]; exact h1, ?_⟩
  have := (symL_ok l h).zero x (by rw [cntN_length]; exact h1)
  rw [lenKey]; omega
def pk1 (l : List Nat) (k : Nat) : List (List Nat × Nat) := (List.range k).map fun i => (packB (hufB (symL l) (chk l i)), (hufB (symL l) (chk l i)).length)
theorem pk1_succ (l : List Nat) (k : Nat) : pk1 l (k + 1) = pk1 l k ++ [(packB (hufB (symL l) (chk l k)), (hufB (symL l) (chk l k)).length)] := by simp [pk1, List.range_succ]
/-- The encoding without its sum. -/
def pld1 (kind : Nat) (p : List Nat × Nat) : List Nat := uv (if kind = 0 then p.1.length else p.2) ++ p.1
def pld (kind : Nat) (ps : List (List Nat × Nat)) : List Nat := ps.flatMap (pld1 kind)
theorem pld_snoc (kind : Nat) (ps : List (List Nat × Nat)) (p : List Nat × Nat) : pld kind (ps ++ [p]) = pld kind ps ++ pld1 kind p := by simp [pld]
def hdP (n kind : Nat) (lens : List Nat) : List Nat := uv n ++ uv kind ++ (if kind = 1 then uv lens.length ++ lens.map (· % 2 ^ 8) else [])
theorem hdP_length (n kind : Nat) (lens : List Nat) : (hdP n kind lens).length ≤ 30 + lens.length := by
  have h1 := uv_le n; have h2 := uv_le kind; have h3 := uv_le lens.length
  unfold hdP
  split <;> simp <;> omega
def payl (n kind : Nat) (lens : List Nat) (ps : List (List Nat × Nat)) : List Nat := hdP n kind lens ++ pld kind ps
theorem ptsOf_get {ps : List Pt} {k : Nat} {x : Pt} (h : ps[k]? = some x) : (ptsOf ps)[k]? = some (x.bys, x.bits) := by simp [ptsOf, h]
theorem packBk_len (l : List Nat) (h : l.length ≤ 64) : (packBk l).length ≤ 10000 := by
  have hw : ∀ w, w ≤ 31 → ∀ l : List Nat, (encSt w l).2.1.length = l.length * w ∧ (encSt w l).2.2.1.length ≤ 20 * l.length := by
    intro w _
    refine snocInd ⟨by simp [encSt], by simp [encSt]⟩ fun l x ih => ?_
    rw [encSt_snoc]
    have h1 := uv_le ((encSt w l).1 + 1 - (encSt w l).2.2.2.2)
    have h2 := uv_le (x / 2 ^ w)
    unfold encStep
    simp only [List.length_append, List.length_cons, List.length_nil]
    split <;> simp only [List.length_append, lowB_length] <;> (refine ⟨by rw [ih.1, Nat.add_mul]; omega, by omega⟩)
  have hb := bestW_le l 32
  obtain ⟨h1, h2⟩ := hw (bestW l 32) (by omega) l
  have a1 := uv_le l.length
  have a2 := uv_le (bestW l 32)
  have a3 := uv_le (encSt (bestW l 32) l).2.2.2.1
  have hm : l.length * bestW l 32 ≤ 64 * 31 := Nat.mul_le_mul h (by omega)
  unfold packBk encBk
  simp only [List.length_append, packB_length]
  omega
theorem ptsOf_mem {ps : List Pt} {q : List (List Nat × Nat)} (h : ptsOf ps = q) {C : List Nat × Nat → Prop} (hq : ∀ x ∈ q, C x) : ∀ p ∈ ps, C (p.bys, p.bits) := fun p hp => hq _ (by rw [← h]; exact List.mem_map_of_mem hp)
theorem pk0_b {l : List Nat} {ps : List Pt} (h : ptsOf ps = pk0 l (nbk l.length)) (hn : l.length ≤ 4096) : ps.length ≤ 100 ∧ ∀ p ∈ ps, p.bys.length ≤ 20000 ∧ p.bits ≤ 1000000 := by
  refine ⟨by rw [← ptsOf_length, h]; simp [pk0, nbk]; omega, ptsOf_mem (C := fun q => q.1.length ≤ 20000 ∧ q.2 ≤ 1000000) h fun x hx => ?_⟩
  obtain ⟨i, _, rfl⟩ := List.mem_map.1 hx
  have := packBk_len (chk l i) (by rw [chk_length]; omega)
  exact ⟨by show (packBk (chk l i)).length ≤ 20000; omega, by show 0 ≤ 1000000; omega⟩
theorem pk1_b {l : List Nat} {ps : List Pt} (h : ptsOf ps = pk1 l (nbk l.length)) (hn : l.length ≤ 4096) (hm : mxN l ≤ 1024) : ps.length ≤ 100 ∧ ∀ p ∈ ps, p.bys.length ≤ 20000 ∧ p.bits ≤ 1000000 := by
  refine ⟨by rw [← ptsOf_length, h]; simp [pk1, nbk]; omega, ptsOf_mem (C := fun q => q.1.length ≤ 20000 ∧ q.2 ≤ 1000000) h fun x hx => ?_⟩
  obtain ⟨i, _, rfl⟩ := List.mem_map.1 hx
  have h1 := hufB_length (GoodLens.of_ok (symL_ok l hm)) (chk l i)
  have h2 := chk_length l i
  exact ⟨by show (packB (hufB (symL l) (chk l i))).length ≤ 20000; rw [packB_length]; omega, by show (hufB (symL l) (chk l i)).length ≤ 1000000; omega⟩
/-! ## The two encodings -/
def plK (l : List Nat) (kind : Nat) : List Nat := payl l.length kind (if kind = 1 then symL l else []) (if kind = 1 then pk1 l (nbk l.length) else pk0 l (nbk l.length))
def kindN (l : List Nat) : Nat := if (plK l 1).length < (plK l 0).length then 1 else 0
def lensK (l : List Nat) : List Nat := if kindN l = 1 then symL l else []
def ptsK (l : List Nat) : List (List Nat × Nat) := if kindN l = 1 then pk1 l (nbk l.length) else pk0 l (nbk l.length)
theorem kindN_one {l : List Nat} (h : (plK l 1).length < (plK l 0).length) : kindN l = 1 ∧ lensK l = symL l ∧ ptsK l = pk1 l (nbk l.length) := by
  have hk : kindN l = 1 := by rw [kindN, if_pos h]
  exact ⟨hk, by rw [lensK, if_pos hk], by rw [ptsK, if_pos hk]⟩
theorem kindN_zero {l : List Nat} (h : ¬ (plK l 1).length < (plK l 0).length) : kindN l = 0 ∧ lensK l = [] ∧ ptsK l = pk0 l (nbk l.length) := by
  have hk : kindN l = 0 := by rw [kindN, if_neg h]
  exact ⟨hk, by rw [lensK, if_neg (by omega)], by rw [ptsK, if_neg (by omega)]⟩
theorem kindN_le (l : List Nat) : kindN l ≤ 1 := by unfold kindN; split <;> omega
/-- Numbers that a stream takes. -/
structure OkN (l : List Nat) : Prop where
  len : l.length ≤ 4096
  lt : ∀ x ∈ l, x < 1024
theorem OkN.mx {l : List Nat} (h : OkN l) : mxN l ≤ 1024 := mxN_le h.lt
theorem ptsK_b {l : List Nat} {ps : List Pt} (h : ptsOf ps = ptsK l) (hl : OkN l) : ps.length ≤ 100 ∧ ∀ p ∈ ps, p.bys.length ≤ 20000 ∧ p.bits ≤ 1000000 := by
  unfold ptsK at h
  split at h
  · exact pk1_b h hl.len hl.mx
  · exact pk0_b h hl.len
theorem lensK_len {l : List Nat} (hl : OkN l) : (lensK l).length ≤ 1024 := by
  unfold lensK
  split
  · rw [symL_length]; exact hl.mx
  · simp
theorem payl_K (l : List Nat) : payl l.length (kindN l) (lensK l) (ptsK l) = plK l (kindN l) := rfl
theorem payl_len {n kind : Nat} {lens : List Nat} {ps : List Pt} (hll : lens.length ≤ 1024) (h : ps.length ≤ 100) (hb : ∀ p ∈ ps, p.bys.length ≤ 20000 ∧ p.bits ≤ 1000000) : (payl n kind lens (ptsOf ps)).length ≤ 3000000 := by
  have h1 := hdP_length n kind lens
  have : ∀ ps : List Pt, (∀ p ∈ ps, p.bys.length ≤ 20000 ∧ p.bits ≤ 1000000) → (pld kind (ptsOf ps)).length ≤ 20010 * ps.length := by
    intro ps
    induction ps with
    | nil => intro _; simp [pld, ptsOf]
    | cons p r ih =>
      intro hb
      have h1 := ih fun q hq => hb q (by simp [hq])
      have h2 := hb p (by simp)
      have e : pld kind (ptsOf (p :: r)) = pld1 kind (p.bys, p.bits) ++ pld kind (ptsOf r) := by simp [pld, ptsOf]
      have h3 := uv_le (if kind = 0 then p.bys.length else p.bits)
      rw [e, List.length_append, List.length_cons, pld1, List.length_append]
      simp only at h3 ⊢
      omega
  have h2 := this ps hb
  unfold payl
  rw [List.length_append]; omega
/-! ## The block that was read last -/
def CacheOk (l : List Nat) (last : Nat) (blk : List Nat) : Prop := (last = 0 ∧ blk = []) ∨ ∃ q, last = q + 1 ∧ q < nbk l.length ∧ blk = chk l q
theorem CacheOk.hit {l blk : List Nat} {k : Nat} (h : CacheOk l (k + 1) blk) : blk = chk l k := by
  rcases h with ⟨h, _⟩ | ⟨q, h1, _, h2⟩
  · omega
  · rw [h2, show q = k by omega]
theorem CacheOk.now {l : List Nat} {k : Nat} (h : k < nbk l.length) : CacheOk l (k + 1) (chk l k) := .inr ⟨k, rfl, h, rfl⟩
theorem CacheOk.le {l blk : List Nat} {last : Nat} (h : CacheOk l last blk) : last ≤ nbk l.length := by
  rcases h with ⟨h, _⟩ | ⟨q, h1, h2, _⟩ <;> omega
theorem CacheOk.zero (l : List Nat) : CacheOk l 0 [] := .inl ⟨rfl, rfl⟩
theorem ptsK_get {l : List Nat} {ps : List Pt} (h : ptsOf ps = ptsK l) {k : Nat} (hk : k < nbk l.length) : ∃ p, ps[k]? = some p ∧ (p.bys, p.bits) = if kindN l = 1 then (packB (hufB (symL l) (chk l k)), (hufB (symL l) (chk l k)).length) else (packBk (chk l k), 0) := by
  have hl : ps.length = nbk l.length := by rw [← ptsOf_length, h]; unfold ptsK; split <;> simp [pk0, pk1]
  obtain ⟨p, hp⟩ : ∃ p, ps[k]? = some p := ⟨_, List.getElem?_eq_getElem (by omega)⟩
  refine ⟨p, hp, ?_⟩
  have h1 := ptsOf_get hp
  rw [h] at h1
  unfold ptsK at h1
  split at h1
  · rename_i h0; rw [if_pos h0]
    rw [pk1, List.getElem?_map, List.getElem?_range hk] at h1
    exact (Option.some.inj h1).symm
  · rename_i h0; rw [if_neg h0]
    rw [pk0, List.getElem?_map, List.getElem?_range hk] at h1
    exact (Option.some.inj h1).symm
theorem chk_get (l : List Nat) (i : Nat) : (chk l (i / 64))[i % 64]? = l[i]? := by
  rw [chk, List.getElem?_take_of_lt (Nat.mod_lt _ (by decide)), List.getElem?_drop]
  congr 1; omega
theorem nbk_lt {n i : Nat} (h : i < n) : i / 64 < nbk n := by unfold nbk; omega
theorem chk_slice (l : List Nat) {a e t : Nat} (h1 : a < e) (h2 : e ≤ (a / 64 + 1) * 64) (ht : t = e - a / 64 * 64) : ((chk l (a / 64)).take t).drop (a % 64) = (l.take e).drop a := by
  apply List.ext_getElem?
  intro i
  subst ht
  rw [List.getElem?_drop, List.getElem?_drop, List.getElem?_take, List.getElem?_take, chk]
  by_cases h : a + i < e
  · rw [if_pos (by omega), if_pos h, List.getElem?_take_of_lt (by omega), List.getElem?_drop]
    congr 1; omega
  · rw [if_neg (by omega), if_neg h]
theorem take_drop_glue (l : List Nat) {a b e : Nat} (h1 : a ≤ b) (h2 : b ≤ e) : (l.take b).drop a ++ (l.take e).drop b = (l.take e).drop a := by
  rw [← List.take_append_drop (b - a) ((l.take e).drop a), List.drop_drop, show a + (b - a) = b by omega]
  congr 1
  rw [List.take_drop, show a + (b - a) = b by omega, List.take_take, Nat.min_eq_left h2]
end Go.Kw
