/-
  M42: names, decimal numbers, texts cut at a byte, manifests of stores. No program in sight.
-/
import Derived.Test.YtecfgjdpghddgaaGreatDoorM01
import Derived.Test.YtecfgjdpghddgaaGreatDoorKp
import Derived.Lib.SplitLaws
import Derived.Lib.AtoiAll
import Derived.Lib.ItoaNum
set_option linter.unusedVariables false
set_option linter.unusedSimpArgs false
set_option linter.unusedSectionVars false
namespace Go.Kw
def nmF (c : Nat) : Bool := decide (c = 95 ∨ (65 ≤ c ∧ c ≤ 90) ∨ (97 ≤ c ∧ c ≤ 122))
def nmN (c : Nat) : Bool := decide (nmF c = true ∨ (48 ≤ c ∧ c ≤ 57) ∨ c = 45)
theorem nmF_N {c : Nat} (h : nmF c = true) : nmN c = true := decide_eq_true (.inl h)
def nameL (s : List UInt8) : Bool := match s with
  | [] => false
  | c :: r => nmF c.toNat && r.all fun c => nmN c.toNat
def nameB (s : ByteArray) : Bool := decide (s.size ≤ 32) && nameL s.data.toList
theorem nameB_long {s : ByteArray} (h : 32 < s.size) : nameB s = false := by
  unfold nameB; rw [decide_eq_false (by omega)]; rfl
theorem nameB_nil {s : ByteArray} (h : s.size < 1) : nameB s = false := by
  have h0 : s.data.toList = [] := List.eq_nil_of_length_eq_zero (by show s.data.toList.length = 0; have : s.data.toList.length = s.size := rfl; omega)
  unfold nameB; rw [h0]; simp [nameL]
theorem nameL_first {s : List UInt8} {c : UInt8} (h : s[0]? = some c) (hn : nmF c.toNat = false) : nameL s = false := by
  cases s with
  | nil => rfl
  | cons d r => simp at h; subst h; simp [nameL, hn]
theorem nameL_bad {s : List UInt8} {i : Nat} {c : UInt8} (h : s[i]? = some c) (hn : nmN c.toNat = false) : nameL s = false := by
  cases s with
  | nil => rfl
  | cons d r =>
    cases i with
    | zero =>
      simp at h; subst h
      have : nmF d.toNat = false := Bool.eq_false_iff.2 fun h9 => by rw [nmF_N h9] at hn; cases hn
      simp [nameL, this]
    | succ i =>
      simp at h
      have hm := List.mem_of_getElem? h
      have : (r.all fun c => nmN c.toNat) = false := Bool.eq_false_iff.2 fun h9 => by rw [List.all_eq_true.1 h9 c hm] at hn; cases hn
      simp [nameL, this]
theorem nameL_good {s : List UInt8} {c : UInt8} (h : s[0]? = some c) (hf : nmF c.toNat = true) (hall : ∀ i, ∀ d, s[i]? = some d → 0 < i → nmN d.toNat = true) : nameL s = true := by
  cases s with
  | nil => cases h
  | cons d r =>
    simp at h; subst h
    have : (r.all fun c => nmN c.toNat) = true := List.all_eq_true.2 fun x hx => by
      obtain ⟨i, hi⟩ := List.getElem?_of_mem hx
      exact hall (i + 1) x (by simpa using hi) (by omega)
    simp [nameL, hf, this]
def cutL (by_ : UInt8) : List UInt8 → List (List UInt8)
  | [] => [[]]
  | c :: r => if c = by_ then [] :: cutL by_ r else match cutL by_ r with
    | [] => [[c]]
    | a :: t => (c :: a) :: t
def decN (n : Nat) : List UInt8 := if n < 10 then [(48 + n).toUInt8] else decN (n / 10) ++ [(48 + n % 10).toUInt8]
  termination_by n
  decreasing_by omega
def encAt : Enc (ByteArray × Bool) := ⟨2, fun x => [.string x.1, .bool x.2], fun _ => rfl, fun x u h => by simp at h; rcases h with rfl | rfl <;> rfl⟩
structure Pc where
  f : Int
  sv : SV
  ns : List ByteArray
def encPc : Enc Pc := ⟨2, fun p => [.int .i64 p.f, p.sv.val], fun _ => rfl, fun x u h => by simp at h; rcases h with rfl | rfl <;> rfl⟩
def delOk (l : List ByteArray) : Prop := (∀ (i : Nat) (x : ByteArray), l[i]? = some x → nameB x = true ∧ (0 < i → ∀ y, l[i - 1]? = some y → SLt y x)) ∧ l.length ≤ 64
def atOkAt (l : List (ByteArray × Bool)) (i : Nat) : Prop := ∀ x, l[i]? = some x → nameB x.1 = true ∧ ((l.take i).any fun y => decide (y.1 = x.1)) = false
def atsOk (l : List (ByteArray × Bool)) : Prop := (∀ i, atOkAt l i) ∧ 1 ≤ l.length ∧ l.length ≤ 8
def pcOkAt (nx jr : Int) (ps : List Pc) (i : Nat) : Prop := ∀ p, ps[i]? = some p → 1 ≤ p.f ∧ p.f < nx ∧ p.f ∉ jr :: (ps.take i).map Pc.f ∧ delOk p.ns
def stOk (as : List (ByteArray × Bool)) (nx jr : Int) (ps : List Pc) : Prop := atsOk as ∧ nx ≤ 1000000000 ∧ 1 ≤ jr ∧ jr < nx ∧ ps.length ≤ 16 ∧ ∀ i, pcOkAt nx jr ps i
noncomputable def delB (l : List ByteArray) : Bool := @decide (delOk l) (Classical.propDecidable _)
noncomputable def atsB (l : List (ByteArray × Bool)) : Bool := @decide (atsOk l) (Classical.propDecidable _)
noncomputable def stB (as : List (ByteArray × Bool)) (nx jr : Int) (ps : List Pc) : Bool := @decide (stOk as nx jr ps) (Classical.propDecidable _)
theorem delB_iff {l : List ByteArray} : delB l = true ↔ delOk l := by unfold delB; exact @decide_eq_true_iff _ (Classical.propDecidable _)
theorem delB_no {l : List ByteArray} : delB l = false ↔ ¬ delOk l := by unfold delB; exact @decide_eq_false_iff_not _ (Classical.propDecidable _)
theorem atsB_iff {l : List (ByteArray × Bool)} : atsB l = true ↔ atsOk l := by unfold atsB; exact @decide_eq_true_iff _ (Classical.propDecidable _)
theorem atsB_no {l : List (ByteArray × Bool)} : atsB l = false ↔ ¬ atsOk l := by unfold atsB; exact @decide_eq_false_iff_not _ (Classical.propDecidable _)
theorem stB_iff {as : List (ByteArray × Bool)} {nx jr : Int} {ps : List Pc} : stB as nx jr ps = true ↔ stOk as nx jr ps := by unfold stB; exact @decide_eq_true_iff _ (Classical.propDecidable _)
theorem stB_no {as : List (ByteArray × Bool)} {nx jr : Int} {ps : List Pc} : stB as nx jr ps = false ↔ ¬ stOk as nx jr ps := by unfold stB; exact @decide_eq_false_iff_not _ (Classical.propDecidable _)
theorem all_lt_len {α : Type} {l : List α} {P : Nat → α → Prop} {k : Nat} (h : ∀ i, i < k → ∀ x, l[i]? = some x → P i x) (hk : l.length ≤ k) : ∀ i x, l[i]? = some x → P i x := fun i x hx => h i (by have := (List.getElem?_eq_some_iff.1 hx).1; omega) x hx
end Go.Kw
namespace Go.Kw
def bs (l : List UInt8) : ByteArray := ⟨l.toArray⟩
theorem bs_data (l : List UInt8) : (bs l).data.toList = l := rfl
theorem data_bs (s : ByteArray) : bs s.data.toList = s := by cases s; simp [bs]
theorem bs_inj {a b : List UInt8} (h : bs a = bs b) : a = b := by have := congrArg (fun s : ByteArray => s.data.toList) h; exact this
theorem ba_ext {a b : ByteArray} (h : a.data.toList = b.data.toList) : a = b := by rw [← data_bs a, ← data_bs b, h]
theorem app_data (a b : ByteArray) : (a ++ b).data.toList = a.data.toList ++ b.data.toList := by simp [ByteArray.data_append]
theorem bs_app (a b : List UInt8) : bs a ++ bs b = bs (a ++ b) := ba_ext (by rw [app_data]; rfl)
theorem bs_size (l : List UInt8) : (bs l).size = l.length := by simp [bs, ByteArray.size]
theorem ext_bs (s : ByteArray) (a b : Nat) : s.extract a b = bs ((s.data.toList.drop a).take (b - a)) := ba_ext (by rw [Lib.extract_data]; rfl)
theorem cutL_none {c : UInt8} : ∀ {l : List UInt8}, c ∉ l → cutL c l = [l]
  | [], _ => rfl
  | a :: l, h => by
    have h1 : ¬ a = c := fun e => h (by rw [e]; exact List.mem_cons_self ..)
    rw [cutL, if_neg h1, cutL_none (fun e => h (List.mem_cons_of_mem _ e))]
theorem cutL_app {c : UInt8} : ∀ {l : List UInt8} (r : List UInt8), c ∉ l → cutL c (l ++ c :: r) = l :: cutL c r
  | [], r, _ => by rw [List.nil_append, cutL, if_pos rfl]
  | a :: l, r, h => by
    have h1 : ¬ a = c := fun e => h (by rw [e]; exact List.mem_cons_self ..)
    rw [List.cons_append, cutL, if_neg h1, cutL_app r (fun e => h (List.mem_cons_of_mem _ e))]
theorem first_of {c : UInt8} : ∀ {s : List UInt8}, c ∈ s → ∃ a r, s = a ++ c :: r ∧ c ∉ a
  | [], h => by cases h
  | b :: s, h => by
    by_cases hb : b = c
    · exact ⟨[], s, by rw [hb]; rfl, by simp⟩
    · rcases List.mem_cons.1 h with h1 | h1
      · exact absurd h1.symm hb
      · obtain ⟨a, r, rfl, ha⟩ := first_of h1
        exact ⟨b :: a, r, rfl, fun h2 => by rcases List.mem_cons.1 h2 with h3 | h3; exact hb h3.symm; exact ha h3⟩
theorem index_no {c : UInt8} : ∀ {a : List UInt8}, c ∉ a → Lib.index a [c] = -1
  | [], _ => rfl
  | b :: a, h => by
    have h1 : ¬ c = b := fun e => h (by rw [e]; exact List.mem_cons_self ..)
    have ih := index_no (fun e => h (List.mem_cons_of_mem _ e) : c ∉ a)
    unfold Lib.index; rw [ih]; simp [List.isPrefixOf, h1]
theorem index_app {c : UInt8} (r : List UInt8) : ∀ {a : List UInt8}, c ∉ a → Lib.index (a ++ c :: r) [c] = a.length
  | [], _ => by unfold Lib.index; simp [List.isPrefixOf]
  | b :: a, h => by
    have h1 : ¬ c = b := fun e => h (by rw [e]; exact List.mem_cons_self ..)
    have ih := index_app r (fun e => h (List.mem_cons_of_mem _ e) : c ∉ a)
    rw [List.cons_append]; unfold Lib.index; rw [ih]
    have h2 : ¬ ((a.length : Int) == -1) = true := fun e => by have := beq_iff_eq.1 e; omega
    simp [List.isPrefixOf, h1, h2]
theorem splitK_one {c : UInt8} : ∀ (k : Nat) (s : List UInt8), s.count c ≤ k → Lib.splitK [c] 0 k s = cutL c s
  | 0, s, h => by rw [cutL_none (fun h9 => by have := List.count_pos_iff.2 h9; omega)]; rfl
  | k + 1, s, h => by
    unfold Lib.splitK
    by_cases hm : c ∈ s
    · obtain ⟨a, r, rfl, ha⟩ := first_of hm
      have hn : ¬ ((a.length : Int) == -1) = true := fun e => by have := beq_iff_eq.1 e; omega
      rw [index_app r ha, if_neg hn, cutL_app r ha]
      have h2 : (a ++ c :: r).count c = r.count c + 1 := by rw [List.count_append, List.count_eq_zero_of_not_mem ha, List.count_cons_self]; omega
      have e1 : (a ++ c :: r).take (((a.length : Nat) : Int).toNat + 0) = a := by simp
      have e2 : (a ++ c :: r).drop (((a.length : Nat) : Int).toNat + [c].length) = r := by
        rw [Int.toNat_natCast, List.drop_append]; simp
      rw [e1, e2, splitK_one k r (by omega)]
    · rw [index_no hm, cutL_none hm]; rfl
def cutB (c : UInt8) (s : ByteArray) : List ByteArray := (cutL c s.data.toList).map bs
theorem splitB_cut (c : UInt8) (s : ByteArray) : Lib.splitB ⟨#[c]⟩ 0 (Lib.countB s ⟨#[c]⟩) s = cutB c s := by
  have h := Lib.splitB_data ⟨#[c]⟩ 0 (Lib.countB s ⟨#[c]⟩) s
  have hc : Lib.countB s ⟨#[c]⟩ = s.data.toList.count c := by
    show Lib.count s.data.toList [c] = _
    exact Lib.count_one c _
  rw [hc, show ((⟨#[c]⟩ : ByteArray).data.toList) = [c] from rfl, splitK_one _ _ (Nat.le_refl _)] at h
  unfold cutB
  rw [hc, ← h, List.map_map]
  have e : ∀ l : List ByteArray, l.map (bs ∘ fun x => x.data.toList) = l := fun l => by
    conv => rhs; rw [← List.map_id l]
    exact List.map_congr_left fun x _ => data_bs x
  exact (e _).symm
theorem cutL_length_le (c : UInt8) : ∀ l : List UInt8, (cutL c l).length ≤ l.length + 1
  | [] => by simp [cutL]
  | a :: l => by
    have ih := cutL_length_le c l
    unfold cutL
    split
    · simp only [List.length_cons]; omega
    · split <;> simp_all <;> omega
theorem cutL_pos (c : UInt8) : ∀ l : List UInt8, 1 ≤ (cutL c l).length
  | [] => by simp [cutL]
  | a :: l => by
    unfold cutL
    split
    · simp
    · split <;> simp
theorem cutB_length_le (c : UInt8) (s : ByteArray) : (cutB c s).length ≤ s.size + 1 := by
  unfold cutB; rw [List.length_map]; exact cutL_length_le c _
theorem cutB_pos (c : UInt8) (s : ByteArray) : 1 ≤ (cutB c s).length := by
  unfold cutB; rw [List.length_map]; exact cutL_pos c _
theorem cutL_mem_len (c : UInt8) : ∀ (l : List UInt8) (x : List UInt8), x ∈ cutL c l → x.length ≤ l.length
  | [], x, h => by simp [cutL] at h; subst h; simp
  | a :: l, x, h => by
    have ih := cutL_mem_len c l
    have hne := cutL_pos c l
    unfold cutL at h
    split at h
    · rcases List.mem_cons.1 h with rfl | h1
      · simp
      · have := ih x h1; simp only [List.length_cons]; omega
    · revert h
      cases hq : cutL c l with
      | nil => intro h; simp at h; subst h; simp
      | cons b t =>
        intro h
        rcases List.mem_cons.1 h with rfl | h1
        · have := ih b (by rw [hq]; exact List.mem_cons_self ..); simp only [List.length_cons]; omega
        · have := ih x (by rw [hq]; exact List.mem_cons_of_mem _ h1); simp only [List.length_cons]; omega
theorem cutB_mem_size {c : UInt8} {s x : ByteArray} (h : x ∈ cutB c s) : x.size ≤ s.size := by
  obtain ⟨l, hl, rfl⟩ := List.mem_map.1 h
  rw [bs_size]; exact cutL_mem_len c _ l hl
def noCut (c : UInt8) (l : List UInt8) (f i : Nat) : Prop := ∀ j x, f ≤ j → j < i → l[j]? = some x → x ≠ c
theorem noCut.not_mem {c : UInt8} {l : List UInt8} {f i : Nat} (h : noCut c l f i) : c ∉ (l.drop f).take (i - f) := fun hm => by
  obtain ⟨j, hj⟩ := List.getElem?_of_mem hm
  have h1 := (List.getElem?_eq_some_iff.1 hj).1
  rw [List.length_take, List.length_drop] at h1
  rw [List.getElem?_take, if_pos (by omega), List.getElem?_drop] at hj
  exact h (f + j) c (by omega) (by omega) hj rfl
theorem cut_step {c : UInt8} {l : List UInt8} {f i : Nat} (hf : f ≤ i) (hn : noCut c l f i) (hi : l[i]? = some c) : cutL c (l.drop f) = (l.drop f).take (i - f) :: cutL c (l.drop (i + 1)) := by
  have hil := (List.getElem?_eq_some_iff.1 hi).1
  have e : l.drop f = (l.drop f).take (i - f) ++ c :: l.drop (i + 1) := by
    have h1 := (List.take_append_drop (i - f) (l.drop f)).symm
    rw [List.drop_drop, show f + (i - f) = i by omega, List.drop_eq_getElem_cons hil] at h1
    have h2 : l[i] = c := (List.getElem?_eq_some_iff.1 hi).2
    rw [h2] at h1; exact h1
  calc cutL c (l.drop f) = cutL c ((l.drop f).take (i - f) ++ c :: l.drop (i + 1)) := by rw [← e]
    _ = _ := cutL_app _ hn.not_mem
theorem cut_end {c : UInt8} {l : List UInt8} {f i : Nat} (hf : f ≤ i) (hn : noCut c l f i) (hi : i = l.length) : cutL c (l.drop f) = [(l.drop f).take (i - f)] := by
  have h := hn.not_mem
  rw [List.take_of_length_le (by rw [List.length_drop]; omega)] at h ⊢
  exact cutL_none h
theorem cutL_lines {c : UInt8} : ∀ ls : List (List UInt8), (∀ l ∈ ls, c ∉ l) → cutL c (ls.flatMap fun l => l ++ [c]) = ls ++ [[]]
  | [], _ => rfl
  | l :: ls, h => by
    rw [List.flatMap_cons, List.append_assoc, List.singleton_append, cutL_app _ (h l (List.mem_cons_self ..)), cutL_lines ls (fun x hx => h x (List.mem_cons_of_mem _ hx))]; rfl
theorem cutL_words {c : UInt8} : ∀ (ws : List (List UInt8)) (w : List UInt8), c ∉ w → (∀ l ∈ ws, c ∉ l) → cutL c (w ++ ws.flatMap fun l => c :: l) = w :: ws
  | [], w, hw, _ => by rw [List.flatMap_nil, List.append_nil, cutL_none hw]
  | v :: ws, w, hw, h => by
    rw [List.flatMap_cons, List.cons_append, cutL_app _ hw, cutL_words ws v (h v (List.mem_cons_self ..)) (fun x hx => h x (List.mem_cons_of_mem _ hx))]
theorem decN_eq (n : Nat) : decN n = Lib.decDigits n := by
  induction n using Nat.strongRecOn with
  | _ n ih =>
    unfold decN Lib.decDigits
    split
    · rfl
    · rw [ih (n / 10) (by omega)]
theorem itoa_dec {z : Int} (h : 0 ≤ z) : Lib.itoa z = decN z.toNat := by
  unfold Lib.itoa; rw [if_neg (by omega), decN_eq]
theorem decN_length {k : Nat} : ∀ {n : Nat}, n < 10 ^ (k + 1) → (decN n).length ≤ k + 1 := by
  induction k with
  | zero => intro n h; unfold decN; rw [if_pos (by omega)]; simp
  | succ k ih =>
    intro n h
    unfold decN
    split
    · simp
    · have := ih (n := n / 10) (by rw [Nat.pow_succ] at h; omega)
      rw [List.length_append]; simp; omega
theorem decN_digit : ∀ (n : Nat) (c : UInt8), c ∈ decN n → 48 ≤ c.toNat ∧ c.toNat ≤ 57 := by
  intro n
  induction n using Nat.strongRecOn with
  | _ n ih =>
    intro c h
    have key : ∀ d, d < 10 → (48 + d).toUInt8.toNat = 48 + d := fun d hd => by
      show (48 + d) % 256 = 48 + d; omega
    unfold decN at h
    split at h
    · rename_i h1
      rw [List.mem_singleton.1 h, key n h1]; omega
    · rename_i h1
      rcases List.mem_append.1 h with h2 | h2
      · exact ih (n / 10) (by omega) c h2
      · rw [List.mem_singleton.1 h2, key (n % 10) (by omega)]; omega
theorem decN_ne (n : Nat) : decN n ≠ [] := by
  unfold decN; split <;> simp
def decS (n : Nat) : ByteArray := bs (decN n)
def numL (l : List UInt8) : Nat := l.foldl (fun n c => 10 * n + (c.toNat + 208) % 256) 0
def numR (s : ByteArray) : Nat := numL (s.data.toList.take 10)
theorem numL_dec (n : Nat) : numL (decN n) = n := by
  induction n using Nat.strongRecOn with
  | _ n ih =>
    have key : ∀ d, d < 10 → ((48 + d).toUInt8.toNat + 208) % 256 = d := fun d hd => by
      show ((48 + d) % 256 + 208) % 256 = d; omega
    unfold decN
    split
    · rename_i h1; unfold numL; rw [List.foldl_cons, List.foldl_nil, key n h1]; omega
    · rename_i h1
      have h2 := ih (n / 10) (by omega)
      unfold numL at h2 ⊢
      rw [List.foldl_append, h2, List.foldl_cons, List.foldl_nil, key (n % 10) (by omega)]; omega
theorem numL_snoc (l : List UInt8) (c : UInt8) : numL (l ++ [c]) = 10 * numL l + (c.toNat + 208) % 256 := by
  unfold numL; rw [List.foldl_append]; rfl
theorem numR_dec {n : Nat} (h : n ≤ 1000000000) : numR (decS n) = n := by
  unfold numR decS; rw [bs_data, List.take_of_length_le (decN_length (k := 9) (by omega)), numL_dec]
def numP (s : ByteArray) : Int := match Lib.atoiAll s.data.toList with
  | .ok v => v
  | Lib.NumEnd.syntax => 0
  | .range => Lib.atoiSat s.data.toList
theorem parse_dec : ∀ (l : List UInt8) (acc : Nat), (∀ c ∈ l, 48 ≤ c.toNat ∧ c.toNat ≤ 57) → (acc + 1) * 10 ^ l.length ≤ 1000000000000 → Lib.parseUint10 acc l = .ok (l.foldl (fun n c => 10 * n + (c.toNat + 208) % 256) acc)
  | [], acc, _, _ => rfl
  | c :: l, acc, hd, hb => by
    have h1 := hd c (List.mem_cons_self ..)
    have hp : 1 ≤ 10 ^ l.length := Nat.one_le_pow _ _ (by omega)
    rw [List.length_cons, Nat.pow_succ] at hb
    have hacc : (acc + 1) * 10 ≤ 1000000000000 := by
      have : (acc + 1) * 10 * 1 ≤ (acc + 1) * 10 * 10 ^ l.length := Nat.mul_le_mul_left _ hp
      rw [show (acc + 1) * (10 ^ l.length * 10) = (acc + 1) * 10 * 10 ^ l.length by rw [Nat.mul_comm (10 ^ l.length) 10, Nat.mul_assoc]] at hb
      omega
    rw [Lib.parseUint10, if_pos h1, if_neg (by omega), if_neg (by omega)]
    have e : acc * 10 + (c.toNat - 48) = 10 * acc + (c.toNat + 208) % 256 := by omega
    rw [e]
    refine parse_dec l _ (fun x hx => hd x (List.mem_cons_of_mem _ hx)) (Nat.le_trans (Nat.mul_le_mul_right _ (show 10 * acc + (c.toNat + 208) % 256 + 1 ≤ (acc + 1) * 10 by omega)) ?_)
    rw [Nat.mul_assoc, Nat.mul_comm 10]; exact hb
theorem numP_dec {n : Nat} (h : n ≤ 1000000000) : numP (decS n) = n := by
  have hl := decN_length (k := 9) (n := n) (by omega)
  have hm : Lib.parseUint10 0 (decN n) = .ok n := by
    have := parse_dec (decN n) 0 (decN_digit n) (by
      have : 10 ^ (decN n).length ≤ 10 ^ 10 := Nat.pow_le_pow_right (by omega) hl
      omega)
    rw [this]; exact congrArg _ (numL_dec n)
  unfold numP decS
  rw [bs_data]
  have ha : Lib.atoiAll (decN n) = .ok (n : Int) := by
    cases hq : decN n with
    | nil => exact absurd hq (decN_ne n)
    | cons c r =>
      have h1 := decN_digit n c (by rw [hq]; exact List.mem_cons_self ..)
      unfold Lib.atoiAll
      have hs : (if c.toNat = 43 ∨ c.toNat = 45 then r else c :: r) = c :: r := if_neg (by omega)
      have h45 : ¬ c.toNat = 45 := by omega
      simp only [hs]
      unfold Lib.parseMag
      rw [if_neg (by simp), ← hq, hm]
      simp only [h45, not_false_eq_true, true_and, false_and, if_false]
      rw [if_neg (by omega)]
  rw [ha]
def kCorp : List UInt8 := [99, 111, 114, 112, 111, 114, 97]
def kNext : List UInt8 := [110, 101, 120, 116]
def kJour : List UInt8 := [106, 111, 117, 114, 110, 97, 108]
def kAttr : List UInt8 := [97, 116, 116, 114, 105, 98, 117, 116, 101]
def kPiec : List UInt8 := [112, 105, 101, 99, 101]
def setL (b : Bool) : List UInt8 := if b then [49] else [48]
def lineL (w : List UInt8) (ws : List (List UInt8)) : List UInt8 := w ++ ws.flatMap fun l => 32 :: l
def hdrS (nx jr : Int) : List (List UInt8) := [lineL kCorp [[49]], lineL kNext [decN nx.toNat], lineL kJour [decN jr.toNat]]
def atS (x : ByteArray × Bool) : List UInt8 := lineL kAttr [x.1.data.toList, setL x.2]
def pcS (p : Int × List ByteArray) : List UInt8 := lineL kPiec (decN p.1.toNat :: p.2.map fun n => n.data.toList)
def nl (l : List UInt8) : List UInt8 := l ++ [10]
def hdrL (nx jr : Int) : List UInt8 := (hdrS nx jr).flatMap nl
def manL (al : List (ByteArray × Bool)) (nx jr : Int) (ps : List (Int × List ByteArray)) : List UInt8 := hdrL nx jr ++ al.flatMap (fun x => nl (atS x)) ++ ps.flatMap (fun p => nl (pcS p))
def pcV (p : Pc) : Int × List ByteArray := (p.f, p.ns)
theorem manL_lines (al : List (ByteArray × Bool)) (nx jr : Int) (ps : List (Int × List ByteArray)) : manL al nx jr ps = (hdrS nx jr ++ al.map atS ++ ps.map pcS).flatMap nl := by
  unfold manL hdrL; rw [List.flatMap_append, List.flatMap_append, List.flatMap_map, List.flatMap_map]
theorem flatMap_le {α : Type} {f : α → List UInt8} {b : Nat} : ∀ {l : List α}, (∀ x ∈ l, (f x).length ≤ b) → (l.flatMap f).length ≤ l.length * b
  | [], _ => by simp
  | a :: l, h => by
    have h1 := h a (List.mem_cons_self ..)
    have h2 := flatMap_le (l := l) fun x hx => h x (List.mem_cons_of_mem _ hx)
    rw [List.flatMap_cons, List.length_append, List.length_cons, Nat.add_mul]; omega
theorem take_flatMap_le {α : Type} {f : α → List UInt8} {l : List α} (k : Nat) : ((l.take k).flatMap f).length ≤ (l.flatMap f).length := by
  conv => rhs; rw [← List.take_append_drop k l, List.flatMap_append, List.length_append]
  omega
theorem nameB_size {s : ByteArray} (h : nameB s = true) : s.data.toList.length ≤ 32 := by
  unfold nameB at h; rw [Bool.and_eq_true, decide_eq_true_iff] at h; exact h.1
theorem nameB_chars {s : ByteArray} (h : nameB s = true) : ∀ c ∈ s.data.toList, nmN c.toNat = true := by
  unfold nameB at h; rw [Bool.and_eq_true] at h
  intro c hc
  cases hq : s.data.toList with
  | nil => rw [hq] at hc; cases hc
  | cons d r =>
    rw [hq] at hc h
    have h2 := h.2
    unfold nameL at h2; rw [Bool.and_eq_true] at h2
    rcases List.mem_cons.1 hc with rfl | h3
    · exact nmF_N h2.1
    · exact List.all_eq_true.1 h2.2 c h3
theorem nm_no {s : ByteArray} (h : nameB s = true) {c : UInt8} (hc : nmN c.toNat = false) : c ∉ s.data.toList := fun hm => by
  rw [nameB_chars h c hm] at hc; cases hc
theorem dec_len10 {z : Int} (h : z ≤ 1000000000) : (decN z.toNat).length ≤ 10 := decN_length (k := 9) (by omega)
section
variable {al : List (ByteArray × Bool)} {nx jr : Int} {pl : List Pc}
theorem atS_len {x : ByteArray × Bool} (h : nameB x.1 = true) : (nl (atS x)).length ≤ 45 := by
  have := nameB_size h
  unfold nl atS lineL setL kAttr
  cases x.2 <;> simp only [List.flatMap_cons, List.flatMap_nil, List.length_append, List.length_cons, List.length_nil, if_true, if_false, Bool.false_eq_true] <;> omega
theorem nms_len {l : List ByteArray} (h : ∀ n ∈ l, nameB n = true) : ((l.map fun n => n.data.toList).flatMap fun x => (32 : UInt8) :: x).length ≤ l.length * 33 := by
  rw [List.flatMap_map]
  exact flatMap_le fun n hn => by have := nameB_size (h n hn); simp only [List.length_cons]; omega
theorem pcS_len {p : Int × List ByteArray} (h1 : p.1 ≤ 1000000000) (h2 : ∀ n ∈ p.2, nameB n = true) (h3 : p.2.length ≤ 64) : (nl (pcS p)).length ≤ 2130 := by
  have := nms_len h2
  have := dec_len10 h1
  unfold nl pcS lineL kPiec
  simp only [List.flatMap_cons, List.length_append, List.length_cons, List.length_nil]; omega
theorem hdrL_len (h1 : nx ≤ 1000000000) (h2 : jr ≤ 1000000000) : (hdrL nx jr).length ≤ 45 := by
  have := dec_len10 h1; have := dec_len10 h2
  unfold hdrL hdrS nl lineL kCorp kNext kJour
  simp only [List.flatMap_cons, List.flatMap_nil, List.length_append, List.length_cons, List.length_nil]; omega
theorem delOk.names {l : List ByteArray} (h : delOk l) : ∀ n ∈ l, nameB n = true := fun n hn => by
  obtain ⟨i, hi⟩ := List.getElem?_of_mem hn
  exact (h.1 i n hi).1
theorem stOk.names (h : stOk al nx jr pl) : ∀ x ∈ al, nameB x.1 = true := fun x hx => by
  obtain ⟨i, hi⟩ := List.getElem?_of_mem hx
  exact (h.1.1 i x hi).1
theorem stOk.pcs (h : stOk al nx jr pl) : ∀ p ∈ pl, 1 ≤ p.f ∧ p.f < nx ∧ delOk p.ns := fun p hp => by
  obtain ⟨i, hi⟩ := List.getElem?_of_mem hp
  obtain ⟨h1, h2, _, h4⟩ := h.2.2.2.2.2 i p hi
  exact ⟨h1, h2, h4⟩
theorem ats_len (h : stOk al nx jr pl) : (al.flatMap fun x => nl (atS x)).length ≤ 360 := by
  have h1 := flatMap_le (f := fun x => nl (atS x)) (b := 45) fun x hx => atS_len (h.names x hx)
  have h2 := h.1.2.2; omega
theorem pcs_len (h : stOk al nx jr pl) : (pl.flatMap fun p => nl (pcS (pcV p))).length ≤ 34080 := by
  have h1 := flatMap_le (f := fun p => nl (pcS (pcV p))) (b := 2130) (l := pl) fun p hp => by
    have h2 := h.pcs p hp
    exact pcS_len (by have := h.2.1; show p.f ≤ _; omega) h2.2.2.names h2.2.2.2
  have h2 := h.2.2.2.2.1; omega
end
end Go.Kw
