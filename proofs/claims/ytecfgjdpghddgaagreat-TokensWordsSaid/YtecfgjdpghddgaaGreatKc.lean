/-
  KC: maps from strings to numbers that the call made, ranges over them and over strings, for the program logic of Kw. Our own text; it names no program.
-/
import Derived.Test.YtecfgjdpghddgaaGreatKp
import Derived.Test.YtecfgjdpghddgaaGreatM01
import Derived.MapKept
import Derived.Maps.RangeRun
set_option linter.unusedVariables false
set_option linter.unusedSimpArgs false
set_option linter.unusedSectionVars false
namespace Go.Kw
open Go.RowKit Go.MapKept
abbrev MapL := List (ByteArray × Nat)
def mapCells (m : MapL) : List (Value × Value) := m.map fun p => (.string p.1, .int .i64 (p.2 : Int))
def entCells (es : Array MapEntry) : List (Value × Value) := es.toList.map fun e => (e.key, e.val)
def cMap (b : Nat) (m : MapL) : Chunk where
  foot := [b]
  holds w := ∃ es clock, w.heap[b]? = some (.map es clock) ∧ Stamped es clock ∧ entCells es = mapCells m
  stable w w' h hc := by obtain ⟨es, clock, h1, r⟩ := hc; exact ⟨es, clock, by rw [h b (by simp)]; exact h1, r⟩
def cRng (b r : Nat) (m done : MapL) : Chunk where
  foot := [b, r]
  holds w := ∃ es clock seen rest, w.heap[b]? = some (.map es clock) ∧ Stamped es clock ∧ entCells es = mapCells m ∧ w.heap[r]? = some (.mapIter (some b) clock seen clock) ∧
    (leftOf es seen).toList.map (fun e => (e.key, e.val)) = mapCells rest ∧ (done ++ rest).Perm m ∧
    ∀ p, done.getLast? = some p → ∃ e ∈ es.toList, seen.back? = some e.born ∧ e.key = .string p.1 ∧ e.val = .int .i64 (p.2 : Int)
  stable w w' h hc := by obtain ⟨es, clock, seen, rest, h1, h2, h3, h4, h5⟩ := hc; exact ⟨es, clock, seen, rest, by rw [h b (by simp)]; exact h1, h2, h3, by rw [h r (by simp)]; exact h4, h5⟩
def cSIt (r : Nat) (s : ByteArray) (i : Nat) : Chunk where
  foot := [r]
  holds w := w.heap[r]? = some (.stringIter s i)
  stable w w' h hc := by rw [h r (by simp)]; exact hc
def mkeys (m : MapL) : List ByteArray := m.map (·.1)
def mget (m : MapL) (s : ByteArray) : Nat := ((m.find? fun p => decide (p.1 = s)).map (·.2)).getD 0
instance (s : ByteArray) (m : MapL) : Decidable (s ∈ mkeys m) := decidable_of_iff (∃ p ∈ m, p.1 = s) (by simp [mkeys])
def mini (m : MapL) (s : ByteArray) : MapL := if s ∈ mkeys m then m else m ++ [(s, 0)]
def mset (m : MapL) (s : ByteArray) (c : Nat) : MapL := m.map fun p => if p.1 = s then (p.1, c) else p
theorem ent_mem {es : Array MapEntry} {m : MapL} (h : entCells es = mapCells m) {e : MapEntry} (he : e ∈ es.toList) : ∃ s c, e.key = .string s ∧ e.val = .int .i64 ((c : Nat) : Int) ∧ (s, c) ∈ m := by
  have : (e.key, e.val) ∈ mapCells m := by rw [← h]; exact List.mem_map.2 ⟨e, he, rfl⟩
  obtain ⟨⟨s, c⟩, hp, heq⟩ := List.mem_map.1 this
  simp only [Prod.mk.injEq] at heq
  exact ⟨s, c, heq.1.symm, heq.2.symm, hp⟩
theorem ent_keys {es : Array MapEntry} {m : MapL} (h : entCells es = mapCells m) : ∀ x ∈ es.toList, IsKey .string x.key := fun x hx => by
  obtain ⟨s, c, h1, _⟩ := ent_mem h hx
  rw [h1]; exact trivial
theorem ent_get {es : Array MapEntry} {m : MapL} (h : entCells es = mapCells m) {j : Nat} {e : MapEntry} (he : es.toList[j]? = some e) : ∃ p, m[j]? = some p ∧ e.key = .string p.1 ∧ e.val = .int .i64 (p.2 : Int) := by
  have h1 : (entCells es)[j]? = (mapCells m)[j]? := by rw [h]
  unfold entCells mapCells at h1
  rw [List.getElem?_map, List.getElem?_map, he] at h1
  cases hp : m[j]? with
  | none => rw [hp] at h1; cases h1
  | some p => rw [hp] at h1; simp at h1; exact ⟨p, rfl, h1.1, h1.2⟩
theorem ent_nodup {es : Array MapEntry} {clock : Nat} {m : MapL} (hs : Stamped es clock) (h : entCells es = mapCells m) : (mkeys m).Nodup := by
  have h1 := hs.2.2
  have e : es.toList.map (·.key) = (mkeys m).map Value.string := by
    have := congrArg (List.map Prod.fst) h
    simpa [entCells, mapCells, mkeys, List.map_map, Function.comp_def] using this
  rw [e, List.Nodup, List.pairwise_map] at h1
  exact h1.imp fun h e => h (by rw [e])
theorem mget_of {m : MapL} (hn : (mkeys m).Nodup) {j : Nat} {p : ByteArray × Nat} (hj : m[j]? = some p) : mget m p.1 = p.2 := by
  induction m generalizing j with
  | nil => simp at hj
  | cons q r ih =>
    obtain ⟨h1, h2⟩ := List.nodup_cons.1 (show (q.1 :: mkeys r).Nodup from hn)
    cases j with
    | zero => simp at hj; subst hj; simp [mget]
    | succ j =>
      have hj' : r[j]? = some p := by simpa using hj
      have hne : q.1 ≠ p.1 := fun e => h1 (e ▸ List.mem_map.2 ⟨p, List.mem_of_getElem? hj', rfl⟩)
      have := ih h2 hj'
      unfold mget at this ⊢
      rw [List.find?_cons_of_neg (by simpa using hne)]; exact this
theorem mget_none {m : MapL} {s : ByteArray} (h : s ∉ mkeys m) : mget m s = 0 := by
  unfold mget
  rw [List.find?_eq_none.2 fun p hp => by simp; exact fun e => h (List.mem_map.2 ⟨p, hp, e⟩)]; rfl
theorem mget_set {m : MapL} {s t : ByteArray} {c : Nat} (h : s ∈ mkeys m) : mget (mset m s c) t = if t = s then c else mget m t := by
  unfold mget mset
  induction m with
  | nil => cases h
  | cons p r ih =>
    by_cases hp : p.1 = s
    · by_cases ht : t = s
      · subst ht; rw [List.map_cons, if_pos hp, List.find?_cons_of_pos (by simpa using hp), if_pos rfl]; rfl
      · rw [List.map_cons, if_pos hp, List.find?_cons_of_neg (by simp; exact fun e => ht (e.symm.trans hp)), if_neg ht, List.find?_cons_of_neg (by simp; exact fun e => ht (e.symm.trans hp))]
        clear ih
        have : ∀ l : MapL, (List.find? (fun p => decide (p.1 = t)) (l.map fun p => if p.1 = s then (p.1, c) else p)) = List.find? (fun p => decide (p.1 = t)) l := fun l => by
          induction l with
          | nil => rfl
          | cons q l ih =>
            rw [List.map_cons]
            by_cases hq : q.1 = s
            · rw [if_pos hq, List.find?_cons_of_neg (by simp; exact fun e => ht (e.symm.trans hq)), List.find?_cons_of_neg (by simp; exact fun e => ht (e.symm.trans hq)), ih]
            · rw [if_neg hq]
              by_cases hqt : q.1 = t
              · rw [List.find?_cons_of_pos (by simpa using hqt), List.find?_cons_of_pos (by simpa using hqt)]
              · rw [List.find?_cons_of_neg (by simpa using hqt), List.find?_cons_of_neg (by simpa using hqt), ih]
        rw [this]
    · have hr : s ∈ mkeys r := by
        rcases List.mem_cons.1 (show s ∈ p.1 :: mkeys r from h) with e | e
        · exact absurd e.symm hp
        · exact e
      rw [List.map_cons, if_neg hp]
      by_cases hpt : p.1 = t
      · rw [List.find?_cons_of_pos (by simpa using hpt), List.find?_cons_of_pos (by simpa using hpt), if_neg (fun e => hp (hpt.trans e))]
      · rw [List.find?_cons_of_neg (by simpa using hpt), List.find?_cons_of_neg (by simpa using hpt)]; exact ih hr
theorem mkeys_set (m : MapL) (s : ByteArray) (c : Nat) : mkeys (mset m s c) = mkeys m := by
  unfold mkeys mset
  rw [List.map_map]
  exact List.map_congr_left fun p _ => by simp only [Function.comp]; split <;> rfl
theorem mkeys_ini (m : MapL) (s : ByteArray) : s ∈ mkeys (mini m s) ∧ ∀ t, t ∈ mkeys (mini m s) ↔ t = s ∨ t ∈ mkeys m := by
  unfold mini
  split
  · rename_i h
    exact ⟨h, fun t => ⟨.inr, fun ht => ht.elim (fun e => e ▸ h) id⟩⟩
  · refine ⟨by simp [mkeys], fun t => ?_⟩
    simp only [mkeys, List.map_append, List.map_cons, List.map_nil, List.mem_append, List.mem_singleton]
    exact Or.comm
theorem mget_ini (m : MapL) (s t : ByteArray) : mget (mini m s) t = mget m t := by
  unfold mini
  split
  · rfl
  · rename_i h
    unfold mget
    rw [List.find?_append]
    cases hf : m.find? fun p => decide (p.1 = t) with
    | some p => rfl
    | none =>
      simp only [Option.none_or, Option.map_none, Option.getD_none]
      by_cases hst : s = t
      · rw [List.find?_cons_of_pos (by simpa using hst)]; rfl
      · rw [List.find?_cons_of_neg (by simpa using hst)]; rfl
theorem mini_length (m : MapL) (s : ByteArray) : (mini m s).length ≤ m.length + 1 := by
  unfold mini; split <;> simp
section
variable {P : Program} {n : Nat} {L : Know} {w w0 : World} {cs : List Chunk} {K : Value → World → Prop} {d : Option Nat} {ty : TypeId} {pos : String} {af : Array Edge} {g : Option (Nat × Bool)}
theorem OpE.makeMap {t : TypeId} (hs : Sat w0 cs w) (hk : ∀ b w', Sat w0 (cs ++ [cMap b []]) w' → K (.map (some b)) w') : OpE P n L w ⟨d, .makeMap t none, ty, pos, af, g⟩ K := by
  refine .val (v := .map (some w.heap.size)) (w' := w.alloc (.map #[] 0)) (fun ρ hρ => ?_) (hk _ _ (hs.add (.alloc _ _) ⟨#[], 0, heap_alloc_new w _, stamped_empty 0, rfl⟩ (by simp [cMap])))
  simp [execOp, Instr.makeMap, go_sem]
theorem Ev.lenMap {x : Operand} {t k e : TypeId} {i b : Nat} {m : MapL} (hu : P.underlying t = some (.map k e)) (hs : Sat w0 cs w) (hi : cs[i]? = some (cMap b m)) (hx : evK L x = some (.map (some b))) :
    Ev P n L w ⟨d, .call ⟨.builtin .len, #[x], #[t]⟩, ty, pos, af, g⟩ (.int .i64 ((m.length : Nat) : Int)) := .of fun ρ hρ => by
  obtain ⟨es, clock, hb, hst, hc⟩ := hs.get hi
  have hl : es.size = m.length := by have := congrArg List.length hc; simpa [entCells, mapCells] using this
  simp [execOp, hρ hx, resolve, invoke, Builtin.len_, run_underlying hu, MapKept.run_getObj_map hb, go_sem, goInt, hl]
theorem run_lookup_map {t k e : TypeId} {b : Nat} {es : Array MapEntry} {clock : Nat} {m : MapL} (hu : P.underlying t = some (.map k e)) (hks : P.underlying k = some .string) (hz : (zeroValue e).run P w = .ok (.int .i64 0) w)
    (hb : w.heap[b]? = some (.map es clock)) (hst : Stamped es clock) (hc : entCells es = mapCells m) (s : ByteArray) :
    (Instr.lookup t (.map (some b)) (.string s) false).run P w = .ok (.int .i64 ((mget m s : Nat) : Int)) w := by
  have hk : IsKey .string (.string s) := trivial
  have hn := ent_nodup hst hc
  rcases findNow_spec hk es.toList 0 (ent_keys hc) with ⟨h1, h2⟩ | ⟨j, e0, h1, h2, h3⟩
  · have h0 : mget m s = 0 := mget_none fun hm => by
      obtain ⟨p, hp, rfl⟩ := List.mem_map.1 hm
      have : (Value.string p.1, Value.int .i64 (p.2 : Int)) ∈ entCells es := by rw [hc]; exact List.mem_map.2 ⟨p, hp, rfl⟩
      obtain ⟨x, hx, hxe⟩ := List.mem_map.1 this
      exact h2 x hx (by simpa using congrArg Prod.fst hxe)
    rw [h0]
    simp [Instr.lookup, run_underlying hu, MapKept.run_getObj_map hb, MapKept.run_checkKey hks hk, MapKept.run_findKey hks h1, hz, Result.andThen]
  · obtain ⟨p, hp, hpk, hpv⟩ := ent_get hc h2
    have : p.1 = s := by rw [hpk] at h3; cases h3; rfl
    subst this
    rw [mget_of hn hp]
    simp [Instr.lookup, run_underlying hu, MapKept.run_getObj_map hb, MapKept.run_checkKey hks hk, MapKept.run_findKey hks h1, hpv, Result.andThen]
theorem Ev.lookup {x y : Operand} {t k e : TypeId} {i b : Nat} {m : MapL} {s : ByteArray} (hu : P.underlying t = some (.map k e)) (hks : P.underlying k = some .string) (hz : ∀ w, (zeroValue e).run P w = .ok (.int .i64 0) w)
    (hs : Sat w0 cs w) (hi : cs[i]? = some (cMap b m)) (hx : evK L x = some (.map (some b))) (hy : evK L y = some (.string s)) :
    Ev P n L w ⟨d, .lookup t x y false, ty, pos, af, g⟩ (.int .i64 ((mget m s : Nat) : Int)) := .of fun ρ hρ => by
  obtain ⟨es, clock, hb, hst, hc⟩ := hs.get hi
  simp only [execOp, hρ hx, hρ hy, Sem.run_bind, run_lookup_map hu hks (hz w) hb hst hc s, Result.andThen_ok, Sem.run_pure]
theorem Chg.any {S : List Nat} {w w' : World} (h : Chg [] w w') : Chg S w w' := ⟨h.os, h.tape, h.output, h.size, fun q hq _ => h.block q hq (by simp)⟩
theorem perm_pull {l : List MapEntry} {e : MapEntry} (he : e ∈ l) (hnd : (l.map (·.born)).Nodup) : (e :: l.filter fun x => !(x.born == e.born)).Perm l := by
  induction l with
  | nil => cases he
  | cons y l ih =>
    obtain ⟨h1, h2⟩ := List.nodup_cons.1 (show (y.born :: l.map (·.born)).Nodup from hnd)
    rcases List.mem_cons.1 he with rfl | he
    · rw [List.filter_cons_of_neg (by simp), List.filter_eq_self.2 fun x hx => by
        have : x.born ≠ e.born := fun q => h1 (q ▸ List.mem_map.2 ⟨x, hx, rfl⟩)
        simpa using this]
    · have hne : y.born ≠ e.born := fun q => h1 (q ▸ List.mem_map.2 ⟨e, he, rfl⟩)
      rw [List.filter_cons_of_pos (by simpa using hne)]
      exact (List.Perm.swap ..).trans ((ih he h2).cons y)
theorem chg_set {b : Nat} {o : Obj} (o' : Obj) (hb : w.heap[b]? = some o) : Chg [b] w { w with heap := w.heap.setIfInBounds b o' } :=
  ⟨rfl, rfl, rfl, by simp, fun k _ hn => (MapKept.heap_set hb).2 k (by simpa using hn)⟩
theorem OpE.rangeMap {x : Operand} {t k e : TypeId} {i b : Nat} {m : MapL} (hu : P.underlying t = some (.map k e)) (hs : Sat w0 cs w) (hi : cs[i]? = some (cMap b m)) (hx : evK L x = some (.map (some b)))
    (hk : ∀ r w', Sat w0 (cs.set i (cRng b r m [])) w' → K (.pointer (some ⟨r, 0, none⟩)) w') : OpE P n L w ⟨d, .range t x, ty, pos, af, g⟩ K := by
  obtain ⟨es, clock, hb, hst, hc⟩ := hs.get hi
  have hlt : b < w.heap.size := (Array.getElem?_eq_some_iff.1 hb).1
  refine .val (v := .pointer (some ⟨w.heap.size, 0, none⟩)) (w' := w.alloc (.mapIter (some b) clock #[] clock)) (fun ρ hρ => ?_)
    (hk _ _ (hs.set i hi (Chg.alloc w _).any
      ⟨es, clock, #[], m, ((MapKept.heap_alloc w _).2 b hlt).trans hb, hst, hc, (MapKept.heap_alloc w _).1, ?_, by simp, by simp⟩ ?_))
  · simp only [execOp, hρ hx, Sem.run_bind, run_range_map w t k e b es clock hu hb, Result.andThen_ok, Sem.run_pure]
  · rw [show leftOf es #[] = es from by unfold leftOf; exact Array.filter_eq_self.2 (by simp)]; exact hc
  · intro q hq
    rcases List.mem_cons.1 (show q ∈ [b, w.heap.size] from hq) with rfl | hq
    · exact .inl (List.mem_singleton.2 rfl)
    · refine .inr ?_
      have : q = w.heap.size := by simpa using hq
      subst this
      exact ⟨Nat.le_refl _, by simp⟩
theorem OpE.nextMap {x : Operand} {i b r : Nat} {m done : MapL} (hs : Sat w0 cs w) (hi : cs[i]? = some (cRng b r m done)) (hx : evK L x = some (.pointer (some ⟨r, 0, none⟩)))
    (hd : done.Perm m → K (.tuple #[.bool false]) w)
    (hm : ∀ s c w', (s, c) ∈ m → Sat w0 (cs.set i (cRng b r m (done ++ [(s, c)]))) w' → K (.tuple #[.bool true, .string s, .int .i64 ((c : Nat) : Int)]) w') : OpE P n L w ⟨d, .next x false, ty, pos, af, g⟩ K := by
  obtain ⟨es, clock, seen, rest, hb, hst, hc, hr, hl, hp, _⟩ := hs.get hi
  have hne : r ≠ b := fun e => by rw [e, hb] at hr; cases hr
  rcases run_next_at (P := P) w ty r b clock clock seen es clock hr hb hst.1 (Nat.le_refl _) with ⟨h0, hrun⟩ | ⟨e, he, w1, hal, hrun⟩
  · have hrest : rest = [] := by
      have := congrArg List.length hl
      simp [mapCells, h0] at this
      exact List.eq_nil_of_length_eq_zero this.symm
    subst hrest
    refine .val (fun ρ hρ => ?_) (hd (by simpa using hp))
    simp only [execOp, hρ hx, Sem.run_bind, hrun, Result.andThen_ok, Sem.run_pure]
  · obtain ⟨hem, hes⟩ := mem_left he
    obtain ⟨s, c, hk1, hv1, hmem⟩ := ent_mem hc hem
    have hw1 : w1 = w ∨ w1 = w.drew := hal
    have hr1 : w1.heap[r]? = some (.mapIter (some b) clock seen clock) := by rcases hal with rfl | rfl <;> exact hr
    have hb1 : w1.heap[b]? = some (.map es clock) := by rcases hal with rfl | rfl <;> exact hb
    have hset := MapKept.heap_set (o' := .mapIter (some b) clock (seen.push e.born) clock) hr1
    have hb' : (ChangeMaps.setBlock w1 r (.mapIter (some b) clock (seen.push e.born) clock)).heap[b]? = some (.map es clock) := (hset.2 b (fun e1 => hne e1.symm)).trans hb1
    have hleft : ∃ rest', (leftOf es (seen.push e.born)).toList.map (fun e => (e.key, e.val)) = mapCells rest' ∧ ((s, c) :: rest').Perm rest := by
      have hperm : (e :: (leftOf es (seen.push e.born)).toList).Perm (leftOf es seen).toList := by
        have hnd : ((leftOf es seen).toList.map (·.born)).Nodup := by
          have : (leftOf es seen).toList.Sublist es.toList := by unfold leftOf; rw [Array.toList_filter]; exact List.filter_sublist
          exact hst.2.1.sublist (this.map _)
        have e1 : (leftOf es (seen.push e.born)).toList = (leftOf es seen).toList.filter fun x => !(x.born == e.born) := by
          unfold leftOf
          rw [Array.toList_filter, Array.toList_filter, List.filter_filter]
          congr 1
          funext x
          rw [contains_push]
          cases seen.contains x.born <;> cases (x.born == e.born) <;> rfl
        rw [e1]
        exact perm_pull he hnd
      have hm := hperm.map (fun e => (e.key, e.val))
      rw [hl, List.map_cons, hk1, hv1] at hm
      have hall : ∀ q ∈ (leftOf es (seen.push e.born)).toList.map (fun e => (e.key, e.val)), ∃ p : ByteArray × Nat, q = (Value.string p.1, Value.int .i64 (p.2 : Int)) := fun q hq => by
        have := hm.subset (List.mem_cons_of_mem _ hq)
        obtain ⟨p, _, rfl⟩ := List.mem_map.1 this
        exact ⟨p, rfl⟩
      have hex : ∀ l : List (Value × Value), (∀ q ∈ l, ∃ p : ByteArray × Nat, q = (Value.string p.1, Value.int .i64 (p.2 : Int))) → ∃ rest' : MapL, l = mapCells rest' := fun l => by
        induction l with
        | nil => exact fun _ => ⟨[], rfl⟩
        | cons a l ih =>
          intro h
          obtain ⟨p, hp⟩ := h a (List.mem_cons_self ..)
          obtain ⟨r', hr'⟩ := ih fun q hq => h q (List.mem_cons_of_mem _ hq)
          exact ⟨p :: r', by rw [hp, hr']; rfl⟩
      obtain ⟨rest', hr'⟩ := hex _ hall
      refine ⟨rest', hr', ?_⟩
      rw [hr'] at hm
      have hm2 : (mapCells ((s, c) :: rest')).Perm (mapCells rest) := hm
      -- the pairs are told by their cells
      have hinj : ∀ a b : MapL, (mapCells a).Perm (mapCells b) → a.Perm b := fun a b h => by
        have := h.map (fun q : Value × Value => match q with | (.string s, .int _ z) => (s, z.toNat) | _ => (ByteArray.empty, 0))
        simpa [mapCells, List.map_map, Function.comp_def] using this
      exact hinj _ _ hm2
    obtain ⟨rest', hl', hp'⟩ := hleft
    refine .val (v := .tuple #[.bool true, .string s, .int .i64 ((c : Nat) : Int)]) (w' := ChangeMaps.setBlock w1 r (.mapIter (some b) clock (seen.push e.born) clock)) (fun ρ hρ => ?_)
      (hm s c _ hmem (hs.set i hi ?_ ⟨es, clock, seen.push e.born, rest', hb', hst, hc, hset.1, hl', ?_, fun p hp => ⟨e, hem, by simp, ?_⟩⟩ (fun _ h => .inl h)))
    · rw [← hk1, ← hv1]
      simp only [execOp, hρ hx, Sem.run_bind, hrun, Result.andThen_ok, Sem.run_pure]
    · rcases hal with rfl | rfl <;> exact ⟨rfl, rfl, rfl, by simp [ChangeMaps.setBlock], fun q _ hq => hset.2 q (fun e1 => hq (by rw [e1]; exact List.mem_cons_of_mem _ (List.mem_singleton.2 rfl)))⟩
    · refine List.Perm.trans ?_ hp
      rw [List.append_assoc]
      exact hp'.append_left done
    · have : p = (s, c) := by simpa using hp.symm
      subst this; exact ⟨hk1, hv1⟩
theorem Ev.entry {x : Operand} {i b r : Nat} {m done : MapL} {s : ByteArray} {c : Nat} (hs : Sat w0 cs w) (hi : cs[i]? = some (cRng b r m (done ++ [(s, c)]))) (hx : evK L x = some (.pointer (some ⟨r, 0, none⟩))) :
    Ev P n L w ⟨d, .entry x, ty, pos, af, g⟩ (.tuple #[.string s, .int .i64 ((c : Nat) : Int)]) := .of fun ρ hρ => by
  obtain ⟨es, clock, seen, rest, hb, hst, hc, hr, hl, hp, hlast⟩ := hs.get hi
  obtain ⟨e, he, hbk, hk, hv⟩ := hlast (s, c) (by simp)
  have hf : es.find? (·.born == e.born) = some e := by rw [← Array.find?_toList]; exact find_born e es.toList hst.2.1 he
  have hrun : (Instr.entry (.pointer (some ⟨r, 0, none⟩))).run P w = .ok (.tuple #[e.key, e.val]) w := by
    simp only [Instr.entry, getObj, Sem.run_bind, Sem.run, hr, hb, Result.andThen, hbk, bne_self_eq_false, Bool.false_eq_true, if_false, hf]
    rfl
  simp only [execOp, hρ hx, Sem.run_bind, hrun, Result.andThen_ok, Sem.run_pure, hk, hv]
def mput (m : MapL) (s : ByteArray) (c : Nat) : MapL := mset (mini m s) s c
theorem mput_keys (m : MapL) (s : ByteArray) (c : Nat) : ∀ t, t ∈ mkeys (mput m s c) ↔ t = s ∨ t ∈ mkeys m := fun t => by
  unfold mput; rw [mkeys_set]; exact (mkeys_ini m s).2 t
theorem mput_get (m : MapL) (s t : ByteArray) (c : Nat) : mget (mput m s c) t = if t = s then c else mget m t := by
  unfold mput; rw [mget_set (mkeys_ini m s).1, mget_ini]
theorem mput_length (m : MapL) (s : ByteArray) (c : Nat) : (mput m s c).length ≤ m.length + 1 := by
  unfold mput mset; rw [List.length_map]; exact mini_length m s
theorem OpE.mapUpdate {x y z : Operand} {t k e : TypeId} {i b c : Nat} {m : MapL} {s : ByteArray} (hu : P.underlying t = some (.map k e)) (hks : P.underlying k = some .string)
    (hs : Sat w0 cs w) (hi : cs[i]? = some (cMap b m)) (hx : evK L x = some (.map (some b))) (hy : evK L y = some (.string s)) (hz : evK L z = some (.int .i64 ((c : Nat) : Int)))
    (hk : ∀ w', Sat w0 (cs.set i (cMap b (mput m s c))) w' → K undef w') : OpE P n L w ⟨d, .mapUpdate t x y z, ty, pos, af, g⟩ K := by
  obtain ⟨es, clock, hb, hst, hc⟩ := hs.get hi
  have hkey : IsKey .string (.string s) := trivial
  have hn := ent_nodup hst hc
  rcases findNow_spec hkey es.toList 0 (ent_keys hc) with ⟨h1, h2⟩ | ⟨j, e0, h1, h2, h3⟩
  · have hnm : s ∉ mkeys m := fun hm => by
      obtain ⟨p, hp, rfl⟩ := List.mem_map.1 hm
      have : (Value.string p.1, Value.int .i64 (p.2 : Int)) ∈ entCells es := by rw [hc]; exact List.mem_map.2 ⟨p, hp, rfl⟩
      obtain ⟨x, hx, hxe⟩ := List.mem_map.1 this
      exact h2 x hx (by simpa using congrArg Prod.fst hxe)
    refine .unit (w' := { w with heap := w.heap.setIfInBounds b (.map (es.push { key := .string s, val := .int .i64 ((c : Nat) : Int), born := clock }) (clock + 1)) }) (fun ρ hρ => ?_)
      (hk _ (hs.set i hi (chg_set _ hb) ⟨_, _, (MapKept.heap_set hb).1, stamped_push hst h2, ?_⟩ (fun _ h => .inl h)))
    · simp [execOp, hρ hx, hρ hy, hρ hz, Instr.mapUpdate, run_underlying hu, MapKept.run_getObj_map hb, MapKept.run_checkKey hks hkey, MapKept.run_findKey hks h1, MapKept.run_setObj_map _ hb, Result.andThen]
    · have e1 : mput m s c = m ++ [(s, c)] := by
        unfold mput mini mset
        rw [if_neg hnm, List.map_append]
        have : m.map (fun p => if p.1 = s then (p.1, c) else p) = m := by
          conv => rhs; rw [← List.map_id m]
          exact List.map_congr_left fun p hp => if_neg fun (e : p.1 = s) => hnm (e ▸ List.mem_map.2 ⟨p, hp, rfl⟩)
        rw [this]; simp
      rw [e1]
      simp only [entCells, Array.toList_push, List.map_append, List.map_cons, List.map_nil]
      rw [show es.toList.map (fun e => (e.key, e.val)) = mapCells m from hc]
      simp [mapCells]
  · obtain ⟨p0, hp0, hp0k, hp0v⟩ := ent_get hc h2
    have hp0s : p0.1 = s := by rw [hp0k] at h3; cases h3; rfl
    have hm : s ∈ mkeys m := hp0s ▸ List.mem_map.2 ⟨p0, List.mem_of_getElem? hp0, rfl⟩
    have hj : es[j]? = some e0 := by simpa using h2
    have hek : e0.key = .string s := h3
    have hkk : ∀ e', es[j]? = some e' → ({ e' with key := .string s, val := .int .i64 ((c : Nat) : Int) } : MapEntry).key = e'.key := fun e' he' => by rw [hj] at he'; cases he'; exact hek.symm
    refine .unit (w' := { w with heap := w.heap.setIfInBounds b (.map (es.modify j fun e => { e with key := .string s, val := .int .i64 ((c : Nat) : Int) }) clock) }) (fun ρ hρ => ?_)
      (hk _ (hs.set i hi (chg_set _ hb) ⟨_, _, (MapKept.heap_set hb).1, stamped_modify hst j _ (fun _ _ => rfl) (fun e' _ he' => hkk e' he'), ?_⟩ (fun _ h => .inl h)))
    · simp [execOp, hρ hx, hρ hy, hρ hz, Instr.mapUpdate, run_underlying hu, MapKept.run_getObj_map hb, MapKept.run_checkKey hks hkey, MapKept.run_findKey hks h1, hj, hek, MapKept.run_keyThatStays hkey, MapKept.run_setObj_map _ hb, Result.andThen]
    · have e1 : mput m s c = mset m s c := by unfold mput mini; rw [if_pos hm]
      rw [e1]
      unfold entCells mapCells mset
      rw [List.map_map]
      apply List.ext_getElem?
      intro q
      rw [List.getElem?_map, List.getElem?_map, Array.getElem?_toList, Array.getElem?_modify]
      have hcq : (es[q]?).map (fun e => (e.key, e.val)) = (m[q]?).map fun p => (Value.string p.1, Value.int .i64 (p.2 : Int)) := by
        have := congrArg (·[q]?) hc
        simpa [entCells, mapCells, List.getElem?_map] using this
      by_cases hq : j = q
      · subst hq
        rw [if_pos rfl, hj, hp0]
        simp [Function.comp, hp0s]
      · rw [if_neg hq, hcq]
        cases hmq : m[q]? with
        | none => rfl
        | some p =>
          have hne : p.1 ≠ s := fun e => by
            have hql : q < (mkeys m).length := by have := (List.getElem?_eq_some_iff.1 hmq).1; simpa [mkeys] using this
            have e1 : (mkeys m)[q]? = (mkeys m)[j]? := by simp [mkeys, hmq, hp0, e, hp0s]
            exact hq ((List.getElem?_inj hql hn).1 e1).symm
          simp [Function.comp, hne]
theorem OpE.rangeStr {x : Operand} {t : TypeId} {s : ByteArray} (hu : P.underlying t = some .string) (hs : Sat w0 cs w) (hx : evK L x = some (.string s))
    (hk : ∀ r w', Sat w0 (cs ++ [cSIt r s 0]) w' → K (.pointer (some ⟨r, 0, none⟩)) w') : OpE P n L w ⟨d, .range t x, ty, pos, af, g⟩ K := by
  refine .val (v := .pointer (some ⟨w.heap.size, 0, none⟩)) (w' := w.alloc (.stringIter s 0)) (fun ρ hρ => ?_) (hk _ _ (hs.add (.alloc _ _) (heap_alloc_new w _) (by simp [cSIt])))
  simp [execOp, hρ hx, Instr.range, run_underlying hu, go_sem]
theorem OpE.nextStr {x : Operand} {i r j : Nat} {s : ByteArray} (hs : Sat w0 cs w) (hi : cs[i]? = some (cSIt r s j)) (hx : evK L x = some (.pointer (some ⟨r, 0, none⟩)))
    (hd : s.size ≤ j → K (.tuple #[.bool false]) w)
    (hm : ∀ w', j < s.size → Sat w0 (cs.set i (cSIt r s (j + (dec (s.data.toList.drop j)).2))) w' → K (.tuple #[.bool true, .int .i64 ((j : Nat) : Int), .int .i32 (((dec (s.data.toList.drop j)).1 : Nat) : Int)]) w') : OpE P n L w ⟨d, .next x true, ty, pos, af, g⟩ K := by
  have hr : w.heap[r]? = some (.stringIter s j) := hs.get hi
  have hg : (getObj r).run P w = .ok (.stringIter s j) w := by simp [getObj, Sem.run, hr]
  by_cases hj : j < s.size
  · have hdec := decode_dec s j
    refine .val (v := .tuple #[.bool true, .int .i64 ((j : Nat) : Int), .int .i32 (((dec (s.data.toList.drop j)).1 : Nat) : Int)]) (w' := { w with heap := w.heap.setIfInBounds r (.stringIter s (j + (dec (s.data.toList.drop j)).2)) }) (fun ρ hρ => ?_)
      (hm _ hj (hs.set i hi (chg_set _ hr) (MapKept.heap_set hr).1 (fun _ h => .inl h)))
    have hset : (setObj r (.stringIter s (j + (dec (s.data.toList.drop j)).2))).run P w = .ok () { w with heap := w.heap.setIfInBounds r (.stringIter s (j + (dec (s.data.toList.drop j)).2)) } := by simp [setObj, Sem.run, hr]
    simp [execOp, hρ hx, Instr.next, hg, hj, hdec, hset, Result.andThen, goInt]
  · refine .val (v := .tuple #[.bool false]) (w' := w) (fun ρ hρ => ?_) (hd (by omega))
    simp [execOp, hρ hx, Instr.next, hg, hj, Result.andThen]
theorem bytesLess_SLt : ∀ (x y : List UInt8), Op.bytesLess x y = decide (x < y)
  | [], [] => by simp [Op.bytesLess]
  | _ :: _, [] => by simp [Op.bytesLess]
  | [], _ :: _ => by simp [Op.bytesLess]
  | a :: x, b :: y => by
    have e : (a == b) = decide (a = b) := by by_cases h : a = b <;> simp [h]
    rw [Op.bytesLess, bytesLess_SLt x y, e]
    simp [List.cons_lt_cons_iff]
theorem less_SLt (a b : ByteArray) : Op.bytesLess a.toList b.toList = decide (SLt a b) := by
  rw [bytesLess_SLt, ByteArray.toList_eq, ByteArray.toList_eq]; rfl
theorem Ev.strGeq {x y : Operand} {t T : TypeId} {a b : ByteArray} (hx : evK L x = some (.string a)) (hy : evK L y = some (.string b)) : Ev P n L w ⟨d, .binOp .geq t x y T, ty, pos, af, g⟩ (.bool (decide (¬ SLt a b))) :=
  .bin hx hy (by rfl) fun w => by rw [show binOp .geq t (.string a) (.string b) = pure (.bool !(Op.bytesLess a.toList b.toList)) by simp [binOp, Op.stringOp], less_SLt]; simp
theorem Ev.strLeq {x y : Operand} {t T : TypeId} {a b : ByteArray} (hx : evK L x = some (.string a)) (hy : evK L y = some (.string b)) : Ev P n L w ⟨d, .binOp .leq t x y T, ty, pos, af, g⟩ (.bool (decide (¬ SLt b a))) :=
  .bin hx hy (by rfl) fun w => by
    rw [show binOp .leq t (.string a) (.string b) = pure (.bool (Op.bytesLess a.toList b.toList || a.toList == b.toList)) by simp [binOp, Op.stringOp], less_SLt, str_eq]
    have : (decide (SLt a b) || decide (a = b)) = decide (¬ SLt b a) := by
      by_cases h : SLt a b
      · simp [h, h.asy]
      · by_cases e : a = b
        · subst e; simp [SLt.irr]
        · simp [h, e, SLt.tri h e]
    rw [this]; rfl
end
end Go.Kw
