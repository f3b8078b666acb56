/-
  KR: slice literals of several elements; integers as numbers. Our own text; it names no program.
-/
import Derived.Test.YtecfgjdpghddgaaGreatKm
import Derived.Laws.BytesString
import Derived.Laws.Strings
import Derived.Laws.Cover1
import Derived.ScopeJumps
set_option linter.unusedVariables false
set_option linter.unusedSimpArgs false
set_option linter.unusedSectionVars false
namespace Go.Kw
open Go.RowKit
section
variable {P : Program} {n : Nat} {L : Know} {w w0 : World} {cs : List Chunk} {K : Value → World → Prop} {d : Option Nat} {ty : TypeId} {pos : String} {af : Array Edge} {g : Option (Nat × Bool)} {α : Type} {E : Enc α}
theorem OpE.litN {t e b m : Nat} {z : Value} {parts : List (Nat × Operand)} {vs : List (Nat × Value)} (E : Enc α) (l : List α) (hty : SlTy P t e 1 z b) (hp : evParts L parts = some vs) (h1 : AllOne vs) (hz1 : z.oneCell' = true) (ho : Kw.setArr vs (List.replicate m z) = some (E.all l)) (hl : l.length = m) (hE : E.s = 1) (hm0 : m ≠ 0) (hm : m ≤ 16777216) (hs : Sat w0 cs w)
    (hk : ∀ u w', Sat w0 (cs ++ [cL u e E l]) w' → Chg [] w w' → K u w') : OpE P n L w ⟨d, .buildSlice t m parts.toArray, ty, pos, af, g⟩ K := by
  obtain ⟨inf, i1, i2, i3, i4⟩ := hty.info
  have he : ∀ ρ : Operand → Value, (∀ {x u}, evK L x = some u → ρ x = u) → ∀ (parts : List (Nat × Operand)) (vs : List (Nat × Value)), evParts L parts = some vs → parts.map (fun (i, x) => (i, ρ x)) = vs := by
    intro ρ hρ parts
    induction parts with
    | nil => intro vs h; simp [evParts] at h; simp [h]
    | cons p r ih =>
      intro vs h
      obtain ⟨i, x⟩ := p
      simp only [evParts, Option.bind_eq_some_iff, Option.map_eq_some_iff] at h
      obtain ⟨v, hv, us, hus, rfl⟩ := h
      simp [hρ hv, ih us hus]
  have hvc : z.cells = #[z] := by cases z <;> first | rfl | cases hz1
  have hfill := fill_arr vs (List.replicate m z) (E.all l) h1 ho
  have hall : (E.all l).length = m := by rw [E.all_length, hE, hl, Nat.mul_one]
  have hzero : (Array.range m).map (fun q => z.cells[q % z.cells.size]!) = (List.replicate m z).toArray := by
    rw [hvc]
    apply Array.ext'
    apply List.ext_getElem
    · simp
    · intro i _ _; simp [Nat.mod_one]
  have hrun : (Instr.buildSlice t m vs.toArray).run P w = .ok (.slice (some ⟨w.heap.size, 0, none⟩) m m) (w.alloc (.cells (E.all l).toArray e)) := by
    simp only [Nat.mul_one] at hfill
    have h24 : ¬ 2 ^ 24 < m := by omega
    have r1 : (zeroValue e).run P w = .ok z w := by simp [zeroValue, typeInfo, i1, i2, go_sem]
    have r2 : (sizeOf e).run P w = .ok 1 w := by simp [sizeOf, typeInfo, i1, i3, go_sem]
    have r3 : (newRow e (E.all l).toArray).run P w = .ok ⟨w.heap.size, 0, none⟩ (w.alloc (.cells (E.all l).toArray e)) := by simp [newRow, go_sem]
    simp only [Instr.buildSlice, run_underlying hty.und, r2, Sem.run_bind, Result.andThen_ok, Nat.mul_one, gt_iff_lt, h24, hm0, if_false, r1, Sem.run_pure, hzero, hfill, r3]
  refine .val (fun ρ hρ => ?_) (hk (.slice (some ⟨w.heap.size, 0, none⟩) m m) (w.alloc (.cells (E.all l).toArray e)) ?_ (.alloc _ _))
  · simp only [execOp]
    rw [show (parts.toArray.map fun (i, x) => (i, ρ x)) = vs.toArray by rw [List.map_toArray, he ρ hρ parts vs hp]]
    simp only [Sem.run_bind, hrun, Result.andThen_ok, Sem.run_pure]
  · have h := hs.newSl e E.s m m (E.all l) (by unfold maxLen; omega) (Nat.le_refl _) (by rw [hall, hE, Nat.mul_one])
    rw [hE, Nat.mul_one, List.take_of_length_le (by omega)] at h
    unfold cL
    rw [hl, hE]; exact h
end
end Go.Kw
namespace Go.Kw
open Go.RowKit
def strOf (l : List Nat) : ByteArray := ⟨(l.map fun n => UInt8.ofNat n).toArray⟩
theorem foldl_push (l : List Nat) : ∀ r : ByteArray, (l.map fun n => ((n : Nat) : Int)).foldl (fun r n => r.push (UInt8.ofNat n.toNat)) r = ⟨r.data ++ (l.map fun n => UInt8.ofNat n).toArray⟩ := by
  induction l with
  | nil => intro r; simp
  | cons b l ih => intro r; simp only [List.map_cons, List.foldl_cons]; rw [ih]; simp [ByteArray.push]
theorem strOf_inj {a b : List Nat} (ha : ∀ x ∈ a, x < 256) (hb : ∀ x ∈ b, x < 256) : strOf a = strOf b ↔ a = b := by
  refine ⟨fun h => ?_, fun h => by rw [h]⟩
  have h1 : a.map (fun n => UInt8.ofNat n) = b.map (fun n => UInt8.ofNat n) := by
    have := congrArg (fun s : ByteArray => s.data.toList) h
    simpa [strOf] using this
  have h2 := congrArg (List.map UInt8.toNat) h1
  rw [List.map_map, List.map_map] at h2
  have e : ∀ l : List Nat, (∀ x ∈ l, x < 256) → l.map (UInt8.toNat ∘ fun n => UInt8.ofNat n) = l := fun l hl => by
    conv => rhs; rw [← List.map_id l]
    refine List.map_congr_left fun x hx => ?_
    have := hl x hx
    simp [UInt8.toNat_ofNat, Nat.mod_eq_of_lt this]
  rwa [e a ha, e b hb] at h2
theorem bytes_all (l : List Nat) : (encN .u8).all l = (l.map fun n => ((n : Nat) : Int)).map (Value.int .u8) := by
  induction l with
  | nil => rfl
  | cons y r ih => rw [Enc.all_cons, List.map_cons, List.map_cons]; exact congrArg (Value.int .u8 ((y : Nat) : Int) :: ·) ih
theorem str_eq {a b : ByteArray} : (a.toList == b.toList) = decide (a = b) := by
  have h : a.toList = b.toList ↔ a = b := ⟨fun h => by
    rw [ByteArray.toList_eq, ByteArray.toList_eq] at h
    obtain ⟨⟨x⟩⟩ := a; obtain ⟨⟨y⟩⟩ := b
    simp at h; rw [h], fun h => by rw [h]⟩
  by_cases hab : a = b
  · subst hab; simp
  · rw [decide_eq_false hab]; simp; exact fun h' => hab (h.1 h')
section
variable {P : Program} {n : Nat} {L : Know} {w w0 : World} {cs : List Chunk} {K : Value → World → Prop} {d : Option Nat} {ty : TypeId} {pos : String} {af : Array Edge} {g : Option (Nat × Bool)}
theorem Ev.bytesStr {x : Operand} {s t e : TypeId} {v : Value} {l : List Nat} (hs : P.underlying s = some (.slice e)) (ht : P.underlying t = some .string) (he : P.underlying e = some (.int .u8)) (hx : evK L x = some v) (h : RdL w v (encN .u8) l) :
    Ev P n L w ⟨d, .convert s t x, ty, pos, af, g⟩ (.string (strOf l)) := .of fun ρ hρ => by
  obtain ⟨a, cap, rfl, hn, hc⟩ := h
  have hrun : (convert s t (.slice a l.length cap)).run P w = .ok (.string (strOf l)) w := by
    rw [run_convert_bytes_string w s t e a l.length cap hs he ht]
    have hall := bytes_all l
    cases a with
    | none =>
      have hl : l = [] := by
        cases l with
        | nil => rfl
        | cons y r => obtain ⟨b, o, ha, _⟩ := hc 0 (.int .u8 ((y : Nat) : Int)) (by rw [Enc.all_cons]; rfl); cases ha
      subst hl
      simp [Conv.bytesToString, Sem.run_pure]; rfl
    | some a =>
      have hlen : ((encN .u8).all l).length = l.length := by rw [(encN .u8).all_length]; exact Nat.mul_one _
      have hld := run_loadCells_list (P := P) w a ((encN .u8).all l) fun q u hu => by
        obtain ⟨b, o, hb, hw⟩ := hc q u hu
        cases hb; rw [Addr.add_lit]; exact hw
      rw [hlen, hall] at hld
      rw [run_bytesToString w a l.length cap _ hld, foldl_push]
      simp [strOf]
  simp only [execOp, hρ hx]
  simp [hrun]
theorem Ev.strEql {x y : Operand} {t T : TypeId} {a b : ByteArray} (hx : evK L x = some (.string a)) (hy : evK L y = some (.string b)) : Ev P n L w ⟨d, .binOp .eql t x y T, ty, pos, af, g⟩ (.bool (decide (a = b))) :=
  .bin hx hy (by rfl) fun w => by rw [binOp_string_eql, str_eq]; rfl
theorem Ev.strNeq {x y : Operand} {t T : TypeId} {a b : ByteArray} (hx : evK L x = some (.string a)) (hy : evK L y = some (.string b)) : Ev P n L w ⟨d, .binOp .neq t x y T, ty, pos, af, g⟩ (.bool (decide (a ≠ b))) :=
  .bin hx hy (by rfl) fun w => by rw [binOp_string_neq, str_eq, ← decide_not]; rfl
end
end Go.Kw
namespace Go.Kw
open Go.RowKit
section
variable {P : Program} {n : Nat} {N R : Know → World → Prop} {X G : List (Nat × (Know → World → Prop))} {L : Know} {w : World}
theorem CW.goto0 {l : Nat} {J : Know → World → Prop} (h : J L w) : CW P n (.goto l) ⟨N, R, X, (l, J) :: G⟩ L w := CW.gotoQ (by simp only [lookE_cons, if_pos]; exact h)
theorem CW.scope {c rest : Code} (l : Nat) (J : Know → World → Prop) (hf : findLabel c l = some rest) (h : CW P n c ⟨N, R, X, [(l, J)]⟩ L w) (pass : ∀ L' w', J L' w' → CW P n rest ⟨N, R, X, []⟩ L' w') : CW P n (.scope c) ⟨N, R, X, []⟩ L w := fun a ha => by
  refine wp_scope_jumps l (fun a w => ∃ L, Fits n L a ∧ J L w) (fun _ _ => 0) hf (wp_mono (h a ha) fun e a' w' q => ?_) fun a w hJ => ?_
  · cases e with
    | goto l' =>
      obtain ⟨L', hL, hq⟩ := q
      simp only [lookE_cons] at hq
      by_cases e : l = l'
      · subst e; rw [if_pos rfl] at hq; exact ⟨rfl, L', hL, hq⟩
      · rw [if_neg e] at hq; exact hq.elim
    | normal => exact q
    | ret => exact q
    | exit id => exact q
    | panic c => exact q
    | outgrown => exact q
  · obtain ⟨L', hL, hJ⟩ := hJ
    refine wp_mono (pass L' w hJ a hL) fun e a' w' q => ?_
    cases e with
    | goto l' => obtain ⟨L', hL, hq⟩ := q; exact (hq : False).elim
    | normal => exact q
    | ret => exact q
    | exit id => exact q
    | panic c => exact q
    | outgrown => exact q
end
section
variable {P : Program} {n : Nat} {L : Know} {w w0 : World} {cs : List Chunk} {K : Value → World → Prop} {d : Option Nat} {ty : TypeId} {pos : String} {af : Array Edge} {g : Option (Nat × Bool)}
theorem Ev.buildF {T : TypeId} {pl : List (Nat × Nat)} {zs out : List Value} {parts : List (Nat × Operand)} {vs : List (Nat × Value)} (hb : BuildTy P T pl zs) (hp : evParts L parts = some vs) (ho : Instr.fill (fun i => pl.toArray[i]?) zs.toArray vs = some out.toArray) :
    Ev P n L w ⟨d, .build T parts.toArray, ty, pos, af, g⟩ (.agg out.toArray) := .of fun ρ hρ => by
  have he : ∀ (parts : List (Nat × Operand)) (vs : List (Nat × Value)), evParts L parts = some vs → parts.map (fun (i, x) => (i, ρ x)) = vs := by
    intro parts
    induction parts with
    | nil => intro vs h; simp [evParts] at h; simp [h]
    | cons p r ih =>
      intro vs h
      obtain ⟨i, x⟩ := p
      simp only [evParts, Option.bind_eq_some_iff, Option.map_eq_some_iff] at h
      obtain ⟨v, hv, us, hus, rfl⟩ := h
      simp [hρ hv, ih us hus]
  obtain ⟨fs, hu, hpl⟩ := hb.und
  have hz := hb.zero
  cases hi : P.info? T with
  | none => simp [hi] at hz
  | some inf =>
    simp [hi] at hz
    have hrun : (Instr.build T vs.toArray).run P w = .ok (.agg out.toArray) w := by
      simp only [Instr.build, zeroValue, typeInfo, Sem.run_bind]
      simp [hi, hz, run_underlying hu]
      have := hpl w
      simp at this
      have hfill' : Instr.fill (fun x => pl[x]?) zs.toArray vs = some out.toArray := by simpa using ho
      simp [this, Value.cells, hfill']
    simp only [execOp]
    rw [show (parts.toArray.map fun (i, x) => (i, ρ x)) = vs.toArray by rw [List.map_toArray, he parts vs hp]]
    simp only [Sem.run_bind, hrun, Result.andThen_ok, Sem.run_pure]
end
end Go.Kw
namespace Go.Kw
open Go.RowKit
def tabC (b T : Nat) (F : List Nat) (S : List (SV × List Nat)) (lo : Nat) : Chunk := cObj b T ((encN .u64).all F ++ (encSl Nat).all S ++ [.int .i64 (lo : Int)])
theorem allF (F : List Nat) {j x : Nat} (h : F[j]? = some x) : ((encN .u64).all F)[j]? = some (.int .u64 (x : Int)) := by
  have := (encN .u64).all_get h (off := 0) (by decide)
  rw [show j * (encN .u64).s + 0 = j from by simp [encN]] at this
  rw [this]; rfl
theorem allS (S : List (SV × List Nat)) {j : Nat} {p : SV × List Nat} (h : S[j]? = some p) : ((encSl Nat).all S)[j]? = some p.1.val := by
  have := (encSl Nat).all_get h (off := 0) (by decide)
  rw [show j * (encSl Nat).s + 0 = j from by simp [encSl]] at this
  rw [this]; rfl
theorem lenF (F : List Nat) : ((encN .u64).all F).length = F.length := by rw [(encN .u64).all_length]; exact Nat.mul_one _
theorem lenS (S : List (SV × List Nat)) : ((encSl Nat).all S).length = S.length := by rw [(encSl Nat).all_length]; exact Nat.mul_one _
theorem setF (F : List Nat) {j x : Nat} (h : j < F.length) : ((encN .u64).all F).set j (.int .u64 (x : Int)) = (encN .u64).all (F.set j x) := by
  have := all_set (E := encN .u64) (l := F) (j := j) (a := x) (u := .int .u64 (x : Int)) rfl h
  rwa [show j * (encN .u64).s = j from by simp [encN]] at this
theorem setS (S : List (SV × List Nat)) {j : Nat} {p : SV × List Nat} (h : j < S.length) : ((encSl Nat).all S).set j p.1.val = (encSl Nat).all (S.set j p) := by
  have := all_set (E := encSl Nat) (l := S) (j := j) (a := p) (u := p.1.val) rfl h
  rwa [show j * (encSl Nat).s = j from by simp [encSl]] at this
section
variable {w0 w : World} {cs : List Chunk}
theorem tab_get1 {F : List Nat} {S : List (SV × List Nat)} {lo j x : Nat} (h : F[j]? = some x) : ((encN .u64).all F ++ (encSl Nat).all S ++ [.int .i64 (lo : Int)])[j]? = some (.int .u64 (x : Int)) := by
  have hj := (List.getElem?_eq_some_iff.1 h).1
  rw [List.append_assoc, List.getElem?_append_left (by rw [lenF]; exact hj)]; exact allF F h
theorem tab_get2 {F : List Nat} {S : List (SV × List Nat)} {lo j : Nat} {p : SV × List Nat} (hF : F.length = 16) (h : S[j]? = some p) : ((encN .u64).all F ++ (encSl Nat).all S ++ [.int .i64 (lo : Int)])[16 + j]? = some p.1.val := by
  have hj := (List.getElem?_eq_some_iff.1 h).1
  rw [List.append_assoc, List.getElem?_append_right (by rw [lenF, hF]; omega), lenF, hF, Nat.add_sub_cancel_left, List.getElem?_append_left (by rw [lenS]; exact hj)]; exact allS S h
theorem tab_get3 {F : List Nat} {S : List (SV × List Nat)} {lo : Nat} (hF : F.length = 16) (hS : S.length = 16) : ((encN .u64).all F ++ (encSl Nat).all S ++ [.int .i64 (lo : Int)])[32]? = some (.int .i64 (lo : Int)) := by
  rw [List.getElem?_append_right (by rw [List.length_append, lenF, lenS]; omega), List.length_append, lenF, lenS, hF, hS]; rfl
theorem Sat.tabF (hs : Sat w0 cs w) (i : Nat) {b T lo j x : Nat} {F : List Nat} {S : List (SV × List Nat)} (hi : cs[i]? = some (tabC b T F S lo)) (h : F[j]? = some x) : w.cell? ⟨b, 0 + j * 1, none⟩ = some (.int .u64 (x : Int)) := by
  rw [Nat.zero_add, Nat.mul_one]; exact hs.cell hi (tab_get1 h)
theorem Sat.tabS (hs : Sat w0 cs w) (i : Nat) {b T lo j : Nat} {F : List Nat} {S : List (SV × List Nat)} {p : SV × List Nat} (hi : cs[i]? = some (tabC b T F S lo)) (hF : F.length = 16) (h : S[j]? = some p) : w.cell? ⟨b, 16 + j * 1, none⟩ = some p.1.val := by
  rw [Nat.mul_one]; exact hs.cell hi (tab_get2 hF h)
theorem Sat.tabN (hs : Sat w0 cs w) (i : Nat) {b T lo : Nat} {F : List Nat} {S : List (SV × List Nat)} (hi : cs[i]? = some (tabC b T F S lo)) (hF : F.length = 16) (hS : S.length = 16) : w.cell? ⟨b, 32, none⟩ = some (.int .i64 (lo : Int)) := hs.cell hi (tab_get3 hF hS)
theorem erase_perm {α : Type} {l : List α} {j : Nat} {x y : α} (h : l[j]? = some x) : (l.eraseIdx j ++ [y]).Perm (l.set j y) := by
  obtain ⟨hj, rfl⟩ := List.getElem?_eq_some_iff.1 h
  rw [List.eraseIdx_eq_take_drop_succ, List.set_eq_take_append_cons_drop, if_pos hj, List.append_assoc]
  exact List.Perm.append_left _ List.perm_append_comm
theorem Sat.all_perm {A ds es : List Chunk} (h : Sat w0 A w) (i : Nat) (hi : A[i]? = some (cAll ds)) (hp : ds.Perm es) : Sat w0 (A.set i (cAll es)) w := by
  obtain ⟨hil, hid⟩ := List.getElem?_eq_some_iff.1 hi
  have e1 : A = A.take i ++ cAll ds :: A.drop (i + 1) := by rw [← hid]; simp
  rw [e1, Sat.all_iff] at h
  rw [List.set_eq_take_append_cons_drop, if_pos hil, Sat.all_iff]
  exact h.perm (List.Perm.append_left _ (List.Perm.append_right _ hp))
theorem Sat.pull {A ds : List Chunk} {d : Chunk} (h : Sat w0 A w) (i : Nat) (hi : A[i]? = some (cAll (ds ++ [d]))) : Sat w0 (A.set i (cAll ds) ++ [d]) w := by
  obtain ⟨hil, hid⟩ := List.getElem?_eq_some_iff.1 hi
  have e1 : A = A.take i ++ cAll (ds ++ [d]) :: A.drop (i + 1) := by rw [← hid]; simp
  rw [e1, Sat.all_iff] at h
  rw [List.set_eq_take_append_cons_drop, if_pos hil, List.append_assoc, List.cons_append, Sat.all_iff]
  refine h.perm (List.Perm.append_left _ ?_)
  rw [List.append_assoc]
  exact List.Perm.append_left _ List.perm_append_comm
variable {α : Type} {E : Enc α} {e : Nat}
theorem Sat.rowOut {A : List Chunk} {ps : List (SV × List α)} {p : SV × List α} {j : Nat} (h : Sat w0 A w) (i : Nat) (hi : A[i]? = some (cRows e E ps)) (hj : ps[j]? = some p) : Sat w0 (A.set i (cRows e E (ps.eraseIdx j)) ++ [cL p.1.val e E p.2]) w := by
  have hil := (List.getElem?_eq_some_iff.1 hi).1
  have hpm : (ps.map fun p => cL p.1.val e E p.2).Perm ((ps.eraseIdx j).map (fun p => cL p.1.val e E p.2) ++ [cL p.1.val e E p.2]) := by
    have h1 : (ps.eraseIdx j ++ [p]).Perm ps := by
      have := erase_perm (y := p) hj
      obtain ⟨hj2, hj3⟩ := List.getElem?_eq_some_iff.1 hj
      rw [← hj3] at this ⊢
      rwa [List.set_getElem_self] at this
    have h2 := (h1.map fun p => cL p.1.val e E p.2).symm
    rw [List.map_append] at h2
    exact h2
  have h1 := h.all_perm i hi hpm
  have h2 := h1.pull i (by rw [List.getElem?_set_self hil])
  rw [List.set_set] at h2
  exact h2
theorem Sat.rowIn {A : List Chunk} {ps : List (SV × List α)} {s : SV} {l : List α} {j : Nat} (h : Sat w0 (A ++ [cL s.val e E l]) w) (i : Nat) (hi : A[i]? = some (cRows e E (ps.eraseIdx j))) (hj : j < ps.length) : Sat w0 (A.set i (cRows e E (ps.set j (s, l)))) w := by
  have hil := (List.getElem?_eq_some_iff.1 hi).1
  have h1 := h.push i hi
  have hpm : ((ps.eraseIdx j).map (fun p => cL p.1.val e E p.2) ++ [cL s.val e E l]).Perm ((ps.set j (s, l)).map fun p => cL p.1.val e E p.2) := by
    have h2 := (erase_perm (l := ps) (j := j) (y := (s, l)) (List.getElem?_eq_getElem hj)).map fun p => cL p.1.val e E p.2
    rw [List.map_append] at h2
    exact h2
  have h2 := h1.all_perm i (by rw [List.getElem?_set_self hil]) hpm
  rw [List.set_set] at h2
  exact h2
theorem Sat.nilRows (h : Sat w0 cs w) (e : Nat) (E : Enc α) : ∀ k, Sat w0 (cs ++ [cRows e E (List.replicate k (⟨none, 0, 0⟩, []))]) w
  | 0 => h.newRows e E
  | k + 1 => by
    have h1 := (Sat.nilRows h e E k).newNilL e E
    have h2 := Sat.pushRows (A := cs ++ [cRows e E (List.replicate k (⟨none, 0, 0⟩, []))]) (s := ⟨none, 0, 0⟩) (l := []) (ps := List.replicate k (⟨none, 0, 0⟩, [])) h1 cs.length (by simp)
    rw [List.set_append_right _ _ (Nat.le_refl _), Nat.sub_self] at h2
    rw [List.replicate_succ']
    exact h2
variable {P : Program} {n : Nat} {L : Know} {K : Value → World → Prop} {d : Option Nat} {ty : TypeId} {pos : String} {af : Array Edge} {g : Option (Nat × Bool)}
theorem OpE.setTabF {x y : Operand} {T U b j a lo : Nat} {F : List Nat} {S : List (SV × List Nat)} (i : Nat) (hT : (P.info? T).map (·.size) = some 1) (hs : Sat w0 cs w) (hi : cs[i]? = some (tabC b U F S lo)) (hx : evK L x = some (.pointer (some ⟨b, 0 + j * 1, none⟩)))
    (hy : evK L y = some (.int .u64 (a : Int))) (hj : j < F.length) (hk : ∀ w', Sat w0 (cs.set i (tabC b U (F.set j a) S lo)) w' → Chg [b] w w' → K undef w') : OpE P n L w ⟨d, .store T x y, ty, pos, af, g⟩ K := by
  rw [Nat.zero_add, Nat.mul_one] at hx
  refine OpE.storeObj hT hs hi hx hy rfl (tab_get1 (List.getElem?_eq_getElem hj)) fun w' hS hC => hk w' ?_ hC
  rw [List.append_assoc, List.set_append_left _ _ (by rw [lenF]; exact hj), setF F hj, ← List.append_assoc] at hS
  exact hS
theorem OpE.setTabS {x y : Operand} {T U b j lo : Nat} {F : List Nat} {S : List (SV × List Nat)} (p : SV × List Nat) (i : Nat) (hT : (P.info? T).map (·.size) = some 1) (hs : Sat w0 cs w) (hi : cs[i]? = some (tabC b U F S lo)) (hx : evK L x = some (.pointer (some ⟨b, 16 + j * 1, none⟩)))
    (hy : evK L y = some p.1.val) (hF : F.length = 16) (hj : j < S.length) (hk : ∀ w', Sat w0 (cs.set i (tabC b U F (S.set j p) lo)) w' → Chg [b] w w' → K undef w') : OpE P n L w ⟨d, .store T x y, ty, pos, af, g⟩ K := by
  rw [Nat.mul_one] at hx
  refine OpE.storeObj hT hs hi hx hy rfl (tab_get2 hF (List.getElem?_eq_getElem hj)) fun w' hS hC => hk w' ?_ hC
  rw [List.append_assoc, List.set_append_right _ _ (by rw [lenF, hF]; omega), lenF, hF, Nat.add_sub_cancel_left, List.set_append_left _ _ (by rw [lenS]; exact hj), setS S hj, ← List.append_assoc] at hS
  exact hS
theorem OpE.setTabN {x y : Operand} {T U b a lo : Nat} {F : List Nat} {S : List (SV × List Nat)} (i : Nat) (hT : (P.info? T).map (·.size) = some 1) (hs : Sat w0 cs w) (hi : cs[i]? = some (tabC b U F S lo)) (hx : evK L x = some (.pointer (some ⟨b, 32, none⟩)))
    (hy : evK L y = some (.int .i64 (a : Int))) (hF : F.length = 16) (hS : S.length = 16) (hk : ∀ w', Sat w0 (cs.set i (tabC b U F S a)) w' → Chg [b] w w' → K undef w') : OpE P n L w ⟨d, .store T x y, ty, pos, af, g⟩ K := by
  refine OpE.storeObj hT hs hi hx hy rfl (tab_get3 hF hS) fun w' hSt hC => hk w' ?_ hC
  rw [List.set_append_right _ _ (by rw [List.length_append, lenF, lenS]; omega), List.length_append, lenF, lenS, hF, hS] at hSt
  exact hSt
end
end Go.Kw
