/-
  KB: a block with two arrays of sixteen and a number: the codes, the rows of symbols, the longest length; a row taken out of rows and put back. Our own text; it names no program.
-/
import Derived.Test.YtecfgjdpghddgaaGreatKd
set_option linter.unusedVariables false
set_option linter.unusedSimpArgs false
set_option linter.unusedSectionVars false
namespace Go.Kw
open Go.RowKit
def tabC (b T : Nat) (F : List Nat) (S : List (SV × List Nat)) (lo : Nat) : Chunk := cObj b T ((encN .u64).all F ++ (encSl Nat).all S ++ [.int .i64 (lo : Int)])
theorem allF (F : List Nat) {j x : Nat} (h : F[j]? = some x) : ((encN .u64).all F)[j]? = some (.int .u64 (x : Int)) := by
  have := (encN .u64).all_get h (off := 0) (by decide)
  rw [show j * (encN .u64).s + 0 = j from by simp [encN]] at this
  rw [this]; rfl
theorem allS (S : List (SV × List Nat)) {j : Nat} {p : SV × List Nat} (h : S[j]? = some p) : ((encSl Nat).all S)[j]? = some p.1.val := by
  have := (encSl Nat).all_get h (off := 0) (by decide)
  rw [show j * (encSl Nat).s + 0 = j from by simp [encSl]] at this
  rw [this]; rfl
theorem lenF (F : List Nat) : ((encN .u64).all F).length = F.length := by rw [(encN .u64).all_length]; exact Nat.mul_one _
theorem lenS (S : List (SV × List Nat)) : ((encSl Nat).all S).length = S.length := by rw [(encSl Nat).all_length]; exact Nat.mul_one _
theorem setF (F : List Nat) {j x : Nat} (h : j < F.length) : ((encN .u64).all F).set j (.int .u64 (x : Int)) = (encN .u64).all (F.set j x) := by
  have := all_set (E := encN .u64) (l := F) (j := j) (a := x) (u := .int .u64 (x : Int)) rfl h
  rwa [show j * (encN .u64).s = j from by simp [encN]] at this
theorem setS (S : List (SV × List Nat)) {j : Nat} {p : SV × List Nat} (h : j < S.length) : ((encSl Nat).all S).set j p.1.val = (encSl Nat).all (S.set j p) := by
  have := all_set (E := encSl Nat) (l := S) (j := j) (a := p) (u := p.1.val) rfl h
  rwa [show j * (encSl Nat).s = j from by simp [encSl]] at this
section
variable {w0 w : World} {cs : List Chunk}
theorem tab_get1 {F : List Nat} {S : List (SV × List Nat)} {lo j x : Nat} (h : F[j]? = some x) : ((encN .u64).all F ++ (encSl Nat).all S ++ [.int .i64 (lo : Int)])[j]? = some (.int .u64 (x : Int)) := by
  have hj := (List.getElem?_eq_some_iff.1 h).1
  rw [List.append_assoc, List.getElem?_append_left (by rw [lenF]; exact hj)]; exact allF F h
theorem tab_get2 {F : List Nat} {S : List (SV × List Nat)} {lo j : Nat} {p : SV × List Nat} (hF : F.length = 16) (h : S[j]? = some p) : ((encN .u64).all F ++ (encSl Nat).all S ++ [.int .i64 (lo : Int)])[16 + j]? = some p.1.val := by
  have hj := (List.getElem?_eq_some_iff.1 h).1
  rw [List.append_assoc, List.getElem?_append_right (by rw [lenF, hF]; omega), lenF, hF, Nat.add_sub_cancel_left, List.getElem?_append_left (by rw [lenS]; exact hj)]; exact allS S h
theorem tab_get3 {F : List Nat} {S : List (SV × List Nat)} {lo : Nat} (hF : F.length = 16) (hS : S.length = 16) : ((encN .u64).all F ++ (encSl Nat).all S ++ [.int .i64 (lo : Int)])[32]? = some (.int .i64 (lo : Int)) := by
  rw [List.getElem?_append_right (by rw [List.length_append, lenF, lenS]; omega), List.length_append, lenF, lenS, hF, hS]; rfl
theorem Sat.tabF (hs : Sat w0 cs w) (i : Nat) {b T lo j x : Nat} {F : List Nat} {S : List (SV × List Nat)} (hi : cs[i]? = some (tabC b T F S lo)) (h : F[j]? = some x) : w.cell? ⟨b, 0 + j * 1, none⟩ = some (.int .u64 (x : Int)) := by
  rw [Nat.zero_add, Nat.mul_one]; exact hs.cell hi (tab_get1 h)
theorem Sat.tabS (hs : Sat w0 cs w) (i : Nat) {b T lo j : Nat} {F : List Nat} {S : List (SV × List Nat)} {p : SV × List Nat} (hi : cs[i]? = some (tabC b T F S lo)) (hF : F.length = 16) (h : S[j]? = some p) : w.cell? ⟨b, 16 + j * 1, none⟩ = some p.1.val := by
  rw [Nat.mul_one]; exact hs.cell hi (tab_get2 hF h)
theorem Sat.tabN (hs : Sat w0 cs w) (i : Nat) {b T lo : Nat} {F : List Nat} {S : List (SV × List Nat)} (hi : cs[i]? = some (tabC b T F S lo)) (hF : F.length = 16) (hS : S.length = 16) : w.cell? ⟨b, 32, none⟩ = some (.int .i64 (lo : Int)) := hs.cell hi (tab_get3 hF hS)
theorem erase_perm {α : Type} {l : List α} {j : Nat} {x y : α} (h : l[j]? = some x) : (l.eraseIdx j ++ [y]).Perm (l.set j y) := by
  obtain ⟨hj, rfl⟩ := List.getElem?_eq_some_iff.1 h
  rw [List.eraseIdx_eq_take_drop_succ, List.set_eq_take_append_cons_drop, if_pos hj, List.append_assoc]
  exact List.Perm.append_left _ List.perm_append_comm
theorem Sat.all_perm {A ds es : List Chunk} (h : Sat w0 A w) (i : Nat) (hi : A[i]? = some (cAll ds)) (hp : ds.Perm es) : Sat w0 (A.set i (cAll es)) w := by
  obtain ⟨hil, hid⟩ := List.getElem?_eq_some_iff.1 hi
  have e1 : A = A.take i ++ cAll ds :: A.drop (i + 1) := by rw [← hid]; simp
  rw [e1, Sat.all_iff] at h
  rw [List.set_eq_take_append_cons_drop, if_pos hil, Sat.all_iff]
  exact h.perm (List.Perm.append_left _ (List.Perm.append_right _ hp))
theorem Sat.pull {A ds : List Chunk} {d : Chunk} (h : Sat w0 A w) (i : Nat) (hi : A[i]? = some (cAll (ds ++ [d]))) : Sat w0 (A.set i (cAll ds) ++ [d]) w := by
  obtain ⟨hil, hid⟩ := List.getElem?_eq_some_iff.1 hi
  have e1 : A = A.take i ++ cAll (ds ++ [d]) :: A.drop (i + 1) := by rw [← hid]; simp
  rw [e1, Sat.all_iff] at h
  rw [List.set_eq_take_append_cons_drop, if_pos hil, List.append_assoc, List.cons_append, Sat.all_iff]
  refine h.perm (List.Perm.append_left _ ?_)
  rw [List.append_assoc]
  exact List.Perm.append_left _ List.perm_append_comm
variable {α : Type} {E : Enc α} {e : Nat}
theorem Sat.rowOut {A : List Chunk} {ps : List (SV × List α)} {p : SV × List α} {j : Nat} (h : Sat w0 A w) (i : Nat) (hi : A[i]? = some (cRows e E ps)) (hj : ps[j]? = some p) : Sat w0 (A.set i (cRows e E (ps.eraseIdx j)) ++ [cL p.1.val e E p.2]) w := by
  have hil := (List.getElem?_eq_some_iff.1 hi).1
  have hpm : (ps.map fun p => cL p.1.val e E p.2).Perm ((ps.eraseIdx j).map (fun p => cL p.1.val e E p.2) ++ [cL p.1.val e E p.2]) := by
    have h1 : (ps.eraseIdx j ++ [p]).Perm ps := by
      have := erase_perm (y := p) hj
      obtain ⟨hj2, hj3⟩ := List.getElem?_eq_some_iff.1 hj
      rw [← hj3] at this ⊢
      rwa [List.set_getElem_self] at this
    have h2 := (h1.map fun p => cL p.1.val e E p.2).symm
    rw [List.map_append] at h2
    exact h2
  have h1 := h.all_perm i hi hpm
  have h2 := h1.pull i (by rw [List.getElem?_set_self hil])
  rw [List.set_set] at h2
  exact h2
theorem Sat.rowIn {A : List Chunk} {ps : List (SV × List α)} {s : SV} {l : List α} {j : Nat} (h : Sat w0 (A ++ [cL s.val e E l]) w) (i : Nat) (hi : A[i]? = some (cRows e E (ps.eraseIdx j))) (hj : j < ps.length) : Sat w0 (A.set i (cRows e E (ps.set j (s, l)))) w := by
  have hil := (List.getElem?_eq_some_iff.1 hi).1
  have h1 := h.push i hi
  have hpm : ((ps.eraseIdx j).map (fun p => cL p.1.val e E p.2) ++ [cL s.val e E l]).Perm ((ps.set j (s, l)).map fun p => cL p.1.val e E p.2) := by
    have h2 := (erase_perm (l := ps) (j := j) (y := (s, l)) (List.getElem?_eq_getElem hj)).map fun p => cL p.1.val e E p.2
    rw [List.map_append] at h2
    exact h2
  have h2 := h1.all_perm i (by rw [List.getElem?_set_self hil]) hpm
  rw [List.set_set] at h2
  exact h2
theorem Sat.nilRows (h : Sat w0 cs w) (e : Nat) (E : Enc α) : ∀ k, Sat w0 (cs ++ [cRows e E (List.replicate k (⟨none, 0, 0⟩, []))]) w
  | 0 => h.newRows e E
  | k + 1 => by
    have h1 := (Sat.nilRows h e E k).newNilL e E
    have h2 := Sat.pushRows (A := cs ++ [cRows e E (List.replicate k (⟨none, 0, 0⟩, []))]) (s := ⟨none, 0, 0⟩) (l := []) (ps := List.replicate k (⟨none, 0, 0⟩, [])) h1 cs.length (by simp)
    rw [List.set_append_right _ _ (Nat.le_refl _), Nat.sub_self] at h2
    rw [List.replicate_succ']
    exact h2
variable {P : Program} {n : Nat} {L : Know} {K : Value → World → Prop} {d : Option Nat} {ty : TypeId} {pos : String} {af : Array Edge} {g : Option (Nat × Bool)}
theorem OpE.setTabF {x y : Operand} {T U b j a lo : Nat} {F : List Nat} {S : List (SV × List Nat)} (i : Nat) (hT : (P.info? T).map (·.size) = some 1) (hs : Sat w0 cs w) (hi : cs[i]? = some (tabC b U F S lo)) (hx : evK L x = some (.pointer (some ⟨b, 0 + j * 1, none⟩)))
    (hy : evK L y = some (.int .u64 (a : Int))) (hj : j < F.length) (hk : ∀ w', Sat w0 (cs.set i (tabC b U (F.set j a) S lo)) w' → Chg [b] w w' → K undef w') : OpE P n L w ⟨d, .store T x y, ty, pos, af, g⟩ K := by
  rw [Nat.zero_add, Nat.mul_one] at hx
  refine OpE.storeObj hT hs hi hx hy rfl (tab_get1 (List.getElem?_eq_getElem hj)) fun w' hS hC => hk w' ?_ hC
  rw [List.append_assoc, List.set_append_left _ _ (by rw [lenF]; exact hj), setF F hj, ← List.append_assoc] at hS
  exact hS
theorem OpE.setTabS {x y : Operand} {T U b j lo : Nat} {F : List Nat} {S : List (SV × List Nat)} (p : SV × List Nat) (i : Nat) (hT : (P.info? T).map (·.size) = some 1) (hs : Sat w0 cs w) (hi : cs[i]? = some (tabC b U F S lo)) (hx : evK L x = some (.pointer (some ⟨b, 16 + j * 1, none⟩)))
    (hy : evK L y = some p.1.val) (hF : F.length = 16) (hj : j < S.length) (hk : ∀ w', Sat w0 (cs.set i (tabC b U F (S.set j p) lo)) w' → Chg [b] w w' → K undef w') : OpE P n L w ⟨d, .store T x y, ty, pos, af, g⟩ K := by
  rw [Nat.mul_one] at hx
  refine OpE.storeObj hT hs hi hx hy rfl (tab_get2 hF (List.getElem?_eq_getElem hj)) fun w' hS hC => hk w' ?_ hC
  rw [List.append_assoc, List.set_append_right _ _ (by rw [lenF, hF]; omega), lenF, hF, Nat.add_sub_cancel_left, List.set_append_left _ _ (by rw [lenS]; exact hj), setS S hj, ← List.append_assoc] at hS
  exact hS
theorem OpE.setTabN {x y : Operand} {T U b a lo : Nat} {F : List Nat} {S : List (SV × List Nat)} (i : Nat) (hT : (P.info? T).map (·.size) = some 1) (hs : Sat w0 cs w) (hi : cs[i]? = some (tabC b U F S lo)) (hx : evK L x = some (.pointer (some ⟨b, 32, none⟩)))
    (hy : evK L y = some (.int .i64 (a : Int))) (hF : F.length = 16) (hS : S.length = 16) (hk : ∀ w', Sat w0 (cs.set i (tabC b U F S a)) w' → Chg [b] w w' → K undef w') : OpE P n L w ⟨d, .store T x y, ty, pos, af, g⟩ K := by
  refine OpE.storeObj hT hs hi hx hy rfl (tab_get3 hF hS) fun w' hSt hC => hk w' ?_ hC
  rw [List.set_append_right _ _ (by rw [List.length_append, lenF, lenS]; omega), List.length_append, lenF, lenS, hF, hS] at hSt
  exact hSt
end
end Go.Kw
