/-
  KN: several chunks as one; slices of slices. Our own text; it names no program.
-/
import Derived.Test.YtfhbflhnelbkfaaKs
set_option linter.unusedSimpArgs false
set_option linter.unusedVariables false
set_option linter.unusedSectionVars false
namespace Go.Kw
open Go.RowKit

/-- What a slice value bears. -/
structure SV where
  a : Option Addr
  n : Nat
  c : Nat
@[reducible] def SV.val (s : SV) : Value := .slice s.a s.n s.c
theorem RdL.sv {α : Type} {w : World} {v : Value} {E : Enc α} {l : List α} (h : RdL w v E l) : ∃ s : SV, v = s.val ∧ s.n = l.length := by
  obtain ⟨a, cap, rfl, _⟩ := h
  exact ⟨⟨a, l.length, cap⟩, rfl, rfl⟩

def cAll (cs : List Chunk) : Chunk where
  foot := cs.flatMap Chunk.foot
  holds w := (∀ c ∈ cs, c.holds w) ∧ cs.Pairwise fun (c d : Chunk) => ∀ k ∈ c.foot, k ∉ d.foot
  stable w w' h hc := ⟨fun c hm => c.stable w w' (fun k hk => h k (List.mem_flatMap.2 ⟨c, hm, hk⟩)) (hc.1 c hm), hc.2⟩

theorem Sat.all_iff {w0 w : World} {P ds Q : List Chunk} : Sat w0 (P ++ cAll ds :: Q) w ↔ Sat w0 (P ++ (ds ++ Q)) w := by
  constructor
  · intro h
    have hA := h.holds (cAll ds) (by simp)
    have hp := List.pairwise_append.1 h.apart
    have hq := List.pairwise_cons.1 hp.2.1
    refine ⟨h.old, fun c hc => ?_, ?_⟩
    · simp only [List.mem_append] at hc
      rcases hc with hc | hc | hc
      · exact h.holds c (by simp [hc])
      · exact ⟨hA.1.1 c hc, fun k hk => hA.2 k (List.mem_flatMap.2 ⟨c, hc, hk⟩)⟩
      · exact h.holds c (by simp [hc])
    · rw [List.pairwise_append, List.pairwise_append]
      refine ⟨hp.1, ⟨hA.1.2, hq.2, fun c hc d hd k hk => hq.1 d hd k (List.mem_flatMap.2 ⟨c, hc, hk⟩)⟩, fun c hc d hd k hk hk2 => ?_⟩
      rcases List.mem_append.1 hd with hd | hd
      · exact hp.2.2 c hc (cAll ds) (by simp) k hk (List.mem_flatMap.2 ⟨d, hd, hk2⟩)
      · exact hp.2.2 c hc d (by simp [hd]) k hk hk2
  · intro h
    have hp := List.pairwise_append.1 h.apart
    have hq := List.pairwise_append.1 hp.2.1
    refine ⟨h.old, fun c hc => ?_, ?_⟩
    · simp only [List.mem_append, List.mem_cons] at hc
      rcases hc with hc | rfl | hc
      · exact h.holds c (by simp [hc])
      · refine ⟨⟨fun c hc => (h.holds c (by simp [hc])).1, hq.1⟩, fun k hk => ?_⟩
        obtain ⟨c, hc, hk⟩ := List.mem_flatMap.1 hk
        exact (h.holds c (by simp [hc])).2 k hk
      · exact h.holds c (by simp [hc])
    · rw [List.pairwise_append, List.pairwise_cons]
      refine ⟨hp.1, ⟨fun d hd k hk hk2 => ?_, hq.2.1⟩, fun c hc d hd k hk hk2 => ?_⟩
      · obtain ⟨c, hc, hk⟩ := List.mem_flatMap.1 hk
        exact hq.2.2 c hc d hd k hk hk2
      · rcases List.mem_cons.1 hd with rfl | hd
        · obtain ⟨d, hd, hk2⟩ := List.mem_flatMap.1 hk2
          exact hp.2.2 c hc d (by simp [hd]) k hk hk2
        · exact hp.2.2 c hc d (by simp [hd]) k hk hk2

/-- The last chunk goes in with those of number i. -/
theorem Sat.push {w0 w : World} {A ds : List Chunk} {d : Chunk} (h : Sat w0 (A ++ [d]) w) (i : Nat) (hi : A[i]? = some (cAll ds)) : Sat w0 (A.set i (cAll (ds ++ [d]))) w := by
  obtain ⟨hil, hid⟩ := List.getElem?_eq_some_iff.1 hi
  have e1 : A = A.take i ++ cAll ds :: A.drop (i + 1) := by rw [← hid]; simp
  rw [e1, List.append_assoc, List.cons_append, Sat.all_iff] at h
  rw [List.set_eq_take_append_cons_drop, if_pos hil, Sat.all_iff]
  refine h.perm (List.Perm.append_left _ ?_)
  rw [List.append_assoc]
  exact List.Perm.append_left _ List.perm_append_comm

section
variable {α : Type} {E : Enc α} {e : Nat} {w0 w : World} {cs : List Chunk}
/-- Rows that the call made, each a slice of its own. -/
def cRows (e : Nat) (E : Enc α) (ps : List (SV × List α)) : Chunk := cAll (ps.map fun p => cL p.1.val e E p.2)
theorem Sat.newRows (h : Sat w0 cs w) (e : Nat) (E : Enc α) : Sat w0 (cs ++ [cRows e E []]) w := by
  have : Sat w0 (cs ++ cAll [] :: []) w := Sat.all_iff.2 (by simpa using h)
  exact this
theorem Sat.pushRows {A : List Chunk} {s : SV} {l : List α} {ps : List (SV × List α)} (h : Sat w0 (A ++ [cL s.val e E l]) w) (i : Nat) (hi : A[i]? = some (cRows e E ps)) : Sat w0 (A.set i (cRows e E (ps ++ [(s, l)]))) w := by
  have := h.push i hi
  rw [cRows, List.map_append]; exact this
theorem Sat.rdRows (h : Sat w0 cs w) (i : Nat) {ps : List (SV × List α)} (hi : cs[i]? = some (cRows e E ps)) {k : Nat} {p : SV × List α} (hk : ps[k]? = some p) : RdL w p.1.val E p.2 := by
  have := (h.get hi).1 (cL p.1.val e E p.2) (List.mem_map_of_mem (List.mem_of_getElem? hk))
  exact Rd.of_own this
/-- Slices of slices: the outer one's elements. -/
def encSl (α : Type) : Enc (SV × List α) := ⟨1, fun p => [p.1.val], fun _ => rfl, fun p v h => by simp at h; rw [h]; rfl⟩
end
section
variable {P : Program} {n : Nat} {L : Know} {w : World} {K : Value → World → Prop} {d : Option Nat} {ty : TypeId} {pos : String} {af : Array Edge} {g : Option (Nat × Bool)}
/-- A method value: what it is bound to comes first. -/
theorem Ev.makeFuncB {x : Operand} {f : FuncId} {v : Value} (hx : evK L x = some v) : Ev P n L w ⟨d, .makeFunc (.func f) #[x] #[], ty, pos, af, g⟩ (.func (.func f) #[v] #[]) := .of fun ρ hρ => by
  simp [execOp, Instr.makeFunc, hρ hx, go_sem]
theorem OpE.callb {t : Nat} {f : FuncId} {fst cap : Array Value} {xs : List Operand} {ats : Array TypeId} {vs : List Value}
    (hf : Enters P f) (ht : look L t = some (.func (.func f) fst cap)) (hx : evKs L xs = some vs) (h : CallsV P f (fst.toList ++ vs ++ cap.toList) w K) : OpE P n L w ⟨d, .call ⟨.value (.tmp t), xs.toArray, ats⟩, ty, pos, af, g⟩ K := fun a ha next Q hk => by
  have he := ha.evals hx
  have hv : a.eval (.tmp t) = .func (.func f) fst cap := ha.eval ht
  have hrun : (execOp a.eval ⟨d, .call ⟨.value (.tmp t), xs.toArray, ats⟩, ty, pos, af, g⟩).run P w = .ok (.enter f (fst.toList ++ vs ++ cap.toList).toArray) w := by
    have hm : xs.toArray.map a.eval = vs.toArray := by simp [he]
    have := hf (fst.toList ++ vs ++ cap.toList).toArray w
    have hc : fst ++ vs.toArray ++ cap = (fst.toList ++ vs ++ cap.toList).toArray := by simp
    simp only [execOp, resolve, hm, hv, Deferred.ofValue, bind, Sem.bind, pure, invoke, hc]
    simpa only [Sem.run] using this
  simp only [Oper.wp, hrun, Oper.upon]
  refine Calls.mono h fun e w' ⟨v, he', hv⟩ => ?_
  subst he'
  exact hk v w' hv
end
end Go.Kw
