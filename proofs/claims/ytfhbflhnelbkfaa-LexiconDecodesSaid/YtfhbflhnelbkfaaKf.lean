/-
  KF: a range over a function: rounds, yield, marks, for the program logic of Kw. Our own text; it names no program.
-/
import Derived.Test.YtfhbflhnelbkfaaKc
import Derived.Test.YtfhbflhnelbkfaaKs
import Derived.RangeFuncLeaves
import Derived.RangeFuncCalls
import Derived.RangeFuncSeq
set_option linter.unusedSimpArgs false
set_option linter.unusedVariables false
set_option linter.unusedSectionVars false
namespace Go.Kw
open Go.RowKit

/-! ## An activation that bears marks besides -/
def Mk (D : List Deferred) (a0 a : Act) : Prop := a.tmps = a0.tmps ∧ a.defers = a0.defers ++ D
theorem Mk.eval {D : List Deferred} {a0 a : Act} (h : Mk D a0 a) : a.eval = a0.eval := by
  funext x; cases x <;> simp [Act.eval, h.1]
theorem Mk.put {D : List Deferred} {a0 a : Act} (h : Mk D a0 a) (d : Option Nat) (v : Value) : Mk D (a0.put d v) (a.put d v) := by
  cases d with
  | none => exact h
  | some d => exact ⟨by simp [Act.put, h.1], h.2⟩
section
variable {P : Program} {n : Nat} {L : Know} {w : World} {K : Know → World → Prop} {ops : List Oper} {D : List Deferred}
theorem upon_mk {o : Oper} {a0 a : Act} (h : Mk D a0 a) {next next' : Act → World → Prop} {Q Q' : Exit → Act → World → Prop}
    (hn : ∀ b0 b w, Mk D b0 b → next b0 w → next' b w) (hq : ∀ e b0 b w, Mk D b0 b → Q e b0 w → Q' e b w) (hl : ¬ LetsOut Q) {r : Result Next} (H : o.upon P a0 next Q r) : o.upon P a next' Q' r := by
  cases r with
  | ok x w' =>
    cases x with
    | value v => exact hn _ _ _ (h.put _ _) H
    | skip => exact hn _ _ _ (h.put _ _) H
    | defer d => exact hn _ _ _ (Mk.put (a0 := { a0 with defers := d :: a0.defers }) (a := { a with defers := d :: a.defers }) ⟨h.1, by simp [h.2]⟩ _ _) H
    | enter f args =>
      rw [Oper.upon_enter] at H ⊢
      refine Calls.mono H fun e w'' he => ?_
      cases e with
      | returned v => exact hn _ _ _ (h.put _ _) he
      | panicked c => exact hq _ _ _ _ h he
      | outgrown => exact absurd he hl
    | row row args =>
      rw [Oper.upon_row] at H ⊢
      exact Rows.mono H fun v w'' he => hn _ _ _ (h.put _ _) he
    | _ => exact (H : False).elim
  | halt x w' =>
    cases x with
    | panic v => exact hq _ _ _ _ h H
    | _ => exact (H : False).elim
theorem rq_out : ¬ LetsOut (RQ n K) := fun ⟨_, _, h⟩ => h
/-- A region's walk, with marks besides. -/
theorem wpList_mk {Q' : Exit → Act → World → Prop} (hq : ∀ e b0 b w, Mk D b0 b → RQ n K e b0 w → Q' e b w) : ∀ (l : List Oper) (a0 a : Act) (w : World), Mk D a0 a → wpList P ops.toArray (RQ n K) l a0 w → wpList P ops.toArray Q' l a w
  | [], a0, a, w, h, H => hq _ _ _ _ h H
  | o :: r, a0, a, w, h, H => by
    unfold wpList at H ⊢
    rw [h.1]
    split at H
    · rename_i hw
      rw [if_pos hw]
      rcases H with H | ⟨_, H⟩
      · refine .inl ?_
        unfold Oper.wp at H ⊢
        rw [h.eval]
        exact upon_mk h (fun b0 b w hb => wpList_mk hq r b0 b w hb) hq rq_out H
      · exact absurd H rq_out
    · rename_i hw
      rw [if_neg hw]
      exact wpList_mk hq r _ _ _ (h.put _ _) H

/-! ## In a round -/
def noDefer (o : Oper) : Bool := match o.op with | .defer _ => false | _ => true
theorem noDefer_op {o : Oper} (h : noDefer o = true) : ∀ c, o.op ≠ .defer c := fun c e => by simp [noDefer, e] at h
abbrev inR (l : Nat) : Fence := Fence.wide.inRound l
theorem upon_in {o : Oper} {a : Act} {next next' : Act → World → Prop} {Q : Exit → Act → World → Prop} {F : Fence} {m : Nat} (hF : F = Fence.wide ∨ ∃ l, F = inR l) (hn : ∀ b w, next b w → next' b w) {r : Result Next}
    (H : o.upon P a next Q r) : o.uponIn F m P a next' Q r := by
  have hd : F.depth = none := by rcases hF with rfl | ⟨l, rfl⟩ <;> rfl
  have hdep : F.depth.isSome = true → 1 ≤ m := by rw [hd]; simp
  have hcall : ∀ {f args w' R}, Calls P f args w' R → CallsIn F (m - 1) P f args w' R := fun {f args w' R} h => by
    rcases hF with rfl | ⟨l, rfl⟩
    · exact callsIn_wide.2 h
    · exact CallsIn.inRound l (callsIn_wide.2 h)
  cases r with
  | ok x w' =>
    cases x with
    | value v => exact hn _ _ H
    | skip => exact hn _ _ H
    | defer d => exact hn _ _ H
    | enter f args =>
      rw [Oper.upon_enter] at H
      rw [Oper.uponIn_enter]
      refine ⟨hdep, hcall (Calls.mono H fun e w'' he => ?_)⟩
      cases e with
      | returned v => exact hn _ _ he
      | panicked c => exact he
      | outgrown => exact he
    | row row args =>
      rw [Oper.upon_row] at H
      rw [Oper.uponIn_row]
      refine ⟨hdep, fun c cs _ => ?_⟩
      obtain ⟨v, w'', hv, hs⟩ := H c cs
      refine ⟨v, w'', hn _ _ hv, ?_⟩
      rcases hF with rfl | ⟨l, rfl⟩
      · exact stepsIn_wide.2 hs
      · have : StepsIn (Machine.fenced P Fence.wide) P (lone (Frame.ofRow P row args .normal) (c :: cs) w') (lone (c.finish v) cs w'') := stepsIn_wide.2 hs
        rwa [← fenced_inRound P Fence.wide l] at this
    | _ => exact (H : False).elim
  | halt x w' =>
    cases x with
    | panic v => exact H
    | _ => exact (H : False).elim
theorem wpIn_of_wp {o : Oper} {a : Act} {next next' : Act → World → Prop} {Q : Exit → Act → World → Prop} {F : Fence} {m : Nat} (hF : F = Fence.wide ∨ ∃ l, F = inR l) (hd : noDefer o = true) (hn : ∀ b w, next b w → next' b w)
    (H : o.wp P a w next Q) : o.wpIn F m P a w next' Q := by
  refine ⟨fun f _ => by rcases hF with rfl | ⟨l, rfl⟩ <;> trivial, ?_⟩
  rw [Oper.semAt_eq _ _ _ (noDefer_op hd)]
  exact upon_in hF hn H
theorem wpListIn_of {F : Fence} {m : Nat} (hF : F = Fence.wide ∨ ∃ l, F = inR l) : ∀ (l : List Oper) (a : Act) (w : World), l.all noDefer = true → wpList P ops.toArray (RQ n K) l a w → wpListIn F m P ops.toArray (RQ n K) l a w
  | [], a, w, _, H => H
  | o :: r, a, w, hd, H => by
    rw [List.all_cons, Bool.and_eq_true] at hd
    unfold wpList at H
    unfold wpListIn
    split at H
    · rename_i hw
      rw [if_pos hw]
      rcases H with H | ⟨_, H⟩
      · exact wpIn_of_wp hF hd.1 (fun b w hb => wpListIn_of hF r b w hd.2 hb) H
      · exact absurd H rq_out
    · rename_i hw
      rw [if_neg hw]
      exact ⟨fun f _ => by rcases hF with rfl | ⟨l, rfl⟩ <;> trivial, wpListIn_of hF r _ _ hd.2 H⟩
end

/-- A piece of code in a round of loop l. -/
def CWR (l : Nat) (P : Program) (n : Nat) (c : Code) (Q : Qs) (L : Know) (w : World) : Prop := ∀ a, Fits n L a → c.wpIn (inR l) 0 P (Lift n Q) a w
section
variable {lp : Nat} {P : Program} {n : Nat} {N R : Know → World → Prop} {X G : List (Nat × (Know → World → Prop))} {L : Know} {w : World}
theorem CWR.weaken {c : Code} {Q : Qs} (L' : Know) (hw : Weak L' L) (h : CWR lp P n c Q L' w) : CWR lp P n c Q L w := fun a ha => h a (ha.weaken hw)
theorem CWR.skip (h : N L w) : CWR lp P n .skip ⟨N, R, X, G⟩ L w := fun _ ha => wpIn_skip ⟨L, ha, h⟩
theorem CWR.ret (h : R L w) : CWR lp P n .ret ⟨N, R, X, G⟩ L w := fun _ ha => wpIn_ret ⟨L, ha, h⟩
theorem CWR.seq {x y : Code} (h : CWR lp P n x ⟨fun L w => CWR lp P n y ⟨N, R, X, G⟩ L w, R, X, G⟩ L w) : CWR lp P n (.seq x y) ⟨N, R, X, G⟩ L w := fun a ha =>
  wpIn_seq (wpIn_mono (h a ha) fun e a' w' q => by
    cases e <;> first | (obtain ⟨L', hL, hc⟩ := q; exact hc a' hL) | exact q)
theorem CWR.cond {c : Operand} {x y : Code} {b : Bool} (hc : evK L c = some (.bool b)) (ht : b = true → CWR lp P n x ⟨N, R, X, G⟩ L w) (hf : b = false → CWR lp P n y ⟨N, R, X, G⟩ L w) : CWR lp P n (.cond c x y) ⟨N, R, X, G⟩ L w :=
  fun a ha => wpIn_cond_split (ha.eval hc) (fun h => ht h a ha) (fun h => hf h a ha)
theorem CWR.condD {c : Operand} {x y : Code} {p : Prop} {dp : Decidable p} (hc : evK L c = some (.bool (@decide p dp))) (ht : p → CWR lp P n x ⟨N, R, X, G⟩ L w) (hf : ¬ p → CWR lp P n y ⟨N, R, X, G⟩ L w) : CWR lp P n (.cond c x y) ⟨N, R, X, G⟩ L w :=
  CWR.cond hc (fun h => ht (of_decide_eq_true h)) (fun h => hf (of_decide_eq_false h))
theorem CWR.block {id : Nat} {c : Code} (h : CWR lp P n c ⟨N, R, (id, N) :: X, G⟩ L w) : CWR lp P n (.block id c) ⟨N, R, X, G⟩ L w := fun a ha =>
  wpIn_block (wpIn_mono (h a ha) fun e a' w' q => by
    cases e with
    | exit id' =>
      obtain ⟨L', hL, hc⟩ := q
      simp only [lookE_cons] at hc
      simp only [Exit.inBlock]
      by_cases hid : id' = id
      · subst hid; rw [if_pos rfl] at hc ⊢; exact ⟨L', hL, hc⟩
      · rw [if_neg hid]; rw [if_neg (fun e => hid e.symm)] at hc; exact ⟨L', hL, hc⟩
    | normal => exact q
    | ret => exact q
    | goto l => exact q
    | panic c => exact q
    | outgrown => exact q)
theorem CWR.region {id : Nat} {l : List Oper} (hd : l.all noDefer = true := by rfl) (h : RT P n l l N L w) : CWR lp P n (.region id l.toArray false) ⟨N, R, X, G⟩ L w := fun a ha =>
  wpIn_mono (wpIn_region_lit (wpListIn_of (.inr ⟨lp, rfl⟩) l a w hd (h a ha))) (RQ.lift (Q := ⟨N, R, X, G⟩))
end

/-! ## yield -/
/-- The round goes through; b: whether the loop goes on. -/
def YieldV (P : Program) (l : Nat) (args : List Value) (w : World) (Φ : Bool → World → Prop) : Prop :=
  YieldAt Fence.wide 0 P l args.toArray w fun e w' => ∃ b, e = .returned (.bool b) ∧ Φ b w'
/-- What is left of a region in the text's order, where yield may be called. -/
def RTI (P : Program) (n : Nat) (ops : List Oper) (l : List Oper) (K : Know → World → Prop) (L : Know) (w : World) : Prop :=
  ∀ a, Fits n L a → wpListIn Fence.wide 1 P ops.toArray (RQ n K) l a w
section
variable {P : Program} {n : Nat} {Q : Qs} {L : Know} {w : World} {K : Know → World → Prop} {ops : List Oper}
theorem RTI.nil (h : K L w) : RTI P n ops [] K L w := fun _ ha => ⟨L, ha, h⟩
theorem RTI.ev {o : Oper} {r : List Oper} {v : Value} (hg : o.guard = none) (hd : okDst n o.dst = true) (he : Ev P n L w o v) (h : RTI P n ops r K (putK o.dst v L) w) (hnd : noDefer o = true := by rfl) : RTI P n ops (o :: r) K L w := fun a ha => by
  unfold wpListIn
  rw [if_pos (by simp [Region.wanted, hg])]
  refine wpIn_of_wp (.inl rfl) hnd (next := wpListIn Fence.wide 1 P ops.toArray (RQ n K) r) (fun _ _ h => h) ?_
  simp only [Oper.wp, he a ha, Oper.upon]
  exact h _ (ha.putK hd)
theorem RTI.eff {o : Oper} {r : List Oper} (hg : o.guard = none) (hd : okDst n o.dst = true) (he : OpE P n L w o fun v w' => RTI P n ops r K (putK o.dst v L) w') (hnd : noDefer o = true := by rfl) : RTI P n ops (o :: r) K L w := fun a ha => by
  unfold wpListIn
  rw [if_pos (by simp [Region.wanted, hg])]
  exact wpIn_of_wp (.inl rfl) hnd (next := wpListIn Fence.wide 1 P ops.toArray (RQ n K) r) (fun _ _ h => h) (he a ha _ _ fun v w' h => h _ (ha.putK hd))
theorem RTI.yes {o : Oper} {r : List Oper} {j d : Nat} {b b' : Bool} (hg : o.guard = some (j, b)) (hj : gdst ops j = some d) (hb : look L d = some (.bool b')) (hbb : b' = b)
    (h : RTI P n ops ({ o with guard := none } :: r) K L w) : RTI P n ops (o :: r) K L w := fun a ha => by
  subst hbb
  have h' := h a ha
  unfold wpListIn at h' ⊢
  have : Region.wanted o (yielded ops.toArray a.tmps) = true := by simp [Region.wanted, hg, ha.yielded hj hb]
  have h2 : Region.wanted { o with guard := none } (yielded ops.toArray a.tmps) = true := by simp [Region.wanted]
  simp only [this, h2, if_true] at h' ⊢
  exact h'
theorem RTI.no {o : Oper} {r : List Oper} {j d : Nat} {b b' : Bool} (hg : o.guard = some (j, b)) (hj : gdst ops j = some d) (hb : look L d = some (.bool b')) (hne : b' = !b) (hd : okDst n o.dst = true)
    (h : RTI P n ops r K (putK o.dst undef L) w) : RTI P n ops (o :: r) K L w := fun a ha => by
  have : Region.wanted o (yielded ops.toArray a.tmps) = false := by
    simp only [Region.wanted, hg, ha.yielded hj hb]
    subst hne; cases b <;> simp
  unfold wpListIn
  rw [this]
  exact ⟨fun _ _ => trivial, h _ (ha.putK hd)⟩
theorem RTI.yield {d : Option Nat} {t : Nat} {xs : List Operand} {ats : Array TypeId} {ty : TypeId} {pos : String} {af : Array Edge} {r : List Oper} {l : Nat} {vs : List Value}
    (hd : okDst n d = true) (ht : look L t = some (.func (.yield l) #[] #[])) (hx : evK L (.tmp t) = some (.func (.yield l) #[] #[])) (hxs : evKs L xs = some vs)
    (h : YieldV P l vs w fun b w' => RTI P n ops r K (putK d (.bool b) L) w') : RTI P n ops (⟨d, .call ⟨.value (.tmp t), xs.toArray, ats⟩, ty, pos, af, none⟩ :: r) K L w := fun a ha => by
  obtain ⟨fn, tmps, assign, body, hy, hR⟩ := h
  have he := ha.evals hxs
  have hv : a.eval (.tmp t) = .func (.yield l) #[] #[] := ha.eval hx
  have hm : xs.toArray.map a.eval = vs.toArray := by simp [he]
  have hrun : (execOp a.eval ⟨d, .call ⟨.value (.tmp t), xs.toArray, ats⟩, ty, pos, af, none⟩).run P w = .ok (.round l fn tmps assign body) w := by
    have he2 : (#[] : Array Value) ++ vs.toArray = vs.toArray := by simp
    simp only [execOp, resolve, hm, hv, Deferred.ofValue, bind, Sem.bind, pure, invoke, he2, Array.append_empty]
    simpa only [Sem.run] using hy
  unfold wpListIn
  rw [if_pos (by simp [Region.wanted])]
  refine ⟨fun _ _ => trivial, ?_⟩
  rw [show Fence.wide.round = none from rfl, Oper.semAt_none, hrun, Oper.uponIn_round]
  refine ⟨fun h => (by cases h), RoundIn.mono hR ?_⟩
  rintro e w' ⟨b, rfl, hb⟩
  exact hb _ (ha.putK hd)
theorem CW.regionI {id : Nat} {l : List Oper} {N R : Know → World → Prop} {X G : List (Nat × (Know → World → Prop))} (h : RTI P n l l N L w) : CW P n (.region id l.toArray false) ⟨N, R, X, G⟩ L w := fun a ha =>
  wpIn_wide.1 (wpIn_mono (wpIn_region_lit (h a ha)) (RQ.lift (Q := ⟨N, R, X, G⟩)))
end

/-! ## The loop's record and the block for deferred calls as chunks -/
def cLoop (l : Nat) (r : Loop) : Chunk where
  foot := [l]
  holds w := w.heap[l]? = some (.loop r)
  stable w w' h hc := by rw [h l (by simp)]; exact hc
def cDef (b : Nat) (ds : Option (List Deferred)) : Chunk where
  foot := [b]
  holds w := w.heap[b]? = some (.deferred ds)
  stable w w' h hc := by rw [h b (by simp)]; exact hc
theorem chg_putObj {w : World} {b : Nat} {o : Obj} (o' : Obj) (hb : w.heap[b]? = some o) : Chg [b] w (w.putObj b o') := chg_set o' hb
theorem Sat.putLoop {w0 w : World} {cs : List Chunk} (h : Sat w0 cs w) (i : Nat) {l : Nat} {r : Loop} (r' : Loop) (hi : cs[i]? = some (cLoop l r)) : Sat w0 (cs.set i (cLoop l r')) (w.putObj l (.loop r')) :=
  h.set i hi (chg_putObj _ (h.get hi)) (World.putObj_heap_same (Array.getElem?_eq_some_iff.1 (h.get hi)).1) (fun _ hk => .inl hk)
theorem Sat.putDef {w0 w : World} {cs : List Chunk} (h : Sat w0 cs w) (i : Nat) {b : Nat} {ds : Option (List Deferred)} (ds' : Option (List Deferred)) (hi : cs[i]? = some (cDef b ds)) : Sat w0 (cs.set i (cDef b ds')) (w.putObj b (.deferred ds')) :=
  h.set i hi (chg_putObj _ (h.get hi)) (World.putObj_heap_same (Array.getElem?_eq_some_iff.1 (h.get hi)).1) (fun _ hk => .inl hk)

/-! ## A range over a function, the last statement but one piece of code in the text's order -/
/-- The iterator gf with capture cb goes through the values us; 'own': what it reads; each round has chunks of its own besides. -/
def IterOk {α : Type} (P : Program) (gf : FuncId) (cb : List Value) (enc : α → List Value) (us : List α) (own : List Chunk) (w0 : World) : Prop :=
  ∀ (G : Type) (l : Nat) (C X : List α → G → List Chunk) (ds : List Chunk) (w : World) (g0 : G), Sat w0 (own ++ (C [] g0 ++ ds)) w →
    (∀ done u rest w2 es g, us = done ++ u :: rest → Sat w0 (C done g ++ es) w2 →
      YieldV P l (enc u) w2 fun b w3 => (b = true ∧ ∃ g', Sat w0 (C (done ++ [u]) g' ++ es) w3) ∨ (b = false ∧ ∃ g', Sat w0 (X (done ++ [u]) g' ++ es) w3)) →
    CallsV P gf (.func (.yield l) #[] #[] :: cb) w fun _ w' => (∃ g, Sat w0 (own ++ (C us g ++ ds)) w') ∨ ∃ done u rest g, us = done ++ u :: rest ∧ Sat w0 (own ++ (X (done ++ [u]) g ++ ds)) w'
theorem Sat.swap {w0 w : World} {A B D : List Chunk} (h : Sat w0 (A ++ (B ++ D)) w) : Sat w0 (B ++ (A ++ D)) w :=
  h.perm (by rw [← List.append_assoc, ← List.append_assoc]; exact List.Perm.append_right D List.perm_append_comm)
theorem YieldV.mono {P : Program} {l : Nat} {args : List Value} {w : World} {Φ Ψ : Bool → World → Prop} (h : YieldV P l args w Φ) (hk : ∀ b w', Φ b w' → Ψ b w') : YieldV P l args w Ψ := by
  obtain ⟨fn, tmps, assign, body, hy, hR⟩ := h
  exact ⟨fn, tmps, assign, body, hy, RoundIn.mono hR fun e w' ⟨b, he, hb⟩ => ⟨b, he, hk b w' hb⟩⟩

/-- What the function comes to, from here on. -/
def CT (P : Program) (n : Nat) (c : Code) (M : Exit → Act → World → Prop) (L : Know) (w : World) : Prop := ∀ a, Fits n L a → c.wp P M a w
theorem CT.seq {P : Program} {n : Nat} {x y : Code} {M : Exit → Act → World → Prop} {L : Know} {w : World} (h : CW P n x ⟨fun L w => CT P n y M L w, fun _ _ => False, [], []⟩ L w) : CT P n (.seq x y) M L w := fun a ha =>
  wp_seq (wp_mono (h a ha) fun e a' w' q => by
    cases e with
    | normal => obtain ⟨L', hL, hc⟩ := q; exact hc a' hL
    | ret => obtain ⟨L', hL, hc⟩ := q; exact hc.elim
    | exit id => obtain ⟨L', hL, hc⟩ := q; exact (hc : False).elim
    | goto l => obtain ⟨L', hL, hc⟩ := q; exact (hc : False).elim
    | panic c => exact (q : False).elim
    | outgrown => exact (q : False).elim)
/-- A piece with what comes behind it. -/
def CB (P : Program) (n : Nat) (x y : Code) (M : Exit → Act → World → Prop) (L : Know) (w : World) : Prop := ∀ a, Fits n L a → x.wp P (Exit.then (y.wp P M) M) a w
theorem CT.seqB {P : Program} {n : Nat} {x y z : Code} {M : Exit → Act → World → Prop} {L : Know} {w : World} (h : CW P n x ⟨fun L w => CB P n y z M L w, fun _ _ => False, [], []⟩ L w) : CT P n (.seq (.seq x y) z) M L w := fun a ha =>
  wp_seq (wp_seq (wp_mono (h a ha) fun e a' w' q => by
    cases e with
    | normal => obtain ⟨L', hL, hc⟩ := q; exact hc a' hL
    | ret => obtain ⟨L', hL, hc⟩ := q; exact hc.elim
    | exit id => obtain ⟨L', hL, hc⟩ := q; exact (hc : False).elim
    | goto l => obtain ⟨L', hL, hc⟩ := q; exact (hc : False).elim
    | panic c => exact (q : False).elim
    | outgrown => exact (q : False).elim))
/-- A function that leaves with the mark of one range over a function. -/
def LeaveQ (P : Program) (n : Nat) (fn : Func) (Φ : Value → World → Prop) : Exit → Act → World → Prop := bodyPostM Fence.wide 1 P fn (Ret Φ)
theorem callsV_marks {P : Program} {f : FuncId} {fn : Func} {c : Code} {args : List Value} {w : World} {Φ : Value → World → Prop} (hf : P.funcs[f]? = some fn) (hb : fn.body = some c) (hn : Nat.ble args.length fn.ntmps = true)
    (h : CT P fn.ntmps c (LeaveQ P fn.ntmps fn Φ) (initK args 0) w) : CallsV P f args w Φ := by
  refine (callsIn_wide (n := 1)).1 (callsIn_of_wp_marks hf hb trivial (wpIn_wide.2 (h _ ⟨?_, ?_, rfl⟩)))
  · have := Nat.le_of_ble_eq_true hn; simp; omega
  · intro t v hv
    obtain ⟨_, h2⟩ := look_initK args 0 t v hv
    simp only [Nat.sub_zero] at h2
    rw [Array.getElem?_append]
    have hlt : t < args.length := by
      rcases Nat.lt_or_ge t args.length with h | h
      · exact h
      · simp [List.getElem?_eq_none h] at h2
    simp [hlt] at h2 ⊢
    exact h2
/-- The end of such a function: what holds of the frame, and of the world behind the mark. -/
theorem leave_mark {P : Program} {n : Nat} {fn : Func} {Φ : Value → World → Prop} {D : Nat} {a : Act} {L : Know} {w : World} (hF : Fits n L { a with defers := [] }) (hd : a.defers = [{ target := .collected D, args := #[] }])
    (hD : w.heap[D]? = some (.deferred (some []))) (hp : PostK P n fn Φ L (w.putObj D (.deferred none))) : LeaveQ P n fn Φ .ret a w := by
  obtain ⟨v, hv, hΦ⟩ := hp _ hF
  show LeavesInM Fence.wide 1 P fn a.tmps (Ret Φ) a.defers .returning w
  rw [hd]
  refine ⟨by simp, .inl ⟨_, _, rfl, run_takeDeferred hD, ?_⟩⟩
  exact ⟨v, hv, v, rfl, hΦ⟩

theorem ct_range {α G : Type} {P : Program} {n : Nat} {fn : Func} {Φ : Value → World → Prop} {bid t p rid : Nat} {assign body : Code} {l : List Oper} {gf : FuncId} {cap : Array Value} {w0 w : World} {L : Know}
    {enc : α → Value} {us : List α} {own cs : List Chunk} (UC UX : List α → G → List Chunk) (K3 : α → Nat → Know) (UA : List α → G → α → Nat → List Chunk) (g0 : G)
    (ht : look L t = some (.func (.func gf) #[] cap)) (hp : Nat.ble (p + 1) n = true) (hf : Enters P gf) (h0 : Sat w0 (UC [] g0 ++ (own ++ cs)) w)
    (hit : IterOk P gf cap.toList (fun u => [enc u]) us own w0)
    (hass : ∀ lp done u rest w2 ds g, us = done ++ u :: rest → Sat w0 (UC done g ++ ds) w2 → CWR lp P n assign ⟨fun L3 w3 => ∃ b, Weak (K3 u b) L3 ∧ Sat w0 (UA done g u b ++ ds) w3, fun _ _ => False, [], []⟩ ((p, enc u) :: L) w2)
    (hbody : ∀ lp done u rest b w2 ds g, us = done ++ u :: rest → Sat w0 (UA done g u b ++ ds) w2 → CWR lp P n body ⟨fun _ w3 => ∃ g', Sat w0 (UC (done ++ [u]) g' ++ ds) w3, fun _ w3 => ∃ g', Sat w0 (UX (done ++ [u]) g' ++ ds) w3, [], []⟩ (K3 u b) w2)
    (hdone : ∀ D w2 g, Sat w0 (UC us g ++ ((own ++ cs) ++ [cDef D (some [])])) w2 → RT P n l l (fun L' w' => ∃ cs', Sat w0 (cs' ++ [cDef D (some [])]) w' ∧ ∀ w'', Sat w0 (cs' ++ [cDef D none]) w'' → PostK P n fn Φ L' w'') L w2)
    (hstop : ∀ done u rest D w2 g, us = done ++ u :: rest → Sat w0 (UX (done ++ [u]) g ++ ((own ++ cs) ++ [cDef D none])) w2 → PostK P n fn Φ L w2) :
    CB P n (.block bid (.rangeFunc (.tmp t) #[p] assign body)) (.seq (.region rid l.toArray false) .ret) (LeaveQ P n fn Φ) L w := by
  intro a ha
  have hd0 : a.defers = [] := ha.defers
  -- behind the loop
  have hmark : ∀ (D : Nat) (a' : Act), a' = { a with defers := [{ target := .collected D, args := #[] }] ++ a.defers } → Mk [{ target := .collected D, args := #[] }] a a' := fun D a' e => by
    subst e; exact ⟨rfl, by simp [hd0]⟩
  have hend : ∀ (D : Nat) (w4 : World) g, Sat w0 (UC us g ++ ((own ++ cs) ++ [cDef D (some [])])) w4 →
      (Code.seq (.region rid l.toArray false) .ret).wp P (LeaveQ P n fn Φ) { a with defers := [{ target := .collected D, args := #[] }] ++ a.defers } w4 := fun D w4 g hs4 => by
    refine wp_seq (wp_region_list ?_)
    have hw := hdone D w4 g hs4 a ha
    refine wpList_mk (D := [{ target := .collected D, args := #[] }]) ?_ _ a _ _ (hmark D _ rfl) (by simpa using hw)
    rintro e b0 b w5 hb hq
    cases e with
    | normal =>
      obtain ⟨L', hL', cs', hs', hpost⟩ := hq
      refine wp_ret ?_
      have hget : w5.heap[D]? = some (.deferred (some [])) := (hs'.holds (cDef D (some [])) (by simp)).1
      have hD' : (cs' ++ [cDef D (some [])])[cs'.length]? = some (cDef D (some [])) := by simp
      have hset := hs'.putDef cs'.length none hD'
      rw [List.set_append_right _ _ (Nat.le_refl _), Nat.sub_self] at hset
      refine leave_mark (D := D) (L := L') ⟨by rw [hb.1]; exact hL'.size, fun t v hv => by show b.tmps[t]? = _; rw [hb.1]; exact hL'.slot t v hv, rfl⟩ (by rw [hb.2, hL'.defers]; rfl) hget (hpost _ hset)
    | _ => exact (hq : False).elim
  have hstop' : ∀ (D : Nat) (w4 : World) done u rest g, us = done ++ u :: rest → Sat w0 (UX (done ++ [u]) g ++ ((own ++ cs) ++ [cDef D (some [])])) w4 →
      LeaveQ P n fn Φ .ret { a with defers := [{ target := .collected D, args := #[] }] ++ a.defers } w4 := fun D w4 done u rest g hu hs4 => by
    have hget : w4.heap[D]? = some (.deferred (some [])) := (hs4.holds (cDef D (some [])) (by simp)).1
    have hs5 : Sat w0 ((UX (done ++ [u]) g ++ (own ++ cs)) ++ [cDef D (some [])]) w4 := by rw [List.append_assoc]; exact hs4
    have hset := hs5.putDef (b := D) (ds := some []) (UX (done ++ [u]) g ++ (own ++ cs)).length none (by simp)
    rw [List.set_append_right _ _ (Nat.le_refl _), Nat.sub_self, List.append_assoc] at hset
    exact leave_mark (D := D) (L := L) ⟨ha.size, ha.slot, rfl⟩ (by rw [hd0]; rfl) hget (hstop done u rest D _ g hu hset)
  refine (wp_block (wpIn_wide (n := 1) |>.1 (wpIn_rangeFunc ?_)))
  intro f0 _
  obtain ⟨rec, hrec⟩ : ∃ rec : LoopState → Option Code → Loop, rec = fun st pe => { state := st, pending := pe, fn := f0, tmps := a.tmps, params := #[p], assign, body, defers := w.heap.size } := ⟨_, rfl⟩
  have hW1 : Sat w0 ((UC [] g0 ++ (own ++ cs)) ++ [cDef w.heap.size (some [])]) (w.alloc (.deferred (some []))) := h0.add (.alloc _ _) (heap_alloc_new w _) (by simp [cDef])
  have hW2 : Sat w0 (((UC [] g0 ++ (own ++ cs)) ++ [cDef w.heap.size (some [])]) ++ [cLoop (w.heap.size + 1) (rec .ready none)]) ((w.alloc (.deferred (some []))).alloc (.loop (rec .ready none))) := by
    have := hW1.add (c := cLoop (w.heap.size + 1) (rec .ready none)) (.alloc (w.alloc (.deferred (some []))) (.loop (rec .ready none))) (by have := heap_alloc_new (w.alloc (.deferred (some []))) (.loop (rec .ready none)); rwa [World.size_alloc] at this) (by simp [cLoop])
    exact this
  obtain ⟨W2, hW⟩ : ∃ W2, (w.alloc (.deferred (some []))).alloc (.loop (rec .ready none)) = W2 := ⟨_, rfl⟩
  rw [hW] at hW2
  have hperm : Sat w0 (own ++ ((UC [] g0 ++ [cLoop (w.heap.size + 1) (rec .ready none)]) ++ (cs ++ [cDef w.heap.size (some [])]))) W2 := by
    refine Sat.swap (hW2.perm ?_)
    rw [List.append_assoc, List.append_assoc, List.append_assoc, List.append_assoc]
    refine List.Perm.append_left _ ?_
    rw [← List.append_assoc, ← List.append_assoc, ← List.append_assoc, List.append_assoc own]
    exact List.perm_append_comm
  refine ⟨w.heap.size + 1, [{ target := .collected w.heap.size, args := #[] }], W2, { target := .fn (.func gf) cap, args := #[.func (.yield (w.heap.size + 1)) #[] #[]] }, W2, gf,
    #[.func (.yield (w.heap.size + 1)) #[] #[]] ++ cap, W2, ?_, ?_, ?_, ?_, fun _ => Nat.le_refl _, ?_⟩
  · rw [← hW, hrec]; exact run_enterLoop_outer _ _ _ _ _
  · have hg : a.eval (.tmp t) = .func (.func gf) #[] cap := ha.eval (show evK L (.tmp t) = _ from ht)
    simp only [resolve, hg]
    simp [go_sem]
  · intro f' _; trivial
  · simp [invoke, go_sem]
    exact hf _ _
  · have hI := hit G (w.heap.size + 1) (fun done g => UC done g ++ [cLoop (w.heap.size + 1) (rec .ready none)])
      (fun done g => UX done g ++ [cLoop (w.heap.size + 1) (rec .done (some .ret))]) (cs ++ [cDef w.heap.size (some [])]) W2 g0 hperm ?_
    · have hcall : Calls P gf (.func (.yield (w.heap.size + 1)) #[] #[] :: cap.toList).toArray W2 _ := hI
      have hargs : (.func (.yield (w.heap.size + 1)) #[] #[] :: cap.toList).toArray = #[.func (.yield (w.heap.size + 1)) #[] #[]] ++ cap := by simp
      rw [hargs] at hcall
      refine callsIn_wide.2 (Calls.mono hcall ?_)
      rintro e w3 ⟨v, rfl, hs3⟩
      rcases hs3 with ⟨g, hs3⟩ | ⟨done, u, rest, g, hu, hs3⟩
      · replace hs3 := hs3.swap
        rw [← List.append_assoc own] at hs3
        have hm : cLoop (w.heap.size + 1) (rec .ready none) ∈ (UC us g ++ [cLoop (w.heap.size + 1) (rec .ready none)]) ++ ((own ++ cs) ++ [cDef w.heap.size (some [])]) := by simp
        have hl := (hs3.holds _ hm).1
        refine ⟨none, w3.putObj (w.heap.size + 1) (.loop { rec .ready none with state := .exhausted }), ?_, ?_⟩
        · have := run_endLoop (P := P) hl (by rw [hrec]; simp)
          have hp : (rec .ready none).pending = none := by rw [hrec]
          exact this.trans (by subst hrec; rfl)
        · refine hend w.heap.size _ g ?_
          have hs4 := hs3.putLoop (l := w.heap.size + 1) (r := rec .ready none) (UC us g).length { rec .ready none with state := .exhausted } (by simp)
          rw [List.append_assoc, List.set_append_right _ _ (Nat.le_refl _), Nat.sub_self] at hs4
          exact hs4.sub (List.Sublist.append (List.Sublist.refl _) (List.sublist_cons_self _ _))
      · replace hs3 := hs3.swap
        rw [← List.append_assoc own] at hs3
        have hm : cLoop (w.heap.size + 1) (rec .done (some .ret)) ∈ (UX (done ++ [u]) g ++ [cLoop (w.heap.size + 1) (rec .done (some .ret))]) ++ ((own ++ cs) ++ [cDef w.heap.size (some [])]) := by simp
        have hl := (hs3.holds _ hm).1
        refine ⟨some .ret, w3.putObj (w.heap.size + 1) (.loop { rec .done (some .ret) with state := .exhausted }), ?_, ?_⟩
        · have := run_endLoop (P := P) hl (by rw [hrec]; simp)
          have hp : (rec .done (some .ret)).pending = some .ret := by rw [hrec]
          exact this.trans (by subst hrec; rfl)
        · refine wpIn_ret ?_
          refine hstop' w.heap.size _ done u rest g hu ?_
          have hs4 := hs3.putLoop (l := w.heap.size + 1) (r := rec .done (some .ret)) (UX (done ++ [u]) g).length { rec .done (some .ret) with state := .exhausted } (by simp)
          rw [List.append_assoc, List.set_append_right _ _ (Nat.le_refl _), Nat.sub_self] at hs4
          exact hs4.sub (List.Sublist.append (List.Sublist.refl _) (List.sublist_cons_self _ _))
    · -- one round
      intro done u rest w2 es g hu hs2
      have hm : cLoop (w.heap.size + 1) (rec .ready none) ∈ (UC done g ++ [cLoop (w.heap.size + 1) (rec .ready none)]) ++ es := by simp
      have hl := (hs2.holds _ hm).1
      have hy := run_yield (P := P) (args := #[enc u]) hl (by rw [hrec]; rfl)
      rw [hrec] at hy
      refine ⟨f0, _, assign, body, hy, roundIn_of_wpIn trivial ?_⟩
      have hF1 : Fits n ((p, enc u) :: L) { tmps := (#[p].zip #[enc u]).foldl (fun t (p, v) => t.setIfInBounds p v) a.tmps, defers := [] } := by
        have := ha.put (d := p) (v := enc u) (Nat.le_of_ble_eq_true hp)
        exact ⟨by simpa [Act.put] using this.size, fun t v hv => by have := this.slot t v hv; simpa [Act.put] using this, rfl⟩
      refine wpIn_mono (hass (w.heap.size + 1) done u rest w2 ([cLoop (w.heap.size + 1) (rec .ready none)] ++ es) g hu (by rw [← List.append_assoc]; exact hs2) _ hF1) ?_
      rintro e a3 w3 hq
      cases e with
      | normal =>
        obtain ⟨L3, hL3, b, hK3, hs3⟩ := hq
        have hm3 : cLoop (w.heap.size + 1) (rec .ready none) ∈ UA done g u b ++ ([cLoop (w.heap.size + 1) (rec .ready none)] ++ es) := by simp
        have hl3 := (hs3.holds _ hm3).1
        have hs4 := hs3.putLoop (l := w.heap.size + 1) (r := rec .ready none) (UA done g u b).length { rec .ready none with state := .busy } (by simp)
        rw [List.set_append_right _ _ (Nat.le_refl _), Nat.sub_self] at hs4
        refine ⟨_, run_beginRound hl3 (by rw [hrec]), ?_⟩
        refine wpIn_mono (hbody (w.heap.size + 1) done u rest b _ ([cLoop (w.heap.size + 1) { rec .ready none with state := .busy }] ++ es) g hu hs4 a3 (hL3.weaken hK3)) ?_
        rintro e2 a5 w5 hq5
        have fin : ∀ (jump : Option Code) (Y : List Chunk), Sat w0 (Y ++ ([cLoop (w.heap.size + 1) { rec .ready none with state := .busy }] ++ es)) w5 →
            ∃ w6, (Instr.endRound (w.heap.size + 1) jump).run P w5 = .ok (.bool jump.isNone) w6 ∧ Sat w0 ((Y ++ [cLoop (w.heap.size + 1) (rec (if jump.isNone then .ready else .done) jump)]) ++ es) w6 := fun jump Y hY => by
          have hl5 := (hY.holds (cLoop (w.heap.size + 1) { rec .ready none with state := .busy }) (by simp)).1
          have hs6 := hY.putLoop (l := w.heap.size + 1) (r := { rec .ready none with state := .busy }) Y.length { ({ rec .ready none with state := .busy } : Loop) with state := if jump.isNone then .ready else .done, pending := jump } (by simp)
          rw [List.set_append_right _ _ (Nat.le_refl _), Nat.sub_self] at hs6
          refine ⟨_, run_endRound (P := P) jump hl5, ?_⟩
          rw [List.append_assoc]
          rw [hrec] at hs6 ⊢
          exact hs6
        cases e2 with
        | normal =>
          obtain ⟨L5, _, g5, hs5⟩ := hq5
          obtain ⟨w6, h6, hs6⟩ := fin none _ hs5
          exact ⟨_, w6, h6, true, rfl, .inl ⟨rfl, g5, hs6⟩⟩
        | ret =>
          obtain ⟨L5, _, g5, hs5⟩ := hq5
          obtain ⟨w6, h6, hs6⟩ := fin (some .ret) _ hs5
          exact ⟨_, w6, h6, false, rfl, .inr ⟨rfl, g5, hs6⟩⟩
        | exit id => obtain ⟨L5, _, hs5⟩ := hq5; exact (hs5 : False).elim
        | goto t => obtain ⟨L5, _, hs5⟩ := hq5; exact (hs5 : False).elim
        | panic c => exact (hq5 : False).elim
        | outgrown => exact (hq5 : False).elim
      | ret => obtain ⟨L3, _, h⟩ := hq; exact h.elim
      | exit id => obtain ⟨L3, _, h⟩ := hq; exact (h : False).elim
      | goto t => obtain ⟨L3, _, h⟩ := hq; exact (h : False).elim
      | panic c => exact (hq : False).elim
      | outgrown => exact (hq : False).elim

/-- A fact, and what can't be, as chunks. -/
def cPure (p : Prop) : Chunk := ⟨[], fun _ => p, fun _ _ _ h => h⟩
theorem Sat.pure {w0 w : World} {cs : List Chunk} {p : Prop} (h : Sat w0 cs w) (hp : p) : Sat w0 (cPure p :: cs) w :=
  ⟨h.old, fun c hc => by
    rcases List.mem_cons.1 hc with rfl | hc
    · exact ⟨hp, fun k hk => (by cases hk)⟩
    · exact h.holds c hc, List.pairwise_cons.2 ⟨fun d _ k hk => (by cases hk), h.apart⟩⟩
theorem Sat.rePure {w0 w : World} {cs : List Chunk} {p q : Prop} (h : Sat w0 (cPure p :: cs) w) (hq : p → q) : Sat w0 (cPure q :: cs) w :=
  (h.sub (List.sublist_cons_self _ _)).pure (hq (h.holds (cPure p) (List.mem_cons_self ..)).1)
theorem Sat.pureGet {w0 w : World} {cs : List Chunk} {p : Prop} (h : Sat w0 (cPure p :: cs) w) : p := (h.holds (cPure p) (List.mem_cons_self ..)).1
section
variable {P : Program} {n : Nat} {L : Know} {w : World} {d : Option Nat} {ty : TypeId} {pos : String} {af : Array Edge} {g : Option (Nat × Bool)}
theorem Ev.makeFunc2 {x y : Operand} {f : FuncId} {v u : Value} (hx : evK L x = some v) (hy : evK L y = some u) : Ev P n L w ⟨d, .makeFunc (.func f) #[] #[x, y], ty, pos, af, g⟩ (.func (.func f) #[] #[v, u]) := .of fun ρ hρ => by
  simp [execOp, hρ hx, hρ hy, Instr.makeFunc, go_sem]
theorem Ev.makeFunc3 {x y z : Operand} {f : FuncId} {v u t : Value} (hx : evK L x = some v) (hy : evK L y = some u) (hz : evK L z = some t) : Ev P n L w ⟨d, .makeFunc (.func f) #[] #[x, y, z], ty, pos, af, g⟩ (.func (.func f) #[] #[v, u, t]) := .of fun ρ hρ => by
  simp [execOp, hρ hx, hρ hy, hρ hz, Instr.makeFunc, go_sem]
end

/-! ## Units as values -/
def encU : Enc Un := ⟨3, fun u => [.int .i32 (u.r : Int), .int .i64 (u.at_ : Int), .int .i64 (u.size : Int)], fun _ => rfl, fun x v h => by
  simp only [List.mem_cons, List.not_mem_nil, or_false] at h; rcases h with rfl | rfl | rfl <;> rfl⟩
theorem bsz (s : ByteArray) : s.data.toList.length = s.size := Array.length_toList
theorem uns_step {s : ByteArray} {i : Nat} (h : i < s.size) : unsFrom s.data.toList i = ⟨(dec (s.data.toList.drop i)).1, i, i + (dec (s.data.toList.drop i)).2 - i⟩ :: unsFrom s.data.toList (i + (dec (s.data.toList.drop i)).2) := by
  rw [unsFrom_lt (by rw [bsz]; exact h), Nat.add_sub_cancel_left]
theorem dec_roomS {s : ByteArray} {i : Nat} (h : i < s.size) : i + (dec (s.data.toList.drop i)).2 ≤ s.size := by
  have := dec_room (s := s.data.toList) (i := i) (by rw [bsz]; exact h)
  rwa [bsz] at this
theorem uns_end {s : ByteArray} {i : Nat} (h : s.size ≤ i) : unsFrom s.data.toList i = [] := unsFrom_ge (by rw [bsz]; exact h)
end Go.Kw
