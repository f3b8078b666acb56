/-
  KW: A SMALL PROGRAM LOGIC OVER THE KIT'S RULES. A frame is a list of known slots, a region is walked operation by operation (in the text's order, or along a plan where the order is drawn).
  Our own text; it names no program.
-/
import Derived.WalkKit
import Derived.WalkLawsBesides
import Derived.WalkSpells
import Derived.OrdersHeld
import Derived.Deep.AppendSrc
import Derived.Deep.LoopGhost
import Derived.Laws.CopyOwn
set_option linter.unusedVariables false
set_option linter.unusedSimpArgs false
set_option linter.unusedSectionVars false
namespace Go.Kw
open Go.RowKit
abbrev Know := List (Nat × Value)
def look : Know → Nat → Option Value
  | [], _ => none
  | (t, v) :: r, u => cond (Nat.beq t u) (some v) (look r u)
def evK (L : Know) : Operand → Option Value
  | .tmp t => look L t
  | .const v => some v
  | .global g => some (.pointer (some ⟨g, 0, none⟩))
  | .func f => some (.func (.func f) #[] #[])
def evKs (L : Know) : List Operand → Option (List Value)
  | [] => some []
  | x :: r => (evK L x).bind fun v => (evKs L r).map (v :: ·)
structure Fits (n : Nat) (L : Know) (a : Act) : Prop where
  size : a.tmps.size = n
  slot : ∀ t v, look L t = some v → a.tmps[t]? = some v
  defers : a.defers = []
theorem Fits.eval {n : Nat} {L : Know} {a : Act} (h : Fits n L a) {x : Operand} {v : Value} (hx : evK L x = some v) : a.eval x = v := by
  cases x with
  | tmp t => have := h.slot t v hx; simp [Act.eval, Array.getD_eq_getD_getElem?, this]
  | const u => simpa [evK, Act.eval] using hx
  | global g => simpa [evK, Act.eval] using hx
  | func f => simpa [evK, Act.eval] using hx
theorem Fits.evals {n : Nat} {L : Know} {a : Act} (h : Fits n L a) : ∀ {xs : List Operand} {vs : List Value}, evKs L xs = some vs → xs.map a.eval = vs
  | [], vs, hx => by simpa [evKs] using hx
  | x :: r, vs, hx => by
    simp only [evKs, Option.bind_eq_some_iff, Option.map_eq_some_iff] at hx
    obtain ⟨v, hv, us, hus, rfl⟩ := hx
    simp [h.eval hv, h.evals hus]
theorem look_cons {L : Know} {d t : Nat} {v : Value} : look ((d, v) :: L) t = if d = t then some v else look L t := by
  simp only [look]
  by_cases e : d = t
  · subst e; simp
  · have : Nat.beq d t = false := by
      cases h : Nat.beq d t with
      | false => rfl
      | true => exact absurd (Nat.eq_of_beq_eq_true h) e
    simp [e, this]
theorem Fits.put {n : Nat} {L : Know} {a : Act} (h : Fits n L a) {d : Nat} {v : Value} (hd : d < n) : Fits n ((d, v) :: L) (a.put (some d) v) := by
  refine ⟨by simp [Act.put, h.size], fun t u hu => ?_, h.defers⟩
  rw [look_cons] at hu
  simp only [Act.put, Array.getElem?_setIfInBounds]
  by_cases e : d = t
  · subst e; simp at hu; simp [hu, h.size, hd]
  · simp only [e, if_false] at hu ⊢; exact h.slot t u hu
def Weak : Know → Know → Prop
  | [], _ => True
  | (t, v) :: r, L => look L t = some v ∧ Weak r L
theorem Weak.look {L' L : Know} (h : Weak L' L) : ∀ {t v}, Kw.look L' t = some v → Kw.look L t = some v := by
  induction L' with
  | nil => intro t v h; simp [Kw.look] at h
  | cons p r ih =>
    intro t v hv
    obtain ⟨d, u⟩ := p
    rw [look_cons] at hv
    by_cases e : d = t
    · subst e; simp at hv; subst hv; exact h.1
    · simp [e] at hv; exact ih h.2 hv
theorem Fits.weaken {n : Nat} {L L' : Know} {a : Act} (h : Fits n L a) (hw : Weak L' L) : Fits n L' a :=
  ⟨h.size, fun t v hv => h.slot t v (hw.look hv), h.defers⟩
structure Qs where
  nrm : Know → World → Prop
  ret : Know → World → Prop
  ext : List (Nat × (Know → World → Prop))
  gto : List (Nat × (Know → World → Prop))
def lookE : List (Nat × (Know → World → Prop)) → Nat → Know → World → Prop
  | [], _ => fun _ _ => False
  | (t, R) :: r, u => cond (Nat.beq t u) R (lookE r u)
def Lift (n : Nat) (Q : Qs) : Exit → Act → World → Prop
  | .normal, a, w => ∃ L, Fits n L a ∧ Q.nrm L w
  | .ret, a, w => ∃ L, Fits n L a ∧ Q.ret L w
  | .exit id, a, w => ∃ L, Fits n L a ∧ lookE Q.ext id L w
  | .goto l, a, w => ∃ L, Fits n L a ∧ lookE Q.gto l L w
  | _, _, _ => False
def CW (P : Program) (n : Nat) (c : Code) (Q : Qs) (L : Know) (w : World) : Prop := ∀ a, Fits n L a → c.wp P (Lift n Q) a w
section
variable {P : Program} {n : Nat} {Q : Qs} {L : Know} {w : World}
theorem CW.weaken {c : Code} (L' : Know) (hw : Weak L' L) (h : CW P n c Q L' w) : CW P n c Q L w := fun a ha => h a (ha.weaken hw)
theorem CW.skipQ (h : Q.nrm L w) : CW P n .skip Q L w := fun _ ha => wp_skip ⟨L, ha, h⟩
theorem CW.retQ (h : Q.ret L w) : CW P n .ret Q L w := fun _ ha => wp_ret ⟨L, ha, h⟩
theorem CW.exitQ {id : Nat} (h : lookE Q.ext id L w) : CW P n (.exit id) Q L w := fun _ ha => wp_exit ⟨L, ha, h⟩
theorem CW.gotoQ {l : Nat} (h : lookE Q.gto l L w) : CW P n (.goto l) Q L w := fun _ ha => wp_goto ⟨L, ha, h⟩
theorem CW.seqQ {x y : Code} (h : CW P n x { Q with nrm := fun L w => CW P n y Q L w } L w) : CW P n (.seq x y) Q L w := fun a ha =>
  wp_seq (wp_mono (h a ha) fun e a' w' q => by
    cases e <;> first | (obtain ⟨L', hL, hc⟩ := q; exact hc a' hL) | exact q)
theorem CW.seqMidQ {x y : Code} (R : Know → World → Prop) (h : CW P n x { Q with nrm := R } L w) (h2 : ∀ L' w', R L' w' → CW P n y Q L' w') : CW P n (.seq x y) Q L w := fun a ha =>
  wp_seq (wp_mono (h a ha) fun e a' w' q => by
    cases e <;> first | (obtain ⟨L', hL, hc⟩ := q; exact h2 L' w' hc a' hL) | exact q)
theorem CW.midQ {c : Code} (R : Know → World → Prop) (h : CW P n c { Q with nrm := R } L w) (h2 : ∀ L' w', R L' w' → Q.nrm L' w') : CW P n c Q L w := fun a ha =>
  wp_mono (h a ha) fun e a' w' q => by
    cases e <;> first | (obtain ⟨L', hL, hc⟩ := q; exact ⟨L', hL, h2 L' w' hc⟩) | exact q
theorem CW.condQ {c : Operand} {x y : Code} {b : Bool} (hc : evK L c = some (.bool b)) (ht : b = true → CW P n x Q L w) (hf : b = false → CW P n y Q L w) : CW P n (.cond c x y) Q L w :=
  fun a ha => wp_cond_split (ha.eval hc) (fun h => ht h a ha) (fun h => hf h a ha)
theorem CW.condDQ {c : Operand} {x y : Code} {p : Prop} {dp : Decidable p} (hc : evK L c = some (.bool (@decide p dp))) (ht : p → CW P n x Q L w) (hf : ¬ p → CW P n y Q L w) : CW P n (.cond c x y) Q L w :=
  CW.condQ hc (fun h => ht (of_decide_eq_true h)) (fun h => hf (of_decide_eq_false h))
theorem CW.condTQ {c : Operand} {x y : Code} {b : Bool} (hc : evK L c = some (.bool b)) (hb : b = true) (ht : CW P n x Q L w) : CW P n (.cond c x y) Q L w :=
  CW.condQ hc (fun _ => ht) (fun h => absurd (hb.symm.trans h) (by simp))
theorem CW.condFQ {c : Operand} {x y : Code} {b : Bool} (hc : evK L c = some (.bool b)) (hb : b = false) (hf : CW P n y Q L w) : CW P n (.cond c x y) Q L w :=
  CW.condQ hc (fun h => absurd (hb.symm.trans h) (by simp)) (fun _ => hf)
theorem lookE_cons {E : List (Nat × (Know → World → Prop))} {i id : Nat} {R : Know → World → Prop} : lookE ((i, R) :: E) id = if i = id then R else lookE E id := by
  simp only [lookE]
  by_cases e : i = id
  · subst e; simp
  · have : Nat.beq i id = false := by
      cases h : Nat.beq i id with
      | false => rfl
      | true => exact absurd (Nat.eq_of_beq_eq_true h) e
    simp [e, this]
theorem CW.blockQ {id : Nat} {c : Code} (h : CW P n c { Q with ext := (id, Q.nrm) :: Q.ext } L w) : CW P n (.block id c) Q L w := fun a ha =>
  wp_block (wp_mono (h a ha) fun e a' w' q => by
    cases e with
    | exit id' =>
      obtain ⟨L', hL, hc⟩ := q
      simp only [lookE_cons] at hc
      simp only [Exit.inBlock]
      by_cases hid : id' = id
      · subst hid; rw [if_pos rfl] at hc ⊢; exact ⟨L', hL, hc⟩
      · rw [if_neg hid]; rw [if_neg (fun e => hid e.symm)] at hc; exact ⟨L', hL, hc⟩
    | normal => exact q
    | ret => exact q
    | goto l => exact q
    | panic c => exact q
    | outgrown => exact q)
theorem CW.loopQ {c : Code} {α : Type} (K : α → Know) (I : α → World → Prop) (μ : α → Nat) (x₀ : α) (h0 : Weak (K x₀) L) (hI : I x₀ w)
    (round : ∀ x w, I x w → CW P n c { Q with nrm := fun L' w' => ∃ x', Weak (K x') L' ∧ I x' w' ∧ μ x' < μ x } (K x) w) : CW P n (.loop c) Q L w := fun a ha => by
  refine wp_loop_ghost (fun m a w => ∃ x, Fits n (K x) a ∧ I x w ∧ μ x = m) (μ x₀) ⟨x₀, ha.weaken h0, hI, rfl⟩ ?_
  rintro m a w ⟨x, hF, hx, rfl⟩
  refine wp_mono (round x w hx a hF) fun e a' w' q => ?_
  cases e with
  | normal =>
    obtain ⟨L', hL, x', hw', hI', hlt⟩ := q
    exact ⟨μ x', hlt, x', hL.weaken hw', hI', rfl⟩
  | ret => exact q
  | exit id => exact q
  | goto l => exact q
  | panic c => exact q
  | outgrown => exact q
end
def RQ (n : Nat) (K : Know → World → Prop) : Exit → Act → World → Prop
  | .normal, a, w => ∃ L, Fits n L a ∧ K L w
  | _, _, _ => False
def RT (P : Program) (n : Nat) (ops : List Oper) (l : List Oper) (K : Know → World → Prop) (L : Know) (w : World) : Prop :=
  ∀ a, Fits n L a → wpList P ops.toArray (RQ n K) l a w
def Ev (P : Program) (n : Nat) (L : Know) (w : World) (o : Oper) (v : Value) : Prop :=
  ∀ a, Fits n L a → (execOp a.eval o).run P w = .ok (.value v) w
def OpE (P : Program) (n : Nat) (L : Know) (w : World) (o : Oper) (K : Value → World → Prop) : Prop :=
  ∀ a, Fits n L a → ∀ (next : Act → World → Prop) (Q : Exit → Act → World → Prop), (∀ v w', K v w' → next (a.put o.dst v) w') → o.wp P a w next Q
def putK (d : Option Nat) (v : Value) (L : Know) : Know :=
  match d with
  | some t => (t, v) :: L
  | none => L
def okDst (n : Nat) : Option Nat → Bool
  | some t => Nat.ble (t + 1) n
  | none => true
theorem Fits.putK {n : Nat} {L : Know} {a : Act} (h : Fits n L a) {d : Option Nat} {v : Value} (hd : okDst n d = true) : Fits n (Kw.putK d v L) (a.put d v) := by
  cases d with
  | none => exact h
  | some t => exact h.put (Nat.le_of_ble_eq_true hd)
def gdst (ops : List Oper) (j : Nat) : Option Nat :=
  match ops[j]? with
  | some o => o.dst
  | none => none
theorem Fits.yielded {n : Nat} {L : Know} {a : Act} (h : Fits n L a) {ops : List Oper} {j d : Nat} {b : Bool} (hj : gdst ops j = some d) (hd : look L d = some (.bool b)) : Go.yielded ops.toArray a.tmps j = some b := by
  have h1 := h.slot d _ hd
  unfold gdst at hj
  unfold Go.yielded
  cases ho : ops[j]? with
  | none => simp [ho] at hj
  | some o => simp only [ho] at hj; simp [ho, hj, h1]
theorem Fits.yieldedU {n : Nat} {L : Know} {a : Act} (h : Fits n L a) {ops : List Oper} {j d : Nat} (hj : gdst ops j = some d) (hd : look L d = some undef) : Go.yielded ops.toArray a.tmps j = none := by
  have h1 := h.slot d _ hd
  unfold gdst at hj
  unfold Go.yielded
  cases ho : ops[j]? with
  | none => simp [ho] at hj
  | some o => simp only [ho] at hj; simp [ho, hj, h1, undef]
section
variable {P : Program} {n : Nat} {Q : Qs} {L : Know} {w : World} {K : Know → World → Prop} {ops : List Oper}
theorem RQ.lift {n : Nat} {Q : Qs} : ∀ e a w, RQ n Q.nrm e a w → Lift n Q e a w := fun e a w h => by
  cases e <;> first | exact h | exact (h : False).elim
theorem CW.regionQ {id : Nat} {l : List Oper} (h : RT P n l l Q.nrm L w) : CW P n (.region id l.toArray false) Q L w := fun a ha =>
  wp_mono (wp_region_list (by simpa using h a ha)) RQ.lift
theorem RT.nil (h : K L w) : RT P n ops [] K L w := fun _ ha => wpList_nil ⟨L, ha, h⟩
theorem RT.weaken {l : List Oper} (L' : Know) (hw : Weak L' L) (h : RT P n ops l K L' w) : RT P n ops l K L w := fun a ha => h a (ha.weaken hw)
theorem RT.ev {o : Oper} {r : List Oper} {v : Value} (hg : o.guard = none) (hd : okDst n o.dst = true) (he : Ev P n L w o v) (h : RT P n ops r K (putK o.dst v L) w) : RT P n ops (o :: r) K L w := fun a ha => by
  refine wpList_plain hg fun K' hK => ?_
  simp only [Oper.wp, he a ha, Oper.upon]
  exact hK _ _ (h _ (ha.putK hd))
def plainB (n : Nat) (o : Oper) : Bool := o.guard.isNone && okDst n o.dst
theorem plainB_g {n : Nat} {o : Oper} (h : plainB n o = true) : o.guard = none := by
  unfold plainB at h; simp only [Bool.and_eq_true, Option.isNone_iff_eq_none] at h; exact h.1
theorem plainB_d {n : Nat} {o : Oper} (h : plainB n o = true) : okDst n o.dst = true := by
  unfold plainB at h; simp only [Bool.and_eq_true] at h; exact h.2
def plainAt (n : Nat) (ops : List Oper) (i : Nat) : Option Oper := match ops[i]? with
  | some o => cond (plainB n o) (some o) none
  | none => none
theorem plainAt_o {n : Nat} {ops : List Oper} {i : Nat} {o : Oper} (h : plainAt n ops i = some o) : ops[i]? = some o ∧ plainB n o = true := by
  unfold plainAt at h
  cases hq : ops[i]? with
  | none => rw [hq] at h; cases h
  | some q =>
    rw [hq] at h
    cases hp : plainB n q with
    | false => simp [hp] at h
    | true => simp [hp] at h; subst h; exact ⟨rfl, hp⟩
theorem RT.e {o : Oper} {r : List Oper} {v : Value} (hg : plainB n o = true) (he : Ev P n L w o v) (h : RT P n ops r K (putK o.dst v L) w) : RT P n ops (o :: r) K L w := RT.ev (plainB_g hg) (plainB_d hg) he h
theorem RT.eff {o : Oper} {r : List Oper} (hg : o.guard = none) (hd : okDst n o.dst = true) (he : OpE P n L w o fun v w' => RT P n ops r K (putK o.dst v L) w') : RT P n ops (o :: r) K L w := fun a ha =>
  wpList_plain hg fun _ hK => he a ha _ _ fun _ _ h => hK _ _ (h _ (ha.putK hd))
theorem RT.f {o : Oper} {r : List Oper} (hg : plainB n o = true) (he : OpE P n L w o fun v w' => RT P n ops r K (putK o.dst v L) w') : RT P n ops (o :: r) K L w := RT.eff (plainB_g hg) (plainB_d hg) he
theorem RT.yes {o : Oper} {r : List Oper} {j d : Nat} {b b' : Bool} (hg : o.guard = some (j, b)) (hj : gdst ops j = some d) (hb : look L d = some (.bool b')) (hbb : b' = b)
    (h : RT P n ops ({ o with guard := none } :: r) K L w) : RT P n ops (o :: r) K L w := fun a ha => by
  subst hbb
  have h' := h a ha
  unfold wpList at h' ⊢
  have : Region.wanted o (yielded ops.toArray a.tmps) = true := by simp [Region.wanted, hg, ha.yielded hj hb]
  have h2 : Region.wanted { o with guard := none } (yielded ops.toArray a.tmps) = true := by simp [Region.wanted]
  simp only [this, h2, if_true] at h' ⊢
  exact h'
theorem RT.no {o : Oper} {r : List Oper} {j d : Nat} {b b' : Bool} (hg : o.guard = some (j, b)) (hj : gdst ops j = some d) (hb : look L d = some (.bool b')) (hne : b' = !b) (hd : okDst n o.dst = true)
    (h : RT P n ops r K (putK o.dst undef L) w) : RT P n ops (o :: r) K L w := fun a ha => by
  have : Region.wanted o (yielded ops.toArray a.tmps) = false := by
    simp only [Region.wanted, hg, ha.yielded hj hb]
    subst hne; cases b <;> simp
  exact wpList_skip this (h _ (ha.putK hd))
theorem RT.noU {o : Oper} {r : List Oper} {j d : Nat} {b : Bool} (hg : o.guard = some (j, b)) (hj : gdst ops j = some d) (hb : look L d = some undef) (hd : okDst n o.dst = true)
    (h : RT P n ops r K (putK o.dst undef L) w) : RT P n ops (o :: r) K L w := fun a ha =>
  wpList_skip (by simp only [Region.wanted, hg, ha.yieldedU hj hb]; rfl) (h _ (ha.putK hd))
def cond2 (b : Option Nat) (S1 S2 : World → Prop) (l : Array Bool) (w : World) : Prop :=
  match b with
  | none => S2 w
  | some b => if l.getD b true = true then S2 w else S1 w
def wpAnyG (P : Program) (ops : Array Oper) (Q : Exit → Act → World → Prop) (b : Option Nat) (S1 S2 : World → Prop) : Nat → Array Bool → Act → World → Prop
  | 0, listed, a, w => Region.ready .any ops listed = [] ∧ Q .normal a w
  | fuel + 1, listed, a, w =>
    (Region.ready .any ops listed = [] → Q .normal a w) ∧
    ∀ i ∈ Region.ready .any ops listed, wpOp P ops Q i (fun a' w' => cond2 b S1 S2 (listed.setIfInBounds i true) w' ∧ wpAnyG P ops Q b S1 S2 fuel (listed.setIfInBounds i true) a' w') a w
theorem wpAny_of_G {P : Program} {ops : Array Oper} {Q : Exit → Act → World → Prop} {b : Option Nat} {S1 S2 : World → Prop} : ∀ (fuel : Nat) (listed : Array Bool) (a : Act) (w : World), wpAnyG P ops Q b S1 S2 fuel listed a w → wpAny P .any ops Q fuel listed a w
  | 0, _, _, _, h => h
  | fuel + 1, _, _, _, h => ⟨h.1, fun i hi => wpOp_mono (fun a' w' h' => wpAny_of_G fuel _ a' w' h'.2) (h.2 i hi)⟩
theorem wpAnyG_done {P : Program} {ops : Array Oper} {Q : Exit → Act → World → Prop} {b : Option Nat} {S1 S2 : World → Prop} {listed : Array Bool} {a : Act} {w : World} (hr : Region.ready .any ops listed = []) (h : Q .normal a w) :
    ∀ fuel, wpAnyG P ops Q b S1 S2 fuel listed a w
  | 0 => ⟨hr, h⟩
  | _ + 1 => ⟨fun _ => h, by rw [hr]; simp⟩
theorem wpAnyG_first {P : Program} {ops : Array Oper} {Q : Exit → Act → World → Prop} {b : Option Nat} {S1 S2 T : World → Prop} {i : Nat} {oi : Oper} {v : Value} (hi : ops[i]? = some oi) (hsel : ∀ (j : Nat) (o : Oper) cs b, ops[j]? = some o → o.op ≠ .select cs b)
    (hQ : ∀ c a w, Q (.panic c) (a.put oi.dst v) w → Q (.panic c) a w) (I : Array Bool → Prop)
    (hI : ∀ l j oj, I l → ops[j]? = some oj → j ≠ i → (∀ e ∈ oj.after, Region.binds .any e = true → e.on ≠ i) → I (l.setIfInBounds j true))
    (hT : ∀ l w, I l → cond2 b S1 S2 l w → T w) (hc : ∀ l w, I l → (cond2 b S1 S2 (l.setIfInBounds i true) w ↔ cond2 b S1 S2 l w)) :
    ∀ (fuel : Nat) (listed : Array Bool) (a : Act) (w : World), I listed →
      (∀ j oj, ops[j]? = some oj → j ≠ i → listed.getD j true = false → (∀ e ∈ oj.after, Region.binds .any e = true → e.on ≠ i) → oi.apart ops oj = true) →
      i ∈ Region.ready .any ops listed → YieldsIf P ops T oi v a → cond2 b S1 S2 listed w →
      wpAnyG P ops Q b S1 S2 fuel (listed.setIfInBounds i true) (a.put oi.dst v) w → wpAnyG P ops Q b S1 S2 (fuel + 1) listed a w := by
  intro fuel
  induction fuel with
  | zero =>
    intro listed a w hIl _ hr hy hS H
    refine ⟨fun h => (by rw [h] at hr; cases hr), fun j hj => ?_⟩
    by_cases hji : j = i
    · subst hji; exact hy.wpOp hi (hT _ _ hIl hS) ⟨(hc _ _ hIl).2 hS, H⟩
    · have := ready_mono hj hji
      rw [H.1] at this
      cases this
  | succ fuel ih =>
    intro listed a w hIl hfree hr hy hS H
    refine ⟨fun h => (by rw [h] at hr; cases hr), fun j hj => ?_⟩
    by_cases hji : j = i
    · subst hji; exact hy.wpOp hi (hT _ _ hIl hS) ⟨(hc _ _ hIl).2 hS, H⟩
    · have h1 := H.2 j (ready_mono hj hji)
      obtain ⟨hjun, oj, hoj, hall⟩ := mem_ready.1 hj
      have hnot : ∀ e ∈ oj.after, Region.binds .any e = true → e.on ≠ i := fun e he hb heq => by
        have h1 := hall e he hb
        have h0 := (mem_ready.1 hr).1
        rw [heq] at h1
        rcases Nat.lt_or_ge i listed.size with h' | h'
        · simp [h'] at h0 h1; rw [h0] at h1; cases h1
        · simp [Array.getElem?_eq_none h'] at h1
      have h2 := wpOp_putIf hoj (hfree j oj hoj hji hjun hnot) (fun cs b => hsel i oi cs b hi) (fun cs b => hsel j oj cs b hoj) hQ hy h1
      have hfree' : ∀ k ok, ops[k]? = some ok → k ≠ i → (listed.setIfInBounds j true).getD k true = false →
          (∀ e ∈ ok.after, Region.binds .any e = true → e.on ≠ i) → oi.apart ops ok = true := fun k ok hk hki hun hno => by
        refine hfree k ok hk hki ?_ hno
        by_cases hjk : j = k
        · subst hjk; exact hjun
        · rw [getD_set_ne true hjk] at hun; exact hun
      have hIj := hI listed j oj hIl hoj hji hnot
      refine wpOp_mono (fun a' w' h3 => ?_) h2
      have h4 := h3.2.1
      rw [Array.setIfInBounds_comm _ _ (Ne.symm hji)] at h4
      have hTw := (hc _ _ hIj).1 h4
      refine ⟨hTw, ih (listed.setIfInBounds j true) a' w' hIj hfree' (ready_mono hr (Ne.symm hji)) h3.1 hTw ?_⟩
      rw [Array.setIfInBounds_comm _ _ hji]
      exact h3.2.2
inductive Plan where
  | fin
  | free (i : Nat) (p : Plan)
  | loose (i : Nat) (p : Plan)
  | one (i : Nat) (p : Plan)
  | bar (i : Nat) (p : Plan)
  | two (i j : Nat) (p q : Plan)
def Plan.bar? : Plan → Option Nat
  | .fin => none
  | .free _ p | .one _ p | .loose _ p => p.bar?
  | .bar i _ => some i
  | .two _ _ p _ => p.bar?
def waitsFor (ops : Array Oper) (i : Nat) : Option Nat → Bool
  | none => true
  | some b => (i != b) && (match ops[b]? with | some o => o.after.any fun e => Region.binds .any e && e.on == i | none => false)
def Plan.ok (ops : Array Oper) : Plan → Array Bool → Bool
  | .fin, l => (Region.ready .any ops l).isEmpty
  | .free i p, l => Region.free .any ops l i && (Region.ready .any ops l).contains i && waitsFor ops i p.bar? && p.ok ops (l.setIfInBounds i true)
  | .loose i p, l => Region.free .any ops l i && (Region.ready .any ops l).contains i && p.bar? != some i && p.ok ops (l.setIfInBounds i true)
  | .one i p, l => Region.ready .any ops l == [i] && p.bar? != some i && p.ok ops (l.setIfInBounds i true)
  | .bar i p, l => Region.ready .any ops l == [i] && p.bar?.isNone && p.ok ops (l.setIfInBounds i true)
  | .two i j p q, l => Region.ready .any ops l == [i, j] && p.bar? == q.bar? && p.bar? != some i && p.bar? != some j && p.ok ops (l.setIfInBounds i true) && q.ok ops (l.setIfInBounds j true)
def Plan.depth : Plan → Nat
  | .fin => 0
  | .free _ p | .one _ p | .bar _ p | .loose _ p => p.depth + 1
  | .two _ _ p q => max p.depth q.depth + 1
def hdS : List (World → Prop) → World → Prop
  | [] => fun _ => True
  | S :: _ => S
def planWp (P : Program) (n : Nat) (ops : List Oper) (K : Know → World → Prop) : List (World → Prop) → Plan → Act → World → Prop
  | _, .fin, a, w => RQ n K .normal a w
  | S, .free i p, a, w => ∃ o v, ops[i]? = some o ∧ YieldsIf P ops.toArray (hdS S) o v a ∧ hdS S w ∧ planWp P n ops K S p (a.put o.dst v) w
  | S, .loose i p, a, w => ∃ o v, ops[i]? = some o ∧ YieldsIf P ops.toArray (hdS S.tail) o v a ∧ hdS S w ∧ planWp P n ops K S p (a.put o.dst v) w
  | S, .one i p, a, w => wpOp P ops.toArray (RQ n K) i (fun a' w' => hdS S w' ∧ planWp P n ops K S p a' w') a w
  | S, .bar i p, a, w => wpOp P ops.toArray (RQ n K) i (fun a' w' => hdS S.tail w' ∧ planWp P n ops K S.tail p a' w') a w
  | S, .two i j p q, a, w => wpOp P ops.toArray (RQ n K) i (fun a' w' => hdS S w' ∧ planWp P n ops K S p a' w') a w ∧ wpOp P ops.toArray (RQ n K) j (fun a' w' => hdS S w' ∧ planWp P n ops K S q a' w') a w
theorem getD_set_same {l : Array Bool} {i : Nat} : (l.setIfInBounds i true).getD i true = true := by
  by_cases h : i < l.size <;> simp [h]
theorem getD_set_keep {l : Array Bool} {i j : Nat} (h : l.getD j true = true) : (l.setIfInBounds i true).getD j true = true := by
  by_cases hij : i = j
  · subst hij; exact getD_set_same
  · rw [getD_set_ne true hij]; exact h
theorem planWp.sound2 {S1 S2 : World → Prop} {b : Option Nat} (hsel : Region.noSelect ops.toArray = true) (S : List (World → Prop)) (hS : hdS S = S2) (hS2 : S.tail = []) : ∀ (p : Plan) (l : Array Bool) (fuel : Nat) (a : Act) (w : World), p.bar? = none → (∀ b0, b = some b0 → l.getD b0 true = true) → p.ok ops.toArray l = true → p.depth ≤ fuel →
    planWp P n ops K S p a w → wpAnyG P ops.toArray (RQ n K) b S1 S2 fuel l a w
  | .fin, l, fuel, a, w, _, _, hok, _, h => wpAnyG_done (by simpa [Plan.ok] using hok) h fuel
  | .free i p, l, fuel + 1, a, w, hb, hl, hok, hd, h => by
    obtain ⟨o, v, ho, hy, hw, hp⟩ := h
    simp only [Plan.ok, Bool.and_eq_true] at hok
    rw [hS] at hy hw
    have hI : ∀ l w, (∀ b0, b = some b0 → l.getD b0 true = true) → (cond2 b S1 S2 l w ↔ S2 w) := fun l w h => by
      cases b with
      | none => rfl
      | some b => simp only [cond2, h b rfl, if_true]
    have hI2 : ∀ l w, (∀ b0, b = some b0 → l.getD b0 true = true) → (cond2 b S1 S2 (l.setIfInBounds i true) w ↔ cond2 b S1 S2 l w) := fun l w h => (hI _ w fun b0 e => getD_set_keep (h b0 e)).trans (hI l w h).symm
    exact wpAnyG_first (T := S2) (by simpa using ho) (Region.noSelect_spec hsel) (fun _ _ _ h => h) (fun l => ∀ b0, b = some b0 → l.getD b0 true = true) (fun l j oj h _ _ _ b0 e => getD_set_keep (h b0 e)) (fun l w h h' => (hI l w h).1 h')
      hI2 fuel l a w hl (Region.free_spec (by simpa using ho) hok.1.1.1) (by simpa using hok.1.1.2) hy ((hI l w hl).2 hw)
      (planWp.sound2 hsel S hS hS2 p _ fuel _ w hb (fun b0 e => getD_set_keep (hl b0 e)) hok.2 (by simpa [Plan.depth] using hd) hp)
  | .loose i p, l, fuel + 1, a, w, hb, hl, hok, hd, h => by
    obtain ⟨o, v, ho, hy, hw, hp⟩ := h
    simp only [Plan.ok, Bool.and_eq_true] at hok
    rw [hS] at hw
    rw [hS2] at hy
    have hI : ∀ l w, (∀ b0, b = some b0 → l.getD b0 true = true) → (cond2 b S1 S2 l w ↔ S2 w) := fun l w h => by
      cases b with
      | none => rfl
      | some b => simp only [cond2, h b rfl, if_true]
    have hI2 : ∀ l w, (∀ b0, b = some b0 → l.getD b0 true = true) → (cond2 b S1 S2 (l.setIfInBounds i true) w ↔ cond2 b S1 S2 l w) := fun l w h => (hI _ w fun b0 e => getD_set_keep (h b0 e)).trans (hI l w h).symm
    exact wpAnyG_first (T := fun _ => True) (by simpa using ho) (Region.noSelect_spec hsel) (fun _ _ _ h => h) (fun l => ∀ b0, b = some b0 → l.getD b0 true = true) (fun l j oj h _ _ _ b0 e => getD_set_keep (h b0 e)) (fun l w h h' => trivial)
      hI2 fuel l a w hl (Region.free_spec (by simpa using ho) hok.1.1.1) (by simpa using hok.1.1.2) hy ((hI l w hl).2 hw)
      (planWp.sound2 hsel S hS hS2 p _ fuel _ w hb (fun b0 e => getD_set_keep (hl b0 e)) hok.2 (by simpa [Plan.depth] using hd) hp)
  | .one i p, l, fuel + 1, a, w, hb, hl, hok, hd, h => by
    simp only [Plan.ok, Bool.and_eq_true, beq_iff_eq] at hok
    refine ⟨fun h0 => absurd (hok.1.1 ▸ h0) (by simp), fun j hj => ?_⟩
    rw [hok.1.1] at hj
    simp only [List.mem_singleton] at hj
    subst hj
    refine wpOp_mono (fun a' w' h' => ⟨?_, planWp.sound2 hsel S hS hS2 p _ fuel a' w' hb (fun b0 e => getD_set_keep (hl b0 e)) hok.2 (by simpa [Plan.depth] using hd) h'.2⟩) h
    have := h'.1
    rw [hS] at this
    cases b with
    | none => exact this
    | some b => simp only [cond2, getD_set_keep (hl b rfl), if_true]; exact this
  | .two i j p q, l, fuel + 1, a, w, hb, hl, hok, hd, h => by
    simp only [Plan.bar?] at hb
    simp only [Plan.ok, Bool.and_eq_true, beq_iff_eq] at hok
    obtain ⟨⟨⟨⟨⟨hr, hpq⟩, _⟩, _⟩, hop⟩, hoq⟩ := hok
    simp only [Plan.depth] at hd
    refine ⟨fun h0 => absurd (hr ▸ h0) (by simp), fun k hk => ?_⟩
    rw [hr] at hk
    simp only [List.mem_cons, List.not_mem_nil, or_false] at hk
    have hc : ∀ k w', hdS S w' → cond2 b S1 S2 (l.setIfInBounds k true) w' := fun k w' h' => by
      rw [hS] at h'
      cases b with
      | none => exact h'
      | some b => simp only [cond2, getD_set_keep (hl b rfl), if_true]; exact h'
    rcases hk with rfl | rfl
    · exact wpOp_mono (fun a' w' h' => ⟨hc _ _ h'.1, planWp.sound2 hsel S hS hS2 p _ fuel a' w' hb (fun b0 e => getD_set_keep (hl b0 e)) hop (by omega) h'.2⟩) h.1
    · exact wpOp_mono (fun a' w' h' => ⟨hc _ _ h'.1, planWp.sound2 hsel S hS hS2 q _ fuel a' w' (hpq ▸ hb) (fun b0 e => getD_set_keep (hl b0 e)) hoq (by omega) h'.2⟩) h.2
  | .bar i p, l, fuel, a, w, hb, _, _, _, _ => by simp [Plan.bar?] at hb
  | .free i p, l, 0, _, _, _, _, _, hd, _ => by simp [Plan.depth] at hd
  | .one i p, l, 0, _, _, _, _, _, hd, _ => by simp [Plan.depth] at hd
  | .loose i p, l, 0, _, _, _, _, _, hd, _ => by simp [Plan.depth] at hd
  | .two i j p q, l, 0, _, _, _, _, _, hd, _ => by simp [Plan.depth] at hd
theorem planWp.sound1 {S1 S2 : World → Prop} {b : Nat} (hsel : Region.noSelect ops.toArray = true) (h12 : ∀ w, S1 w → S2 w) : ∀ (p : Plan) (l : Array Bool) (fuel : Nat) (a : Act) (w : World), p.bar? = some b → l.getD b true = false → p.ok ops.toArray l = true → p.depth ≤ fuel →
    planWp P n ops K [S1, S2] p a w → wpAnyG P ops.toArray (RQ n K) (some b) S1 S2 fuel l a w
  | .free i p, l, fuel + 1, a, w, hb, hl, hok, hd, h => by
    obtain ⟨o, v, ho, hy, hw, hp⟩ := h
    simp only [Plan.bar?] at hb
    simp only [Plan.ok, Bool.and_eq_true, hb, waitsFor] at hok
    have hib : i ≠ b := by simpa using hok.1.2.1
    have hbi : ∃ ob, ops.toArray[b]? = some ob ∧ ∃ e ∈ ob.after, Region.binds .any e = true ∧ e.on = i := by
      have h2 := hok.1.2.2
      cases hob : ops.toArray[b]? with
      | none => rw [hob] at h2; cases h2
      | some ob =>
        rw [hob] at h2
        obtain ⟨e, he, h3⟩ := Array.any_eq_true'.1 h2
        simp only [Bool.and_eq_true, beq_iff_eq] at h3
        exact ⟨ob, rfl, e, he, h3.1, h3.2⟩
    obtain ⟨ob, hob, e, he, hbe, hei⟩ := hbi
    have hT : ∀ l w, l.getD b true = false → (cond2 (some b) S1 S2 l w ↔ S1 w) := fun l w h => by
      simp only [cond2, h, Bool.false_eq_true, if_false]
    exact wpAnyG_first (T := S1) (by simpa using ho) (Region.noSelect_spec hsel) (fun _ _ _ h => h) (fun l => l.getD b true = false)
      (fun l j oj h hoj hji hno => by
        have hjb : j ≠ b := fun e2 => by subst e2; rw [hob] at hoj; cases hoj; exact hno e he hbe hei
        rw [getD_set_ne true hjb]; exact h)
      (fun l w h => (hT l w h).1) (fun l w h => by simp only [cond2, getD_set_ne true hib]) fuel l a w hl (Region.free_spec (by simpa using ho) hok.1.1.1) (by simpa using hok.1.1.2) hy ((hT l w hl).2 hw)
      (planWp.sound1 hsel h12 p _ fuel _ w hb (by rw [getD_set_ne true hib]; exact hl) hok.2 (by simpa [Plan.depth] using hd) hp)
  | .loose i p, l, fuel + 1, a, w, hb, hl, hok, hd, h => by
    obtain ⟨o, v, ho, hy, hw, hp⟩ := h
    simp only [Plan.bar?] at hb
    simp only [Plan.ok, Bool.and_eq_true, hb] at hok
    have hib : i ≠ b := fun e => by have := hok.1.2; subst e; simp at this
    exact wpAnyG_first (T := S2) (by simpa using ho) (Region.noSelect_spec hsel) (fun _ _ _ h => h) (fun _ => True) (fun _ _ _ _ _ _ _ => trivial)
      (fun l w _ h => by
        simp only [cond2] at h
        by_cases hq : l.getD b true = true
        · rw [if_pos hq] at h; exact h
        · rw [if_neg hq] at h; exact h12 _ h) (fun l w h => by simp only [cond2, getD_set_ne true hib]) fuel l a w trivial (Region.free_spec (by simpa using ho) hok.1.1.1) (by simpa using hok.1.1.2) hy
      (by simp only [cond2, hl, Bool.false_eq_true, if_false]; exact hw)
      (planWp.sound1 hsel h12 p _ fuel _ w hb (by rw [getD_set_ne true hib]; exact hl) hok.2 (by simpa [Plan.depth] using hd) hp)
  | .one i p, l, fuel + 1, a, w, hb, hl, hok, hd, h => by
    simp only [Plan.bar?] at hb
    simp only [Plan.ok, Bool.and_eq_true, beq_iff_eq, hb] at hok
    have hib : i ≠ b := fun e => by have := hok.1.2; subst e; simp at this
    refine ⟨fun h0 => absurd (hok.1.1 ▸ h0) (by simp), fun j hj => ?_⟩
    rw [hok.1.1] at hj
    simp only [List.mem_singleton] at hj
    subst hj
    have hl2 : (l.setIfInBounds j true).getD b true = false := by rw [getD_set_ne true hib]; exact hl
    exact wpOp_mono (fun a' w' h' => ⟨by simp only [cond2, hl2, Bool.false_eq_true, if_false]; exact h'.1, planWp.sound1 hsel h12 p _ fuel a' w' hb hl2 hok.2 (by simpa [Plan.depth] using hd) h'.2⟩) h
  | .bar i p, l, fuel + 1, a, w, hb, hl, hok, hd, h => by
    simp only [Plan.bar?, Option.some.injEq] at hb
    subst hb
    simp only [Plan.ok, Bool.and_eq_true, beq_iff_eq, Option.isNone_iff_eq_none] at hok
    refine ⟨fun h0 => absurd (hok.1.1 ▸ h0) (by simp), fun j hj => ?_⟩
    rw [hok.1.1] at hj
    simp only [List.mem_singleton] at hj
    subst hj
    exact wpOp_mono (fun a' w' h' => ⟨by simp only [cond2, getD_set_same, if_true]; exact h'.1,
      planWp.sound2 hsel [S2] rfl rfl p _ fuel a' w' hok.1.2 (fun b0 e => by cases e; exact getD_set_same) hok.2 (by simpa [Plan.depth] using hd) h'.2⟩) h
  | .fin, l, fuel, a, w, hb, _, _, _, _ => by simp [Plan.bar?] at hb
  | .two i j p q, l, fuel + 1, a, w, hb, hl, hok, hd, h => by
    simp only [Plan.bar?] at hb
    simp only [Plan.ok, Bool.and_eq_true, beq_iff_eq, hb] at hok
    obtain ⟨⟨⟨⟨⟨hr, hpq⟩, hni⟩, hnj⟩, hop⟩, hoq⟩ := hok
    have hib : i ≠ b := fun e => by subst e; simp at hni
    have hjb : j ≠ b := fun e => by subst e; simp at hnj
    simp only [Plan.depth] at hd
    refine ⟨fun h0 => absurd (hr ▸ h0) (by simp), fun k hk => ?_⟩
    rw [hr] at hk
    simp only [List.mem_cons, List.not_mem_nil, or_false] at hk
    have hl2 : ∀ k, k ≠ b → (l.setIfInBounds k true).getD b true = false := fun k hk => by rw [getD_set_ne true hk]; exact hl
    rcases hk with rfl | rfl
    · exact wpOp_mono (fun a' w' h' => ⟨by simp only [cond2, hl2 _ hib, Bool.false_eq_true, if_false]; exact h'.1, planWp.sound1 hsel h12 p _ fuel a' w' hb (hl2 _ hib) hop (by omega) h'.2⟩) h.1
    · exact wpOp_mono (fun a' w' h' => ⟨by simp only [cond2, hl2 _ hjb, Bool.false_eq_true, if_false]; exact h'.1, planWp.sound1 hsel h12 q _ fuel a' w' hpq.symm (hl2 _ hjb) hoq (by omega) h'.2⟩) h.2
  | .free i p, l, 0, _, _, _, _, _, hd, _ => by simp [Plan.depth] at hd
  | .one i p, l, 0, _, _, _, _, _, hd, _ => by simp [Plan.depth] at hd
  | .loose i p, l, 0, _, _, _, _, _, hd, _ => by simp [Plan.depth] at hd
  | .bar i p, l, 0, _, _, _, _, _, hd, _ => by simp [Plan.depth] at hd
  | .two i j p q, l, 0, _, _, _, _, _, hd, _ => by simp [Plan.depth] at hd
def RP (P : Program) (n : Nat) (ops : List Oper) (S : List (World → Prop)) (p : Plan) (K : Know → World → Prop) (L : Know) (w : World) : Prop :=
  ∀ a, Fits n L a → planWp P n ops K S p a w
def Plan.good (ops : List Oper) (p : Plan) : Bool :=
  p.ok ops.toArray (Array.replicate ops.length false) && Nat.ble p.depth ops.length && Region.noSelect ops.toArray && p.bar?.isNone
def Plan.good2 (ops : List Oper) (b : Nat) (p : Plan) : Bool :=
  p.ok ops.toArray (Array.replicate ops.length false) && Nat.ble p.depth ops.length && Region.noSelect ops.toArray && (p.bar? == some b) && Nat.blt b ops.length
theorem CW.drawQ {id : Nat} {l : List Oper} (S : World → Prop) (p : Plan) (hm : P.follows .mixedOrders = true) (hok : p.good l = true)
    (h : RP P n l [S] p Q.nrm L w.drew) : CW P n (.region id l.toArray true) Q L w := fun a ha => by
  simp only [Plan.good, Bool.and_eq_true, Option.isNone_iff_eq_none] at hok
  refine wp_mono (wp_region_any hm (wpAny_of_G (b := none) (S1 := S) (S2 := S) _ _ _ _ ?_)) RQ.lift
  have := planWp.sound2 (b := none) (S1 := S) (S2 := S) hok.1.2 [S] rfl rfl p (Array.replicate l.length false) l.length a _ hok.2 (fun _ e => by cases e) hok.1.1.1 (Nat.le_of_ble_eq_true hok.1.1.2) (h a ha)
  simpa using this
theorem CW.draw2Q {id : Nat} {l : List Oper} (S1 S2 : World → Prop) (b : Nat) (p : Plan) (h12 : ∀ w, S1 w → S2 w) (hm : P.follows .mixedOrders = true) (hok : p.good2 l b = true)
    (h : RP P n l [S1, S2] p Q.nrm L w.drew) : CW P n (.region id l.toArray true) Q L w := fun a ha => by
  simp only [Plan.good2, Bool.and_eq_true, beq_iff_eq] at hok
  have hb : b < l.length := by have := hok.2; simp only [Nat.blt_eq] at this; exact this
  refine wp_mono (wp_region_any hm (wpAny_of_G (b := some b) (S1 := S1) (S2 := S2) _ _ _ _ ?_)) RQ.lift
  have := planWp.sound1 (S1 := S1) (S2 := S2) hok.1.1.2 h12 p (Array.replicate l.length false) l.length a _ hok.1.2 (by simp [hb]) hok.1.1.1.1 (Nat.le_of_ble_eq_true hok.1.1.1.2) (h a ha)
  simpa using this
variable {S : World → Prop} {SS : List (World → Prop)} {p q : Plan}
theorem RP.fin (h : K L w) : RP P n ops SS .fin K L w := fun _ ha => ⟨L, ha, h⟩
theorem RP.weaken (L' : Know) (hw : Weak L' L) (h : RP P n ops SS p K L' w) : RP P n ops SS p K L w := fun a ha => h a (ha.weaken hw)
theorem RP.ev {i : Nat} {o : Oper} {v : Value} (ho : ops[i]? = some o) (hg : o.guard = none) (hd : okDst n o.dst = true) (he : ∀ w', S w' → Ev P n L w' o v) (hS : S w)
    (h : RP P n ops (S :: SS) p K (putK o.dst v L) w) : RP P n ops (S :: SS) (.free i p) K L w := fun a ha =>
  ⟨o, v, ho, .inl ⟨by simp [Region.wanted, hg], fun w' hw' => he w' hw' a ha⟩, hS, h _ (ha.putK hd)⟩
theorem RP.e {i : Nat} {o : Oper} {v : Value} (ho : plainAt n ops i = some o) (he : ∀ w', S w' → Ev P n L w' o v) (hS : S w)
    (h : RP P n ops (S :: SS) p K (putK o.dst v L) w) : RP P n ops (S :: SS) (.free i p) K L w := RP.ev (plainAt_o ho).1 (plainB_g (plainAt_o ho).2) (plainB_d (plainAt_o ho).2) he hS h
theorem RP.evYes {i : Nat} {o : Oper} {v : Value} {j d : Nat} {b b' : Bool} (ho : ops[i]? = some o) (hg : o.guard = some (j, b)) (hj : gdst ops j = some d) (hb : look L d = some (.bool b')) (hbb : b' = b) (hd : okDst n o.dst = true)
    (he : ∀ w', S w' → Ev P n L w' o v) (hS : S w) (h : RP P n ops (S :: SS) p K (putK o.dst v L) w) : RP P n ops (S :: SS) (.free i p) K L w := fun a ha =>
  ⟨o, v, ho, .inl ⟨by subst hbb; simp [Region.wanted, hg, ha.yielded hj hb], fun w' hw' => he w' hw' a ha⟩, hS, h _ (ha.putK hd)⟩
theorem RP.no {i : Nat} {o : Oper} {j d : Nat} {b b' : Bool} (ho : ops[i]? = some o) (hg : o.guard = some (j, b)) (hj : gdst ops j = some d) (hb : look L d = some (.bool b')) (hne : b' = !b) (hd : okDst n o.dst = true)
    (hS : S w) (h : RP P n ops (S :: SS) p K (putK o.dst undef L) w) : RP P n ops (S :: SS) (.free i p) K L w := fun a ha =>
  ⟨o, undef, ho, .inr ⟨by simp only [Region.wanted, hg, ha.yielded hj hb]; subst hne; cases b <;> simp, rfl⟩, hS, h _ (ha.putK hd)⟩
theorem RP.noU {i : Nat} {o : Oper} {j d : Nat} {b : Bool} (ho : ops[i]? = some o) (hg : o.guard = some (j, b)) (hj : gdst ops j = some d) (hb : look L d = some undef) (hd : okDst n o.dst = true)
    (hS : S w) (h : RP P n ops (S :: SS) p K (putK o.dst undef L) w) : RP P n ops (S :: SS) (.free i p) K L w := fun a ha =>
  ⟨o, undef, ho, .inr ⟨by simp only [Region.wanted, hg, ha.yieldedU hj hb]; rfl, rfl⟩, hS, h _ (ha.putK hd)⟩
theorem planOp {i : Nat} {o : Oper} (ho : ops[i]? = some o) (hg : o.guard = none) (hd : okDst n o.dst = true) (he : OpE P n L w o fun v w' => S w' ∧ RP P n ops (S :: SS) p K (putK o.dst v L) w') {a : Act} (ha : Fits n L a) :
    wpOp P ops.toArray (RQ n K) i (fun a' w' => S w' ∧ planWp P n ops K (S :: SS) p a' w') a w := by
  have ho' : ops.toArray[i]? = some o := by simpa using ho
  unfold wpOp
  simp only [ho', Region.wanted, hg, if_true]
  exact .inl (he a ha _ _ fun v w' h => ⟨h.1, h.2 _ (ha.putK hd)⟩)
theorem planOpYes {i : Nat} {o : Oper} {j d : Nat} {b b' : Bool} (ho : ops[i]? = some o) (hg : o.guard = some (j, b)) (hj : gdst ops j = some d) (hb : look L d = some (.bool b')) (hbb : b' = b) (hd : okDst n o.dst = true)
    (he : OpE P n L w o fun v w' => S w' ∧ RP P n ops (S :: SS) p K (putK o.dst v L) w') {a : Act} (ha : Fits n L a) :
    wpOp P ops.toArray (RQ n K) i (fun a' w' => S w' ∧ planWp P n ops K (S :: SS) p a' w') a w := by
  subst hbb
  have ho' : ops.toArray[i]? = some o := by simpa using ho
  unfold wpOp
  simp only [ho', Region.wanted, hg, ha.yielded hj hb, beq_self_eq_true, if_true]
  exact .inl (he a ha _ _ fun v w' h => ⟨h.1, h.2 _ (ha.putK hd)⟩)
theorem RP.eff {i : Nat} {o : Oper} (ho : ops[i]? = some o) (hg : o.guard = none) (hd : okDst n o.dst = true) (he : OpE P n L w o fun v w' => S w' ∧ RP P n ops (S :: SS) p K (putK o.dst v L) w') : RP P n ops (S :: SS) (.one i p) K L w :=
  fun _ ha => planOp ho hg hd he ha
theorem RP.f {i : Nat} {o : Oper} (ho : plainAt n ops i = some o) (he : OpE P n L w o fun v w' => S w' ∧ RP P n ops (S :: SS) p K (putK o.dst v L) w') : RP P n ops (S :: SS) (.one i p) K L w :=
  RP.eff (plainAt_o ho).1 (plainB_g (plainAt_o ho).2) (plainB_d (plainAt_o ho).2) he
theorem RP.effYes {i : Nat} {o : Oper} {j d : Nat} {b b' : Bool} (ho : ops[i]? = some o) (hg : o.guard = some (j, b)) (hj : gdst ops j = some d) (hb : look L d = some (.bool b')) (hbb : b' = b) (hd : okDst n o.dst = true)
    (he : OpE P n L w o fun v w' => S w' ∧ RP P n ops (S :: SS) p K (putK o.dst v L) w') : RP P n ops (S :: SS) (.one i p) K L w :=
  fun _ ha => planOpYes ho hg hj hb hbb hd he ha
theorem RP.two {i j : Nat} {oi oj : Oper} (ho : ops[i]? = some oi) (hg : oi.guard = none) (hd : okDst n oi.dst = true) (ho' : ops[j]? = some oj) (hg' : oj.guard = none) (hd' : okDst n oj.dst = true)
    (he : OpE P n L w oi fun v w' => S w' ∧ RP P n ops (S :: SS) p K (putK oi.dst v L) w') (he' : OpE P n L w oj fun v w' => S w' ∧ RP P n ops (S :: SS) q K (putK oj.dst v L) w') : RP P n ops (S :: SS) (.two i j p q) K L w :=
  fun _ ha => ⟨planOp ho hg hd he ha, planOp ho' hg' hd' he' ha⟩
theorem RP.loose {i : Nat} {o : Oper} {v : Value} {S2 : World → Prop} (ho : ops[i]? = some o) (hg : o.guard = none) (hd : okDst n o.dst = true) (he : ∀ w', S2 w' → Ev P n L w' o v) (hS : S w)
    (h : RP P n ops (S :: S2 :: SS) p K (putK o.dst v L) w) : RP P n ops (S :: S2 :: SS) (.loose i p) K L w := fun a ha =>
  ⟨o, v, ho, .inl ⟨by simp [Region.wanted, hg], fun w' hw' => he w' hw' a ha⟩, hS, h _ (ha.putK hd)⟩
theorem RP.bar {i : Nat} {o : Oper} {S2 : World → Prop} (ho : ops[i]? = some o) (hg : o.guard = none) (hd : okDst n o.dst = true) (he : OpE P n L w o fun v w' => S2 w' ∧ RP P n ops (S2 :: SS) p K (putK o.dst v L) w') : RP P n ops (S :: S2 :: SS) (.bar i p) K L w :=
  fun _ ha => planOp ho hg hd he ha
theorem OpE.ev {o : Oper} {v : Value} {K : Value → World → Prop} (he : Ev P n L w o v) (h : K v w) : OpE P n L w o K := fun a ha _ _ hk => by
  simp only [Oper.wp, he a ha, Oper.upon]; exact hk _ _ h
end
section
variable {P : Program} {n : Nat} {N R : Know → World → Prop} {X G : List (Nat × (Know → World → Prop))} {L : Know} {w : World}
theorem CW.skip (h : N L w) : CW P n .skip ⟨N, R, X, G⟩ L w := CW.skipQ h
theorem CW.ret (h : R L w) : CW P n .ret ⟨N, R, X, G⟩ L w := CW.retQ h
theorem CW.exit {id : Nat} (h : lookE X id L w) : CW P n (.exit id) ⟨N, R, X, G⟩ L w := CW.exitQ h
theorem CW.exit0 {id : Nat} {M : Know → World → Prop} (h : M L w) : CW P n (.exit id) ⟨N, R, (id, M) :: X, G⟩ L w := CW.exitQ (by simp only [lookE_cons, if_pos]; exact h)
theorem CW.goto {l : Nat} (h : lookE G l L w) : CW P n (.goto l) ⟨N, R, X, G⟩ L w := CW.gotoQ h
theorem CW.seq {x y : Code} (h : CW P n x ⟨fun L w => CW P n y ⟨N, R, X, G⟩ L w, R, X, G⟩ L w) : CW P n (.seq x y) ⟨N, R, X, G⟩ L w := CW.seqQ h
theorem CW.seqMid {x y : Code} (M : Know → World → Prop) (h : CW P n x ⟨M, R, X, G⟩ L w) (h2 : ∀ L' w', M L' w' → CW P n y ⟨N, R, X, G⟩ L' w') : CW P n (.seq x y) ⟨N, R, X, G⟩ L w := CW.seqMidQ M h h2
theorem CW.mid {c : Code} (M : Know → World → Prop) (h : CW P n c ⟨M, R, X, G⟩ L w) (h2 : ∀ L' w', M L' w' → N L' w') : CW P n c ⟨N, R, X, G⟩ L w := CW.midQ M h h2
theorem CW.cond {c : Operand} {x y : Code} {b : Bool} (hc : evK L c = some (.bool b)) (ht : b = true → CW P n x ⟨N, R, X, G⟩ L w) (hf : b = false → CW P n y ⟨N, R, X, G⟩ L w) : CW P n (.cond c x y) ⟨N, R, X, G⟩ L w := CW.condQ hc ht hf
theorem CW.condD {c : Operand} {x y : Code} {p : Prop} {dp : Decidable p} (hc : evK L c = some (.bool (@decide p dp))) (ht : p → CW P n x ⟨N, R, X, G⟩ L w) (hf : ¬ p → CW P n y ⟨N, R, X, G⟩ L w) : CW P n (.cond c x y) ⟨N, R, X, G⟩ L w := CW.condDQ hc ht hf
theorem CW.condT {c : Operand} {x y : Code} {b : Bool} (hc : evK L c = some (.bool b)) (hb : b = true) (ht : CW P n x ⟨N, R, X, G⟩ L w) : CW P n (.cond c x y) ⟨N, R, X, G⟩ L w := CW.condTQ hc hb ht
theorem CW.condF {c : Operand} {x y : Code} {b : Bool} (hc : evK L c = some (.bool b)) (hb : b = false) (hf : CW P n y ⟨N, R, X, G⟩ L w) : CW P n (.cond c x y) ⟨N, R, X, G⟩ L w := CW.condFQ hc hb hf
theorem CW.block {id : Nat} {c : Code} (h : CW P n c ⟨N, R, (id, N) :: X, G⟩ L w) : CW P n (.block id c) ⟨N, R, X, G⟩ L w := CW.blockQ h
theorem CW.loop {c : Code} {α : Type} (K : α → Know) (I : α → World → Prop) (μ : α → Nat) (x₀ : α) (h0 : Weak (K x₀) L) (hI : I x₀ w)
    (round : ∀ x w, I x w → CW P n c ⟨fun L' w' => ∃ x', Weak (K x') L' ∧ I x' w' ∧ μ x' < μ x, R, X, G⟩ (K x) w) : CW P n (.loop c) ⟨N, R, X, G⟩ L w := CW.loopQ K I μ x₀ h0 hI round
theorem CW.region {id : Nat} {l : List Oper} (h : RT P n l l N L w) : CW P n (.region id l.toArray false) ⟨N, R, X, G⟩ L w := CW.regionQ h
theorem CW.draw2 {id : Nat} {l : List Oper} (S1 S2 : World → Prop) (b : Nat) (p : Plan) (h12 : ∀ w, S1 w → S2 w) (hm : P.follows .mixedOrders = true) (hok : p.good2 l b = true)
    (h : RP P n l [S1, S2] p N L w.drew) : CW P n (.region id l.toArray true) ⟨N, R, X, G⟩ L w := CW.draw2Q S1 S2 b p h12 hm hok h
theorem CW.draw {id : Nat} {l : List Oper} (S : World → Prop) (p : Plan) (hm : P.follows .mixedOrders = true) (hok : p.good l = true)
    (h : RP P n l [S] p N L w.drew) : CW P n (.region id l.toArray true) ⟨N, R, X, G⟩ L w := CW.drawQ S p hm hok h
end
def Ret (Φ : Value → World → Prop) : Ending → World → Prop := fun e w' => ∃ v, e = .returned v ∧ Φ v w'
def CallsV (P : Program) (f : FuncId) (args : List Value) (w : World) (Φ : Value → World → Prop) : Prop := Calls P f args.toArray w (Ret Φ)
theorem CallsV.mono {P : Program} {f : FuncId} {args : List Value} {w : World} {Φ Ψ : Value → World → Prop} (h : CallsV P f args w Φ) (hk : ∀ v w', Φ v w' → Ψ v w') : CallsV P f args w Ψ :=
  Calls.mono h fun _ w' ⟨v, he, hv⟩ => ⟨v, he, hk v w' hv⟩
def Enters (P : Program) (f : FuncId) : Prop := ∀ args w, (callFunc f args).run P w = .ok (.enter f args) w
theorem Enters.of {P : Program} {f : FuncId} {fn : Func} (hf : P.funcs[f]? = some fn) (hb : fn.body.isNone = false) (hn : (fn.name == "runtime.NumGoroutine") = false) : Enters P f := fun args w => by
  have h1 : fn.name ≠ "runtime.NumGoroutine" := by simpa using hn
  have h2 : fn.body ≠ none := by intro h; rw [h] at hb; cases hb
  have hp : ∀ w, (program).run P w = .ok P w := fun _ => rfl
  simp [callFunc, hp, hf, h1, h2]
section
variable {P : Program} {n : Nat} {L : Know} {w : World} {K : Value → World → Prop}
theorem OpE.call {d : Option Nat} {f : FuncId} {xs : List Operand} {ats : Array TypeId} {ty : TypeId} {pos : String} {af : Array Edge} {g : Option (Nat × Bool)} {vs : List Value}
    (hf : Enters P f) (hx : evKs L xs = some vs) (h : CallsV P f vs w K) : OpE P n L w ⟨d, .call ⟨.value (.func f), xs.toArray, ats⟩, ty, pos, af, g⟩ K := fun a ha next Q hk => by
  have he := ha.evals hx
  have hrun : (execOp a.eval ⟨d, .call ⟨.value (.func f), xs.toArray, ats⟩, ty, pos, af, g⟩).run P w = .ok (.enter f vs.toArray) w := by
    have hm : xs.toArray.map a.eval = vs.toArray := by simp [he]
    have := hf vs.toArray w
    simp only [execOp, resolve, hm, Act.eval, Deferred.ofValue, bind, Sem.bind, pure, invoke]
    simpa [Sem.run] using this
  simp only [Oper.wp, hrun, Oper.upon]
  refine Calls.mono h fun e w' ⟨v, he', hv⟩ => ?_
  subst he'
  exact hk v w' hv
theorem OpE.callv {d : Option Nat} {t : Nat} {f : FuncId} {cap : Array Value} {xs : List Operand} {ats : Array TypeId} {ty : TypeId} {pos : String} {af : Array Edge} {g : Option (Nat × Bool)} {vs : List Value}
    (hf : Enters P f) (ht : look L t = some (.func (.func f) #[] cap)) (hx : evKs L xs = some vs) (h : CallsV P f (vs ++ cap.toList) w K) : OpE P n L w ⟨d, .call ⟨.value (.tmp t), xs.toArray, ats⟩, ty, pos, af, g⟩ K := fun a ha next Q hk => by
  have he := ha.evals hx
  have hv : a.eval (.tmp t) = .func (.func f) #[] cap := ha.eval ht
  have hrun : (execOp a.eval ⟨d, .call ⟨.value (.tmp t), xs.toArray, ats⟩, ty, pos, af, g⟩).run P w = .ok (.enter f (vs ++ cap.toList).toArray) w := by
    have hm : xs.toArray.map a.eval = vs.toArray := by simp [he]
    have := hf (vs ++ cap.toList).toArray w
    have hc : #[] ++ vs.toArray ++ cap = (vs ++ cap.toList).toArray := by simp
    simp only [execOp, resolve, hm, hv, Deferred.ofValue, bind, Sem.bind, pure, invoke, hc]
    simpa only [Sem.run] using this
  simp only [Oper.wp, hrun, Oper.upon]
  refine Calls.mono h fun e w' ⟨v, he', hv⟩ => ?_
  subst he'
  exact hk v w' hv
end
def PostK (P : Program) (n : Nat) (fn : Func) (Φ : Value → World → Prop) (L : Know) (w : World) : Prop := ∀ a, Fits n L a → ∃ v, (results fn a.tmps).run P w = .ok v w ∧ Φ v w
def initK : List Value → Nat → Know
  | [], _ => []
  | v :: r, i => (i, v) :: initK r (i + 1)
theorem look_initK : ∀ (l : List Value) (i t : Nat) (v : Value), look (initK l i) t = some v → i ≤ t ∧ l[t - i]? = some v
  | [], i, t, v, h => by simp [initK, look] at h
  | x :: r, i, t, v, h => by
    simp only [initK] at h
    rw [look_cons] at h
    by_cases e : i = t
    · subst e; simp at h; subst h; exact ⟨Nat.le_refl _, by simp⟩
    · simp only [e, if_false] at h
      obtain ⟨h1, h2⟩ := look_initK r (i + 1) t v h
      refine ⟨by omega, ?_⟩
      have : t - i = (t - (i + 1)) + 1 := by omega
      rw [this]; simpa using h2
theorem callsV_of {P : Program} {f : FuncId} {fn : Func} {c : Code} {args : List Value} {w : World} {Φ : Value → World → Prop} (hf : P.funcs[f]? = some fn) (hb : fn.body = some c)
    (hn : Nat.ble args.length fn.ntmps = true) (h : CW P fn.ntmps c ⟨PostK P fn.ntmps fn Φ, PostK P fn.ntmps fn Φ, [], []⟩ (initK args 0) w) : CallsV P f args w Φ := by
  refine calls_of_wp hf hb (wp_mono (h _ ⟨?_, ?_, rfl⟩) ?_)
  · have := Nat.le_of_ble_eq_true hn; simp; omega
  · intro t v hv
    obtain ⟨_, h2⟩ := look_initK args 0 t v hv
    simp only [Nat.sub_zero] at h2
    rw [Array.getElem?_append]
    have hlt : t < args.length := by
      rcases Nat.lt_or_ge t args.length with h | h
      · exact h
      · simp [List.getElem?_eq_none h] at h2
    simp [hlt] at h2 ⊢
    exact h2
  · intro e a' w' q
    cases e with
    | normal => obtain ⟨L', hL, hp⟩ := q; obtain ⟨v, hv, hΦ⟩ := hp a' hL; exact ⟨hL.defers, v, hv, v, rfl, hΦ⟩
    | ret => obtain ⟨L', hL, hp⟩ := q; obtain ⟨v, hv, hΦ⟩ := hp a' hL; exact ⟨hL.defers, v, hv, v, rfl, hΦ⟩
    | exit id => obtain ⟨L', hL, hp⟩ := q; exact hp
    | goto l => obtain ⟨L', hL, hp⟩ := q; exact hp
    | panic c => exact q.elim
    | outgrown => exact q.elim
section
variable {P : Program} {n : Nat} {fn : Func} {Φ : Value → World → Prop} {L : Know} {w : World}
theorem post0 (hr : fn.results = #[]) (h : Φ (.tuple #[]) w) : PostK P n fn Φ L w := fun _ _ => ⟨_, results_none hr _ _ _, h⟩
theorem post1 {t : Nat} {v : Value} (hr : fn.results = #[.tmp t]) (hv : look L t = some v) (h : Φ v w) : PostK P n fn Φ L w := fun a ha =>
  ⟨_, results_tmp hr _ _ _, by have := ha.slot t v hv; simpa [Array.getD_eq_getD_getElem?, this] using h⟩
theorem post2 {t u : Nat} {v x : Value} (hr : fn.results = #[.tmp t, .tmp u]) (hv : look L t = some v) (hx : look L u = some x) (h : Φ (.tuple #[v, x]) w) : PostK P n fn Φ L w := fun a ha =>
  ⟨_, results_tmp2 hr _ _ _, by have h1 := ha.slot t v hv; have h2 := ha.slot u x hx; simpa [Array.getD_eq_getD_getElem?, h1, h2] using h⟩
theorem post3 {t u s : Nat} {v x y : Value} (hr : fn.results = #[.tmp t, .tmp u, .tmp s]) (hv : look L t = some v) (hx : look L u = some x) (hy : look L s = some y) (h : Φ (.tuple #[v, x, y]) w) : PostK P n fn Φ L w := fun a ha =>
  ⟨_, results_tmp3 hr _ _ _, by have h1 := ha.slot t v hv; have h2 := ha.slot u x hx; have h3 := ha.slot s y hy; simpa [Array.getD_eq_getD_getElem?, h1, h2, h3] using h⟩
end
end Go.Kw
namespace Go.Kw
open Go.RowKit
section
variable {P : Program} {n : Nat} {L : Know} {w : World} {d : Option Nat} {ty : TypeId} {pos : String} {af : Array Edge} {g : Option (Nat × Bool)}
theorem Ev.of {o : Oper} {v : Value} (h : ∀ ρ : Operand → Value, (∀ {x u}, evK L x = some u → ρ x = u) → (execOp ρ o).run P w = .ok (.value v) w) : Ev P n L w o v := fun a ha => h a.eval fun hx => ha.eval hx
theorem Ev.move {x : Operand} {v : Value} (hx : evK L x = some v) : Ev P n L w ⟨d, .move x, ty, pos, af, g⟩ v := .of fun ρ hρ => by
  simp [execOp, hρ hx, go_sem]
theorem Ev.assign {x : Operand} {v : Value} (hx : evK L x = some v) : Ev P n L w ⟨d, .assign x, ty, pos, af, g⟩ v := .of fun ρ hρ => by
  simp [execOp, hρ hx, go_sem]
theorem RT.m {ops r : List Oper} {K : Know → World → Prop} {x : Operand} {v : Value} (hg : plainB n ⟨d, .move x, ty, pos, af, g⟩ = true) (hx : evK L x = some v) (h : RT P n ops r K (putK d v L) w) : RT P n ops (⟨d, .move x, ty, pos, af, g⟩ :: r) K L w := RT.e hg (Ev.move hx) h
theorem RT.s {ops r : List Oper} {K : Know → World → Prop} {x : Operand} {v : Value} (hg : plainB n ⟨d, .assign x, ty, pos, af, g⟩ = true) (hx : evK L x = some v) (h : RT P n ops r K (putK d v L) w) : RT P n ops (⟨d, .assign x, ty, pos, af, g⟩ :: r) K L w := RT.e hg (Ev.assign hx) h
theorem RP.m {ops : List Oper} {SS : List (World → Prop)} {S : World → Prop} {p : Plan} {K : Know → World → Prop} {i : Nat} {x : Operand} {v : Value} (ho : plainAt n ops i = some ⟨d, .move x, ty, pos, af, g⟩) (hx : evK L x = some v) (hS : S w)
    (h : RP P n ops (S :: SS) p K (putK d v L) w) : RP P n ops (S :: SS) (.free i p) K L w := RP.e ho (fun _ _ => Ev.move hx) hS h
theorem Ev.pickT {c x y : Operand} {v : Value} (hc : evK L c = some (.bool true)) (hx : evK L x = some v) : Ev P n L w ⟨d, .pick c x y, ty, pos, af, g⟩ v := .of fun ρ hρ => by
  simp [execOp, hρ hx, hρ hc, go_sem]
theorem Ev.pickF {c x y : Operand} {v : Value} (hc : evK L c = some (.bool false)) (hy : evK L y = some v) : Ev P n L w ⟨d, .pick c x y, ty, pos, af, g⟩ v := .of fun ρ hρ => by
  simp [execOp, hρ hy, hρ hc, go_sem]
theorem Ev.pickY {c x y : Operand} {v : Value} {b : Bool} (hc : evK L c = some (.bool b)) (hb : b = true) (hx : evK L x = some v) : Ev P n L w ⟨d, .pick c x y, ty, pos, af, g⟩ v := Ev.pickT (hb ▸ hc) hx
theorem Ev.pickN {c x y : Operand} {v : Value} {b : Bool} (hc : evK L c = some (.bool b)) (hb : b = false) (hy : evK L y = some v) : Ev P n L w ⟨d, .pick c x y, ty, pos, af, g⟩ v := Ev.pickF (hb ▸ hc) hy
theorem Ev.nilCheck {x : Operand} {p : Addr} (hx : evK L x = some (.pointer (some p))) : Ev P n L w ⟨d, .nilCheck x, ty, pos, af, g⟩ (.pointer (some p)) := .of fun ρ hρ => by
  simp [execOp, hρ hx, go_sem]
theorem Ev.extract {x : Operand} {i : Nat} {vs : Array Value} {v : Value} (hx : evK L x = some (.tuple vs)) (hv : vs[i]? = some v) : Ev P n L w ⟨d, .extract x i, ty, pos, af, g⟩ v := .of fun ρ hρ => by
  simp [execOp, hρ hx, Instr.extract, hv, go_sem]
def inI64 (z : Int) : Prop := -9223372036854775808 ≤ z ∧ z ≤ 9223372036854775807
theorem wrap_i64 {z : Int} (h : inI64 z) : IntKind.i64.wrap z = z := IntWalk.i64_in _ h
section ints
variable {x y : Operand} {k : IntKind} {a b : Int} {xt yt : TypeId}
theorem Ev.bin {op : BinOp} {u v r : Value} (hx : evK L x = some u) (hy : evK L y = some v) (hg : eqGuard op xt x y u v = pure ()) (hr : ∀ w : World, (binOp op xt u v).run P w = .ok r w) :
    Ev P n L w ⟨d, .binOp op xt x y yt, ty, pos, af, g⟩ r := .of fun ρ hρ => by
  simp only [execOp, hρ hx, hρ hy, hg]
  simp [go_sem, hr]
theorem Ev.add (hx : evK L x = some (.int .i64 a)) (hy : evK L y = some (.int .i64 b)) (h : inI64 (a + b)) : Ev P n L w ⟨d, .binOp .add xt x y yt, ty, pos, af, g⟩ (.int .i64 (a + b)) :=
  .bin hx hy (eqGuard_at_int ..) fun w => by simp [go_sem, Op.intArith, wrap_i64 h]
theorem Ev.sub (hx : evK L x = some (.int .i64 a)) (hy : evK L y = some (.int .i64 b)) (h : inI64 (a - b)) : Ev P n L w ⟨d, .binOp .sub xt x y yt, ty, pos, af, g⟩ (.int .i64 (a - b)) :=
  .bin hx hy (eqGuard_at_int ..) fun w => by simp [go_sem, Op.intArith, wrap_i64 h]
theorem Ev.mul (hx : evK L x = some (.int .i64 a)) (hy : evK L y = some (.int .i64 b)) (h : inI64 (a * b)) : Ev P n L w ⟨d, .binOp .mul xt x y yt, ty, pos, af, g⟩ (.int .i64 (a * b)) :=
  .bin hx hy (eqGuard_at_int ..) fun w => by simp [go_sem, Op.intArith, wrap_i64 h]
theorem Ev.subW (hx : evK L x = some (.int k a)) (hy : evK L y = some (.int k b)) : Ev P n L w ⟨d, .binOp .sub xt x y yt, ty, pos, af, g⟩ (.int k (k.wrap (a - b))) :=
  .bin hx hy (eqGuard_at_int ..) fun w => by simp [go_sem, Op.intArith]
theorem Ev.lss (hx : evK L x = some (.int k a)) (hy : evK L y = some (.int k b)) : Ev P n L w ⟨d, .binOp .lss xt x y yt, ty, pos, af, g⟩ (.bool (decide (a < b))) :=
  .bin hx hy (eqGuard_at_int ..) fun w => by simp [go_sem]
theorem Ev.leq (hx : evK L x = some (.int k a)) (hy : evK L y = some (.int k b)) : Ev P n L w ⟨d, .binOp .leq xt x y yt, ty, pos, af, g⟩ (.bool (decide (a ≤ b))) :=
  .bin hx hy (eqGuard_at_int ..) fun w => by simp [go_sem]
theorem Ev.gtr (hx : evK L x = some (.int k a)) (hy : evK L y = some (.int k b)) : Ev P n L w ⟨d, .binOp .gtr xt x y yt, ty, pos, af, g⟩ (.bool (decide (b < a))) :=
  .bin hx hy (eqGuard_at_int ..) fun w => by simp [go_sem]
theorem Ev.geq (hx : evK L x = some (.int k a)) (hy : evK L y = some (.int k b)) : Ev P n L w ⟨d, .binOp .geq xt x y yt, ty, pos, af, g⟩ (.bool (decide (b ≤ a))) :=
  .bin hx hy (eqGuard_at_int ..) fun w => by simp [go_sem]
theorem Ev.eql (hx : evK L x = some (.int k a)) (hy : evK L y = some (.int k b)) : Ev P n L w ⟨d, .binOp .eql xt x y yt, ty, pos, af, g⟩ (.bool (decide (a = b))) :=
  .bin hx hy (eqGuard_at_int ..) fun w => by simp [go_sem]; rfl
theorem Ev.neq (hx : evK L x = some (.int k a)) (hy : evK L y = some (.int k b)) : Ev P n L w ⟨d, .binOp .neq xt x y yt, ty, pos, af, g⟩ (.bool (decide (a ≠ b))) :=
  .bin hx hy (eqGuard_at_int ..) fun w => by simp [go_sem]; rfl
theorem Ev.quo {a b : Nat} (hx : evK L x = some (.int .i64 (a : Int))) (hy : evK L y = some (.int .i64 (b : Int))) (hb : 0 < b) (h : inI64 a) : Ev P n L w ⟨d, .binOp .quo xt x y yt, ty, pos, af, g⟩ (.int .i64 ((a / b : Nat) : Int)) :=
  .bin hx hy (eqGuard_at_int ..) fun w => by
    have h0 : (b : Int) ≠ 0 := by omega
    have h1 : ((a : Int).tdiv (b : Int)) = ((a / b : Nat) : Int) := by rw [Int.tdiv_eq_ediv_of_nonneg (by omega)]; simp
    have h2 : IntKind.i64.wrap ((a / b : Nat) : Int) = ((a / b : Nat) : Int) := by
      have h3 := Nat.div_le_self a b
      have h4 := h.2
      generalize a / b = q at *
      exact wrap_i64 ⟨by omega, by omega⟩
    simp only [binOp, Op.intDiv, h0, if_false, h1, h2, go_sem]
    simp [go_sem]
theorem Ev.rem {a b : Nat} (hx : evK L x = some (.int k (a : Int))) (hy : evK L y = some (.int k (b : Int))) (hb : 0 < b) : Ev P n L w ⟨d, .binOp .rem xt x y yt, ty, pos, af, g⟩ (.int k ((a % b : Nat) : Int)) :=
  .bin hx hy (eqGuard_at_int ..) fun w => by
    have h0 : (b : Int) ≠ 0 := by omega
    have h1 : ((a : Int).tmod (b : Int)) = ((a % b : Nat) : Int) := by rw [Int.tmod_eq_emod_of_nonneg (by omega)]; simp
    simp only [binOp, Op.intDiv, h0, if_false, h1, go_sem]
    simp [go_sem]
end ints
end
theorem wrap_u {k : IntKind} (hk : k.signed = false) {a : Nat} (h : a < 2 ^ k.bits) : k.wrap (a : Int) = a := by
  have h2 : ((a : Int)) < ((2 ^ k.bits : Nat) : Int) := by omega
  simp only [IntKind.wrap, hk, Bool.false_and, Bool.false_eq_true, if_false]
  have : ((2 : Int) ^ k.bits) = ((2 ^ k.bits : Nat) : Int) := by norm_cast
  rw [this, ← Int.natCast_emod, Nat.mod_eq_of_lt h]
theorem xor_nat {P : Program} {k : IntKind} (hk : k.signed = false) {a b : Nat} (ha : a < 2 ^ k.bits) (hb : b < 2 ^ k.bits) (w : World) : (Op.intBits .xor k a b).run P w = .ok (.int k ((a ^^^ b : Nat) : Int)) w := by
  have := wrap_u hk (Nat.xor_lt_two_pow ha hb)
  simp only [Op.intBits, BitVec.ofInt_natCast, BitVec.toNat_xor, BitVec.toNat_ofNat, Nat.mod_eq_of_lt ha, Nat.mod_eq_of_lt hb, this]
  rfl
theorem and_nat {P : Program} {k : IntKind} (hk : k.signed = false) {a b : Nat} (ha : a < 2 ^ k.bits) (hb : b < 2 ^ k.bits) (w : World) : (Op.intBits .and k a b).run P w = .ok (.int k ((a &&& b : Nat) : Int)) w := by
  have := wrap_u hk (Nat.and_lt_two_pow a hb)
  simp only [Op.intBits, BitVec.ofInt_natCast, BitVec.toNat_and, BitVec.toNat_ofNat, Nat.mod_eq_of_lt ha, Nat.mod_eq_of_lt hb, this]
  rfl
theorem wrap_i {a : Nat} (h : a < 2 ^ 63) : IntKind.i64.wrap (a : Int) = a := IntWalk.i64_in _ ⟨by omega, by omega⟩
theorem shr_nat {P : Program} {k yk : IntKind} {a b : Nat} (ha : a < 2 ^ k.bits) (w : World) : (Op.shift .shr k a yk b).run P w = .ok (.int k ((a / 2 ^ b : Nat) : Int)) w := by
  have h1 : ((a : Int).fdiv (2 ^ (min b k.bits))) = ((a / 2 ^ b : Nat) : Int) := by
    have e : ((2 : Int) ^ (min b k.bits)) = ((2 ^ (min b k.bits) : Nat) : Int) := by norm_cast
    rw [e, Int.fdiv_eq_ediv_of_nonneg _ (Int.natCast_nonneg _), ← Int.natCast_ediv]
    congr 1
    rcases Nat.le_total b k.bits with h | h
    · rw [Nat.min_eq_left h]
    · rw [Nat.min_eq_right h, Nat.div_eq_of_lt ha, Nat.div_eq_of_lt (Nat.lt_of_lt_of_le ha (Nat.pow_le_pow_right (by decide) h))]
  have h0 : ¬ ((b : Int) < 0) := by omega
  simp only [Op.shift, h0, if_false, Int.toNat_natCast, h1]
  rfl
theorem wrap_unat {k : IntKind} (hk : k.signed = false) (a : Nat) : k.wrap (a : Int) = ((a % 2 ^ k.bits : Nat) : Int) := by
  simp only [IntKind.wrap, hk, Bool.false_and, Bool.false_eq_true, if_false]
  have : ((2 : Int) ^ k.bits) = ((2 ^ k.bits : Nat) : Int) := by norm_cast
  rw [this, ← Int.natCast_emod]
section
variable {P : Program} {n : Nat} {L : Know} {w : World} {d : Option Nat} {ty : TypeId} {pos : String} {af : Array Edge} {g : Option (Nat × Bool)} {x y : Operand} {k : IntKind} {xt yt : TypeId}
theorem Ev.andN {a b : Nat} (hx : evK L x = some (.int k (a : Int))) (hy : evK L y = some (.int k (b : Int))) (hk : k.signed = false) (ha : a < 2 ^ k.bits) (hb : b < 2 ^ k.bits) : Ev P n L w ⟨d, .binOp .and xt x y yt, ty, pos, af, g⟩ (.int k ((a &&& b : Nat) : Int)) :=
  .bin hx hy (eqGuard_at_int ..) fun w => by rw [binOp_and]; exact and_nat hk ha hb w
theorem Ev.xorN {a b : Nat} (hx : evK L x = some (.int k (a : Int))) (hy : evK L y = some (.int k (b : Int))) (hk : k.signed = false) (ha : a < 2 ^ k.bits) (hb : b < 2 ^ k.bits) : Ev P n L w ⟨d, .binOp .xor xt x y yt, ty, pos, af, g⟩ (.int k ((a ^^^ b : Nat) : Int)) :=
  .bin hx hy (eqGuard_at_int ..) fun w => by rw [binOp_xor]; exact xor_nat hk ha hb w
theorem Ev.shrN {k' : IntKind} {a b : Nat} (hx : evK L x = some (.int k (a : Int))) (hy : evK L y = some (.int k' (b : Int))) (ha : a < 2 ^ k.bits) : Ev P n L w ⟨d, .binOp .shr xt x y yt, ty, pos, af, g⟩ (.int k ((a / 2 ^ b : Nat) : Int)) :=
  .bin hx hy (eqGuard_at_int ..) fun w => by rw [binOp_shr]; exact shr_nat ha w
theorem Ev.notB {b : Bool} (hx : evK L x = some (.bool b)) : Ev P n L w ⟨d, .unOp .not xt x, ty, pos, af, g⟩ (.bool (!b)) := .of fun ρ hρ => by
  simp [execOp, hρ hx, Op.unary, go_sem]
theorem run_convI {s t : TypeId} {k' : IntKind} {a : Int} (hs : (P.underlying s).isSome = true) (ht : P.underlying t = some (.int k')) (w : World) : (convert s t (.int k a)).run P w = .ok (.int k' (k'.wrap a)) w := by
  obtain ⟨d, hd'⟩ := Option.isSome_iff_exists.mp hs
  simp [convert, run_underlying hd', run_underlying ht, Conv.intToInt]
theorem Ev.convK {s t : TypeId} {k' : IntKind} {a : Int} (hs : (P.underlying s).isSome = true) (ht : P.underlying t = some (.int k')) (hx : evK L x = some (.int k a)) (ha : k'.wrap a = a) : Ev P n L w ⟨d, .convert s t x, ty, pos, af, g⟩ (.int k' a) := .of fun ρ hρ => by
  simp only [execOp, hρ hx, Sem.run_bind, run_convI hs ht, ha, Result.andThen_ok, Sem.run_pure]
theorem Ev.convN {s t : TypeId} {k' : IntKind} {a : Nat} (hs : (P.underlying s).isSome = true) (ht : P.underlying t = some (.int k')) (hx : evK L x = some (.int k (a : Int))) (hk : k'.signed = false) : Ev P n L w ⟨d, .convert s t x, ty, pos, af, g⟩ (.int k' ((a % 2 ^ k'.bits : Nat) : Int)) := .of fun ρ hρ => by
  simp only [execOp, hρ hx, Sem.run_bind, run_convI hs ht, wrap_unat hk, Result.andThen_ok, Sem.run_pure]
theorem Ev.addI {a b : Nat} (hx : evK L x = some (.int .i64 (a : Int))) (hy : evK L y = some (.int .i64 (b : Int))) (h : a + b ≤ 9223372036854775807) : Ev P n L w ⟨d, .binOp .add xt x y yt, ty, pos, af, g⟩ (.int .i64 ((a + b : Nat) : Int)) := by
  have := Ev.add (P := P) (n := n) (w := w) (d := d) (xt := xt) (yt := yt) (ty := ty) (pos := pos) (af := af) (g := g) hx hy ⟨by omega, by omega⟩
  rwa [← Int.natCast_add] at this
theorem Ev.subI {a b : Nat} (hx : evK L x = some (.int .i64 (a : Int))) (hy : evK L y = some (.int .i64 (b : Int))) (hba : b ≤ a) (h : a ≤ 9223372036854775807) : Ev P n L w ⟨d, .binOp .sub xt x y yt, ty, pos, af, g⟩ (.int .i64 ((a - b : Nat) : Int)) := by
  have := Ev.sub (P := P) (n := n) (w := w) (d := d) (xt := xt) (yt := yt) (ty := ty) (pos := pos) (af := af) (g := g) hx hy ⟨by omega, by omega⟩
  rwa [← Int.natCast_sub hba] at this
theorem Ev.mulI {a b : Nat} (hx : evK L x = some (.int .i64 (a : Int))) (hy : evK L y = some (.int .i64 (b : Int))) (h : a * b ≤ 9223372036854775807) : Ev P n L w ⟨d, .binOp .mul xt x y yt, ty, pos, af, g⟩ (.int .i64 ((a * b : Nat) : Int)) := by
  have := Ev.mul (P := P) (n := n) (w := w) (d := d) (xt := xt) (yt := yt) (ty := ty) (pos := pos) (af := af) (g := g) hx hy (by rw [← Int.natCast_mul]; exact ⟨by omega, by omega⟩)
  rwa [← Int.natCast_mul] at this
theorem Ev.lssN {a b : Nat} (hx : evK L x = some (.int k (a : Int))) (hy : evK L y = some (.int k (b : Int))) : Ev P n L w ⟨d, .binOp .lss xt x y yt, ty, pos, af, g⟩ (.bool (decide (a < b))) := by
  have := Ev.lss (P := P) (n := n) (w := w) (d := d) (xt := xt) (yt := yt) (ty := ty) (pos := pos) (af := af) (g := g) hx hy
  simpa only [Int.ofNat_lt] using this
theorem Ev.leqN {a b : Nat} (hx : evK L x = some (.int k (a : Int))) (hy : evK L y = some (.int k (b : Int))) : Ev P n L w ⟨d, .binOp .leq xt x y yt, ty, pos, af, g⟩ (.bool (decide (a ≤ b))) := by
  have := Ev.leq (P := P) (n := n) (w := w) (d := d) (xt := xt) (yt := yt) (ty := ty) (pos := pos) (af := af) (g := g) hx hy
  simpa only [Int.ofNat_le] using this
theorem Ev.gtrN {a b : Nat} (hx : evK L x = some (.int k (a : Int))) (hy : evK L y = some (.int k (b : Int))) : Ev P n L w ⟨d, .binOp .gtr xt x y yt, ty, pos, af, g⟩ (.bool (decide (b < a))) := by
  have := Ev.gtr (P := P) (n := n) (w := w) (d := d) (xt := xt) (yt := yt) (ty := ty) (pos := pos) (af := af) (g := g) hx hy
  simpa only [Int.ofNat_lt] using this
theorem Ev.geqN {a b : Nat} (hx : evK L x = some (.int k (a : Int))) (hy : evK L y = some (.int k (b : Int))) : Ev P n L w ⟨d, .binOp .geq xt x y yt, ty, pos, af, g⟩ (.bool (decide (b ≤ a))) := by
  have := Ev.geq (P := P) (n := n) (w := w) (d := d) (xt := xt) (yt := yt) (ty := ty) (pos := pos) (af := af) (g := g) hx hy
  simpa only [Int.ofNat_le] using this
theorem Ev.eqlN {a b : Nat} (hx : evK L x = some (.int k (a : Int))) (hy : evK L y = some (.int k (b : Int))) : Ev P n L w ⟨d, .binOp .eql xt x y yt, ty, pos, af, g⟩ (.bool (decide (a = b))) := by
  have := Ev.eql (P := P) (n := n) (w := w) (d := d) (xt := xt) (yt := yt) (ty := ty) (pos := pos) (af := af) (g := g) hx hy
  simpa only [Int.ofNat_inj] using this
theorem Ev.neqN {a b : Nat} (hx : evK L x = some (.int k (a : Int))) (hy : evK L y = some (.int k (b : Int))) : Ev P n L w ⟨d, .binOp .neq xt x y yt, ty, pos, af, g⟩ (.bool (decide (a ≠ b))) := by
  have := Ev.neq (P := P) (n := n) (w := w) (d := d) (xt := xt) (yt := yt) (ty := ty) (pos := pos) (af := af) (g := g) hx hy
  simpa only [ne_eq, Int.ofNat_inj] using this
end
end Go.Kw
namespace Go.Kw
open Go.RowKit
def Rd (w : World) (v : Value) (n : Nat) (cells : List Value) : Prop :=
  ∃ a cap, v = .slice a n cap ∧ n ≤ cap ∧ ∀ j u, cells[j]? = some u → ∃ b o, a = some ⟨b, o, none⟩ ∧ w.cell? ⟨b, o + j, none⟩ = some u
def Ext (w w' : World) : Prop := ∀ a u, w.cell? a = some u → w'.cell? a = some u
theorem Ext.refl (w : World) : Ext w w := fun _ _ h => h
theorem Ext.trans {a b c : World} (h : Ext a b) (k : Ext b c) : Ext a c := fun p u hu => k p u (h p u hu)
theorem Ext.of_below {w w' : World} (h : Below w.heap.size w w') : Ext w w' := fun a _ hu => (h.cell (World.block_lt_of_cell? w a hu)).trans hu
theorem Rd.ext {w w' : World} {v : Value} {n : Nat} {cells : List Value} (h : Rd w v n cells) (he : Ext w w') : Rd w' v n cells := by
  obtain ⟨a, cap, hv, hn, hc⟩ := h
  exact ⟨a, cap, hv, hn, fun j u hu => let ⟨b, o, ha, hw⟩ := hc j u hu; ⟨b, o, ha, he _ _ hw⟩⟩
theorem Rd.nil (w : World) : Rd w (.slice none 0 0) 0 [] := ⟨none, 0, rfl, Nat.le_refl _, fun j u h => by simp at h⟩
def elPtr : Value → Nat → Value
  | .slice (some a) _ _, c => .pointer (some (a.add c))
  | _, _ => undef
def subSl (size : Nat) : Value → Nat → Nat → Value
  | .slice a _ cap, l, h => .slice (if cap = l then a else a.map (·.add (l * size))) (h - l) (cap - l)
  | _, _, _ => undef
theorem Rd.sub {w : World} {v : Value} {n : Nat} {cells : List Value} (hr : Rd w v n cells) {size l h : Nat} (hl : l ≤ h) (hh : h ≤ n) :
    Rd w (subSl size v l h) (h - l) ((cells.take (h * size)).drop (l * size)) := by
  obtain ⟨a, cap, rfl, hn, hc⟩ := hr
  refine ⟨_, _, rfl, by omega, fun j u hu => ?_⟩
  have hj : j < ((cells.take (h * size)).drop (l * size)).length := by
    rcases Nat.lt_or_ge j _ with hlt | hge
    · exact hlt
    · rw [List.getElem?_eq_none hge] at hu; cases hu
  have hlt : l < h := by
    rcases Nat.lt_or_ge l h with h1 | h1
    · exact h1
    · have : l = h := by omega
      subst this
      simp at hj
  rw [List.getElem?_drop, List.getElem?_take] at hu
  split at hu
  · obtain ⟨b, o, ha, hw⟩ := hc _ u hu
    subst ha
    rw [if_neg (by omega)]
    simp only [Option.map_some, Addr.add_lit]
    exact ⟨b, _, rfl, by rw [Nat.add_assoc]; exact hw⟩
  · cases hu
structure Chunk where
  foot : List Nat
  holds : World → Prop
  stable : ∀ w w', (∀ k ∈ foot, w'.heap[k]? = w.heap[k]?) → holds w → holds w'
structure Sat (w0 : World) (cs : List Chunk) (w : World) : Prop where
  old : Below w0.heap.size w0 w
  holds : ∀ c ∈ cs, c.holds w ∧ ∀ k ∈ c.foot, w0.heap.size ≤ k ∧ k < w.heap.size
  apart : cs.Pairwise fun c d => ∀ k ∈ c.foot, k ∉ d.foot
structure Chg (S : List Nat) (w w' : World) : Prop where
  os : w'.os = w.os
  tape : w'.tape = w.tape
  output : w'.output = w.output
  size : w.heap.size ≤ w'.heap.size
  block : ∀ k, k < w.heap.size → k ∉ S → w'.heap[k]? = w.heap[k]?
theorem Chg.of_below {w w' : World} (h : Below w.heap.size w w') : Chg [] w w' := ⟨h.os, h.tape, h.output, h.size, fun k hk _ => h.block k hk⟩
theorem Chg.alloc (w : World) (o : Obj) : Chg [] w (w.alloc o) := .of_below ((Below.refl _ _).alloc (Nat.le_refl _) o)
theorem Chg.drew (w : World) : Chg [] w w.drew := ⟨rfl, rfl, rfl, Nat.le_refl _, fun _ _ _ => rfl⟩
theorem Chg.trans {S T : List Nat} {a b c : World} (h : Chg S a b) (k : Chg T b c) : Chg (S ++ T) a c :=
  ⟨k.os.trans h.os, k.tape.trans h.tape, k.output.trans h.output, Nat.le_trans h.size k.size, fun i hi hn => by
    simp only [List.mem_append, not_or] at hn
    exact (k.block i (Nat.lt_of_lt_of_le hi h.size) hn.2).trans (h.block i hi hn.1)⟩
theorem Chg.setCell (w : World) (a : Addr) (v : Value) : Chg [a.block] w (w.setCell a v) :=
  ⟨rfl, rfl, rfl, by simp, fun k hk hn => Below.heap_setCell w a v k (by simpa using hn)⟩
theorem Sat.start (w : World) : Sat w [] w := ⟨Below.refl _ _, by simp, by simp⟩
theorem Sat.ext {w0 w : World} {cs : List Chunk} (h : Sat w0 cs w) : Ext w0 w := .of_below h.old
theorem Sat.drew {w0 w : World} {cs : List Chunk} (h : Sat w0 cs w) : Sat w0 cs w.drew :=
  ⟨h.old.drew, fun c hc => ⟨c.stable w _ (fun _ _ => rfl) (h.holds c hc).1, (h.holds c hc).2⟩, h.apart⟩
theorem CW.drawS {P : Program} {n : Nat} {N R : Know → World → Prop} {X G : List (Nat × (Know → World → Prop))} {L : Know} {w w0 w1 : World} {cs : List Chunk} {id : Nat} {l : List Oper} (_hs : Sat w0 cs w1) (p : Plan) (hm : P.follows .mixedOrders = true) (hok : p.good l = true)
    (h : RP P n l [fun w' => Sat w0 cs w'] p N L w.drew) : CW P n (.region id l.toArray true) ⟨N, R, X, G⟩ L w := CW.draw (fun w' => Sat w0 cs w') p hm hok h
theorem Sat.sub {w0 w : World} {cs ds : List Chunk} (h : Sat w0 cs w) (hp : ds.Sublist cs) : Sat w0 ds w :=
  ⟨h.old, fun c hc => h.holds c (hp.subset hc), h.apart.sublist hp⟩
theorem Sat.drop {w0 w : World} {cs : List Chunk} (h : Sat w0 cs w) (i : Nat) : Sat w0 (cs.eraseIdx i) w := h.sub (List.eraseIdx_sublist ..)
theorem Sat.get {w0 w : World} {cs : List Chunk} (h : Sat w0 cs w) {i : Nat} {c : Chunk} (hi : cs[i]? = some c) : c.holds w := (h.holds c (List.mem_of_getElem? hi)).1
theorem Sat.lo {w0 w : World} {cs : List Chunk} (h : Sat w0 cs w) {i : Nat} {c : Chunk} (hi : cs[i]? = some c) {k : Nat} (hk : k ∈ c.foot) : w0.heap.size ≤ k ∧ k < w.heap.size := (h.holds c (List.mem_of_getElem? hi)).2 k hk
theorem Sat.apartAt {w0 w : World} {cs : List Chunk} (h : Sat w0 cs w) {i j : Nat} {c d : Chunk} (hi : cs[i]? = some c) (hj : cs[j]? = some d) (hne : i ≠ j) {k : Nat} (hk : k ∈ c.foot) : k ∉ d.foot := by
  have hp := List.pairwise_iff_getElem.1 h.apart
  obtain ⟨hil, rfl⟩ := List.getElem?_eq_some_iff.1 hi
  obtain ⟨hjl, rfl⟩ := List.getElem?_eq_some_iff.1 hj
  rcases Nat.lt_or_gt_of_ne hne with hlt | hgt
  · exact hp i j hil hjl hlt k hk
  · exact fun hk2 => hp j i hjl hil hgt k hk2 hk
theorem Sat.set {w0 w w' : World} {cs : List Chunk} (h : Sat w0 cs w) (i : Nat) {c c' : Chunk} (hi : cs[i]? = some c) (hw : Chg c.foot w w') (hc : c'.holds w')
    (hf : ∀ k ∈ c'.foot, k ∈ c.foot ∨ (w.heap.size ≤ k ∧ k < w'.heap.size)) : Sat w0 (cs.set i c') w' := by
  obtain ⟨hil, hci⟩ := List.getElem?_eq_some_iff.1 hi
  have hlo : ∀ k ∈ c.foot, w0.heap.size ≤ k ∧ k < w.heap.size := fun k hk => h.lo hi hk
  refine ⟨?_, ?_, ?_⟩
  · refine h.old.trans ⟨hw.os, hw.tape, hw.output, hw.size, fun k hk => hw.block k (Nat.lt_of_lt_of_le hk h.old.size) fun hm => ?_⟩
    have := (hlo _ hm).1; omega
  · intro e he
    rw [List.mem_iff_getElem?] at he
    obtain ⟨j, hj⟩ := he
    rw [List.getElem?_set] at hj
    by_cases hij : i = j
    · subst hij
      simp [hil] at hj
      subst hj
      refine ⟨hc, fun k hk => ?_⟩
      have := hw.size
      have := h.old.size
      rcases hf k hk with h1 | h1
      · have := hlo _ h1; omega
      · omega
    · rw [if_neg hij] at hj
      have hm := List.mem_of_getElem? hj
      obtain ⟨h1, h2⟩ := h.holds e hm
      refine ⟨e.stable w w' (fun k hk => hw.block k (h2 k hk).2 (h.apartAt hj hi (Ne.symm hij) hk)) h1, fun k hk => ?_⟩
      have := h2 k hk; have := hw.size; omega
  · rw [List.pairwise_iff_getElem]
    intro a b ha hb hab k hk hk2
    simp only [List.length_set] at ha hb
    rw [List.getElem_set] at hk hk2
    have hnew : ∀ j (hj : j < cs.length), j ≠ i → ∀ k, k ∈ c'.foot → k ∉ cs[j].foot := fun j hj hne k hk hk2 => by
      rcases hf k hk with h1 | h1
      · exact h.apartAt hi (List.getElem?_eq_getElem hj) (Ne.symm hne) h1 hk2
      · have := h.lo (List.getElem?_eq_getElem hj) hk2; omega
    split at hk <;> split at hk2
    · omega
    · exact hnew b hb (by omega) k hk hk2
    · exact hnew a ha (by omega) k hk2 hk
    · exact h.apartAt (List.getElem?_eq_getElem ha) (List.getElem?_eq_getElem hb) (by omega) hk hk2
theorem Sat.adds {w0 w w' : World} {cs ds : List Chunk} (h : Sat w0 cs w) (k : Sat w ds w') : Sat w0 (cs ++ ds) w' := by
  refine ⟨h.old.trans (k.old.mono h.old.size), ?_, ?_⟩
  · intro c hc
    rcases List.mem_append.1 hc with hc | hc
    · obtain ⟨h1, h2⟩ := h.holds c hc
      refine ⟨c.stable w w' (fun j hj => k.old.block j (h2 j hj).2) h1, fun j hj => ?_⟩
      have := h2 j hj; have := k.old.size; omega
    · obtain ⟨h1, h2⟩ := k.holds c hc
      refine ⟨h1, fun j hj => ?_⟩
      have := h2 j hj; have := h.old.size; omega
  · rw [List.pairwise_append]
    refine ⟨h.apart, k.apart, fun c hc d hd j hj hj2 => ?_⟩
    have := (h.holds c hc).2 j hj
    have := (k.holds d hd).2 j hj2
    omega
theorem Sat.add {w0 w w' : World} {cs : List Chunk} {c : Chunk} (h : Sat w0 cs w) (hw : Chg [] w w') (hc : c.holds w') (hf : ∀ k ∈ c.foot, w.heap.size ≤ k ∧ k < w'.heap.size) : Sat w0 (cs ++ [c]) w' :=
  h.adds ⟨⟨hw.os, hw.tape, hw.output, hw.size, fun k hk => hw.block k hk (by simp)⟩, by simpa using ⟨hc, hf⟩, by simp⟩
theorem Sat.step {w0 w w' : World} {cs : List Chunk} (h : Sat w0 cs w) (hw : Chg [] w w') : Sat w0 cs w' := by
  have := h.adds (ds := []) ⟨⟨hw.os, hw.tape, hw.output, hw.size, fun k hk => hw.block k hk (by simp)⟩, by simp, by simp⟩
  simpa using this
theorem Sat.perm {w0 w : World} {cs ds : List Chunk} (h : Sat w0 cs w) (hp : cs.Perm ds) : Sat w0 ds w :=
  ⟨h.old, fun c hc => h.holds c (hp.mem_iff.2 hc), hp.pairwise h.apart (fun {_ _} h k hk h2 => h k h2 hk)⟩
theorem Sat.mid {w0 w : World} {A cs ds : List Chunk} (h : Sat w0 ((A ++ cs) ++ ds) w) : Sat w0 ((A ++ ds) ++ cs) w :=
  h.perm (by rw [List.append_assoc, List.append_assoc]; exact (List.perm_append_comm).append_left A)
def noChunk : Chunk := ⟨[], fun _ => True, fun _ _ _ h => h⟩
theorem map_getD_range {α : Type} (l : List α) (d : α) : (List.range l.length).map (fun i => l.getD i d) = l := by
  apply List.ext_getElem
  · simp
  · intro i h1 h2; simp at h1; simp [h1]
theorem Sat.order {w0 w : World} {A cs : List Chunk} (idx : List Nat) (hp : idx.isPerm (List.range idx.length) = true) (h : Sat w0 (A ++ cs) w) (hl : A.length = idx.length := by rfl) : Sat w0 (idx.map (fun i => A.getD i noChunk) ++ cs) w := by
  rw [← hl] at hp
  refine h.perm (List.Perm.append_right cs ?_)
  have := (List.isPerm_iff.1 hp).map (fun i => A.getD i noChunk)
  rw [map_getD_range] at this
  exact this.symm
theorem Sat.tail {w0 w : World} {A : List Chunk} (h : Sat w0 A w) : Sat w0 (A ++ []) w := by rw [List.append_nil]; exact h
theorem Sat.untail {w0 w : World} {A : List Chunk} (h : Sat w0 (A ++ []) w) : Sat w0 A w := by rw [List.append_nil] at h; exact h
theorem Sat.cut {w0 w : World} {A cs : List Chunk} (k : Nat) (h : Sat w0 (A ++ cs) w) : Sat w0 (A.take k ++ (A.drop k ++ cs)) w := by rw [← List.append_assoc, List.take_append_drop]; exact h
theorem Sat.join {w0 w : World} {A B cs : List Chunk} (h : Sat w0 (A ++ (B ++ cs)) w) : Sat w0 ((A ++ B) ++ cs) w := by rw [List.append_assoc]; exact h
def cObj (g : Nat) (T : TypeId) (cells : List Value) : Chunk where
  foot := [g]
  holds w := w.heap[g]? = some (.cells cells.toArray T (0, 0))
  stable w w' h hc := by rw [h g (by simp)]; exact hc
theorem cell_of_heap {w : World} {g : Nat} {T : TypeId} {cells : Array Value} {fr : Nat × Nat} (h : w.heap[g]? = some (.cells cells T fr)) (j : Nat) : w.cell? ⟨g, j, none⟩ = cells[j]? := by
  simp [World.cell?, h]
theorem frozen_of_heap {w : World} {g : Nat} {T : TypeId} {cells : Array Value} (h : w.heap[g]? = some (.cells cells T (0, 0))) (j : Nat) : w.frozen? ⟨g, j, none⟩ = false := by
  simp [World.frozen?, h]
theorem Sat.cell {w0 w : World} {cs : List Chunk} (h : Sat w0 cs w) {i g T j : Nat} {cells : List Value} {u : Value} (hi : cs[i]? = some (cObj g T cells)) (hu : cells[j]? = some u) : w.cell? ⟨g, j, none⟩ = some u := by
  have := h.get hi
  rw [cell_of_heap this]; simpa using hu
theorem heap_setCell {w : World} {g j : Nat} {T : TypeId} {cells : Array Value} {fr : Nat × Nat} {u : Value} (h : w.heap[g]? = some (.cells cells T fr)) : (w.setCell ⟨g, j, none⟩ u).heap[g]? = some (.cells (cells.setIfInBounds j u) T fr) := by
  simp [World.setCell, Array.getElem?_modify, h]
def slFoot : Value → List Nat
  | .slice (some a) _ _ => [a.block]
  | _ => []
def cSl (v : Value) (E size n : Nat) (cells : List Value) : Chunk where
  foot := slFoot v
  holds w := w.ownsRow 0 E size v n cells
  stable w w' h hc := by
    refine ⟨hc.1, ?_⟩
    rcases hc.2 with h2 | ⟨g, cap, cur, rfl, hg, hh, r⟩
    · exact .inl h2
    · exact .inr ⟨g, cap, cur, rfl, hg, by rw [h g (by simp [slFoot])]; exact hh, r⟩
theorem Rd.of_own {w : World} {base E size n : Nat} {v : Value} {cells : List Value} (h : w.ownsRow base E size v n cells) : Rd w v n cells := by
  obtain ⟨hl, ⟨rfl, rfl⟩ | ⟨g, cap, cur, rfl, _, hh, hnc, _, hcs, ht⟩⟩ := h
  · have : cells = [] := List.eq_nil_of_length_eq_zero (by simpa using hl)
    subst this
    exact Rd.nil w
  · refine ⟨_, _, rfl, hnc, fun j u hu => ⟨g, 0, rfl, ?_⟩⟩
    rw [Nat.zero_add, cell_of_heap hh]
    rw [← ht, List.getElem?_take] at hu
    split at hu
    · simpa using hu
    · cases hu
theorem Sat.rd {w0 w : World} {cs : List Chunk} (h : Sat w0 cs w) {i E size n : Nat} {v : Value} {cells : List Value} (hi : cs[i]? = some (cSl v E size n cells)) : Rd w v n cells := .of_own (h.get hi)
theorem Sat.len {w0 w : World} {cs : List Chunk} (h : Sat w0 cs w) {i E size n : Nat} {v : Value} {cells : List Value} (hi : cs[i]? = some (cSl v E size n cells)) : cells.length = n * size := (h.get hi).1
theorem Sat.newNil {w0 w : World} {cs : List Chunk} (h : Sat w0 cs w) (E size : Nat) : Sat w0 (cs ++ [cSl (.slice none 0 0) E size 0 []]) w :=
  h.add ⟨rfl, rfl, rfl, Nat.le_refl _, fun _ _ _ => rfl⟩ (World.ownsRow_nil ..) (by simp [cSl, slFoot])
theorem Sat.newObj {w0 w : World} {cs : List Chunk} (h : Sat w0 cs w) (T : TypeId) (cells : List Value) : Sat w0 (cs ++ [cObj w.heap.size T cells]) (w.alloc (.cells cells.toArray T)) :=
  h.add (.alloc _ _) (heap_alloc_new w _) (by simp [cObj])
theorem Sat.newSl {w0 w : World} {cs : List Chunk} (h : Sat w0 cs w) (E size n cap : Nat) (cur : List Value) (hc : cap ≤ maxLen) (hn : n ≤ cap) (hl : cur.length = cap * size) :
    Sat w0 (cs ++ [cSl (.slice (some ⟨w.heap.size, 0, none⟩) n cap) E size n (cur.take (n * size))]) (w.alloc (.cells cur.toArray E)) :=
  h.add (.alloc _ _) ⟨by rw [List.length_take, hl, Nat.min_eq_left (Nat.mul_le_mul_right _ hn)], .inr ⟨_, cap, _, rfl, Nat.zero_le _, heap_alloc_new w _, hn, hc, by simpa using hl, by simp⟩⟩ (by simp [cSl, slFoot])
theorem Sat.setObj {w0 w : World} {cs : List Chunk} (h : Sat w0 cs w) {i g T j : Nat} {cells : List Value} {u : Value} (hi : cs[i]? = some (cObj g T cells)) : Sat w0 (cs.set i (cObj g T (cells.set j u))) (w.setCell ⟨g, j, none⟩ u) :=
  h.set i hi (Chg.setCell w ⟨g, j, none⟩ u) (by have := heap_setCell (j := j) (u := u) (h.get hi); simpa [cObj] using this) (fun _ hk => .inl hk)
theorem Sat.setSl {w0 w : World} {cs : List Chunk} (h : Sat w0 cs w) {i g E size n cap j : Nat} {cells : List Value} {u : Value} (hi : cs[i]? = some (cSl (.slice (some ⟨g, 0, none⟩) n cap) E size n cells)) :
    Sat w0 (cs.set i (cSl (.slice (some ⟨g, 0, none⟩) n cap) E size n (cells.set j u))) (w.setCell ⟨g, j, none⟩ u) :=
  h.set i hi (Chg.setCell w ⟨g, j, none⟩ u) ((h.get hi).stored j u).1 (fun _ hk => .inl hk)
end Go.Kw
