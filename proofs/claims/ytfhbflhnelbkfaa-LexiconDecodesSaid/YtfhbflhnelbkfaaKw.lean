/-
  KW: A SMALL PROGRAM LOGIC OVER THE KIT'S RULES. A frame is a list of known slots, a region is walked operation by operation (in the text's order, or along a plan where the order is drawn).
  Our own text; it names no program.
-/
import Derived.WalkKit
import Derived.WalkLawsBesides
import Derived.WalkSpells
import Derived.OrdersHeld
import Derived.Deep.AppendSrc
import Derived.Deep.LoopGhost
import Derived.Laws.CopyOwn
set_option linter.unusedSimpArgs false
set_option linter.unusedVariables false
set_option linter.unusedSectionVars false
namespace Go.Kw
open Go.RowKit

/-! ## What is known of a frame -/
abbrev Know := List (Nat × Value)

def look : Know → Nat → Option Value
  | [], _ => none
  | (t, v) :: r, u => cond (Nat.beq t u) (some v) (look r u)

def evK (L : Know) : Operand → Option Value
  | .tmp t => look L t
  | .const v => some v
  | .global g => some (.pointer (some ⟨g, 0, none⟩))
  | .func f => some (.func (.func f) #[] #[])

def evKs (L : Know) : List Operand → Option (List Value)
  | [] => some []
  | x :: r => (evK L x).bind fun v => (evKs L r).map (v :: ·)

structure Fits (n : Nat) (L : Know) (a : Act) : Prop where
  size : a.tmps.size = n
  slot : ∀ t v, look L t = some v → a.tmps[t]? = some v
  defers : a.defers = []

theorem Fits.eval {n : Nat} {L : Know} {a : Act} (h : Fits n L a) {x : Operand} {v : Value} (hx : evK L x = some v) : a.eval x = v := by
  cases x with
  | tmp t => have := h.slot t v hx; simp [Act.eval, Array.getD_eq_getD_getElem?, this]
  | const u => simpa [evK, Act.eval] using hx
  | global g => simpa [evK, Act.eval] using hx
  | func f => simpa [evK, Act.eval] using hx

theorem Fits.evals {n : Nat} {L : Know} {a : Act} (h : Fits n L a) : ∀ {xs : List Operand} {vs : List Value}, evKs L xs = some vs → xs.map a.eval = vs
  | [], vs, hx => by simpa [evKs] using hx
  | x :: r, vs, hx => by
    simp only [evKs, Option.bind_eq_some_iff, Option.map_eq_some_iff] at hx
    obtain ⟨v, hv, us, hus, rfl⟩ := hx
    simp [h.eval hv, h.evals hus]

theorem look_cons {L : Know} {d t : Nat} {v : Value} : look ((d, v) :: L) t = if d = t then some v else look L t := by
  simp only [look]
  by_cases e : d = t
  · subst e; simp
  · have : Nat.beq d t = false := by
      cases h : Nat.beq d t with
      | false => rfl
      | true => exact absurd (Nat.eq_of_beq_eq_true h) e
    simp [e, this]

theorem Fits.put {n : Nat} {L : Know} {a : Act} (h : Fits n L a) {d : Nat} {v : Value} (hd : d < n) : Fits n ((d, v) :: L) (a.put (some d) v) := by
  refine ⟨by simp [Act.put, h.size], fun t u hu => ?_, h.defers⟩
  rw [look_cons] at hu
  simp only [Act.put, Array.getElem?_setIfInBounds]
  by_cases e : d = t
  · subst e; simp at hu; simp [hu, h.size, hd]
  · simp only [e, if_false] at hu ⊢; exact h.slot t u hu

theorem Fits.putNone {n : Nat} {L : Know} {a : Act} (h : Fits n L a) {v : Value} : Fits n L (a.put none v) := h

/-- Every slot of the first list is known alike in the second. -/
def Weak : Know → Know → Prop
  | [], _ => True
  | (t, v) :: r, L => look L t = some v ∧ Weak r L

theorem Weak.look {L' L : Know} (h : Weak L' L) : ∀ {t v}, Kw.look L' t = some v → Kw.look L t = some v := by
  induction L' with
  | nil => intro t v h; simp [Kw.look] at h
  | cons p r ih =>
    intro t v hv
    obtain ⟨d, u⟩ := p
    rw [look_cons] at hv
    by_cases e : d = t
    · subst e; simp at hv; subst hv; exact h.1
    · simp [e] at hv; exact ih h.2 hv

theorem Fits.weaken {n : Nat} {L L' : Know} {a : Act} (h : Fits n L a) (hw : Weak L' L) : Fits n L' a :=
  ⟨h.size, fun t v hv => h.slot t v (hw.look hv), h.defers⟩

/-! ## Pieces of code -/
structure Qs where
  nrm : Know → World → Prop
  ret : Know → World → Prop
  ext : List (Nat × (Know → World → Prop))
  gto : List (Nat × (Know → World → Prop))

def lookE : List (Nat × (Know → World → Prop)) → Nat → Know → World → Prop
  | [], _ => fun _ _ => False
  | (t, R) :: r, u => cond (Nat.beq t u) R (lookE r u)

def Lift (n : Nat) (Q : Qs) : Exit → Act → World → Prop
  | .normal, a, w => ∃ L, Fits n L a ∧ Q.nrm L w
  | .ret, a, w => ∃ L, Fits n L a ∧ Q.ret L w
  | .exit id, a, w => ∃ L, Fits n L a ∧ lookE Q.ext id L w
  | .goto l, a, w => ∃ L, Fits n L a ∧ lookE Q.gto l L w
  | _, _, _ => False

def CW (P : Program) (n : Nat) (c : Code) (Q : Qs) (L : Know) (w : World) : Prop := ∀ a, Fits n L a → c.wp P (Lift n Q) a w

section
variable {P : Program} {n : Nat} {Q : Qs} {L : Know} {w : World}

theorem CW.weaken {c : Code} (L' : Know) (hw : Weak L' L) (h : CW P n c Q L' w) : CW P n c Q L w := fun a ha => h a (ha.weaken hw)

theorem CW.skipQ (h : Q.nrm L w) : CW P n .skip Q L w := fun _ ha => wp_skip ⟨L, ha, h⟩
theorem CW.labelQ {l : Nat} (h : Q.nrm L w) : CW P n (.label l) Q L w := fun _ ha => wp_label ⟨L, ha, h⟩
theorem CW.retQ (h : Q.ret L w) : CW P n .ret Q L w := fun _ ha => wp_ret ⟨L, ha, h⟩
theorem CW.exitQ {id : Nat} (h : lookE Q.ext id L w) : CW P n (.exit id) Q L w := fun _ ha => wp_exit ⟨L, ha, h⟩
theorem CW.gotoQ {l : Nat} (h : lookE Q.gto l L w) : CW P n (.goto l) Q L w := fun _ ha => wp_goto ⟨L, ha, h⟩

theorem CW.seqQ {x y : Code} (h : CW P n x { Q with nrm := fun L w => CW P n y Q L w } L w) : CW P n (.seq x y) Q L w := fun a ha =>
  wp_seq (wp_mono (h a ha) fun e a' w' q => by
    cases e <;> first | (obtain ⟨L', hL, hc⟩ := q; exact hc a' hL) | exact q)

/-- The same, what holds between the two written out. -/
theorem CW.seqMidQ {x y : Code} (R : Know → World → Prop) (h : CW P n x { Q with nrm := R } L w) (h2 : ∀ L' w', R L' w' → CW P n y Q L' w') : CW P n (.seq x y) Q L w := fun a ha =>
  wp_seq (wp_mono (h a ha) fun e a' w' q => by
    cases e <;> first | (obtain ⟨L', hL, hc⟩ := q; exact h2 L' w' hc a' hL) | exact q)

/-- What holds behind a piece of code, said once. -/
theorem CW.midQ {c : Code} (R : Know → World → Prop) (h : CW P n c { Q with nrm := R } L w) (h2 : ∀ L' w', R L' w' → Q.nrm L' w') : CW P n c Q L w := fun a ha =>
  wp_mono (h a ha) fun e a' w' q => by
    cases e <;> first | (obtain ⟨L', hL, hc⟩ := q; exact ⟨L', hL, h2 L' w' hc⟩) | exact q

theorem CW.condQ {c : Operand} {x y : Code} {b : Bool} (hc : evK L c = some (.bool b)) (ht : b = true → CW P n x Q L w) (hf : b = false → CW P n y Q L w) : CW P n (.cond c x y) Q L w :=
  fun a ha => wp_cond_split (ha.eval hc) (fun h => ht h a ha) (fun h => hf h a ha)
theorem CW.condDQ {c : Operand} {x y : Code} {p : Prop} {dp : Decidable p} (hc : evK L c = some (.bool (@decide p dp))) (ht : p → CW P n x Q L w) (hf : ¬ p → CW P n y Q L w) : CW P n (.cond c x y) Q L w :=
  CW.condQ hc (fun h => ht (of_decide_eq_true h)) (fun h => hf (of_decide_eq_false h))
theorem CW.condTQ {c : Operand} {x y : Code} {b : Bool} (hc : evK L c = some (.bool b)) (hb : b = true) (ht : CW P n x Q L w) : CW P n (.cond c x y) Q L w :=
  CW.condQ hc (fun _ => ht) (fun h => absurd (hb.symm.trans h) (by simp))
theorem CW.condFQ {c : Operand} {x y : Code} {b : Bool} (hc : evK L c = some (.bool b)) (hb : b = false) (hf : CW P n y Q L w) : CW P n (.cond c x y) Q L w :=
  CW.condQ hc (fun h => absurd (hb.symm.trans h) (by simp)) (fun _ => hf)

theorem lookE_cons {E : List (Nat × (Know → World → Prop))} {i id : Nat} {R : Know → World → Prop} : lookE ((i, R) :: E) id = if i = id then R else lookE E id := by
  simp only [lookE]
  by_cases e : i = id
  · subst e; simp
  · have : Nat.beq i id = false := by
      cases h : Nat.beq i id with
      | false => rfl
      | true => exact absurd (Nat.eq_of_beq_eq_true h) e
    simp [e, this]

theorem CW.blockQ {id : Nat} {c : Code} (h : CW P n c { Q with ext := (id, Q.nrm) :: Q.ext } L w) : CW P n (.block id c) Q L w := fun a ha =>
  wp_block (wp_mono (h a ha) fun e a' w' q => by
    cases e with
    | exit id' =>
      obtain ⟨L', hL, hc⟩ := q
      simp only [lookE_cons] at hc
      simp only [Exit.inBlock]
      by_cases hid : id' = id
      · subst hid; rw [if_pos rfl] at hc ⊢; exact ⟨L', hL, hc⟩
      · rw [if_neg hid]; rw [if_neg (fun e => hid e.symm)] at hc; exact ⟨L', hL, hc⟩
    | normal => exact q
    | ret => exact q
    | goto l => exact q
    | panic c => exact q
    | outgrown => exact q)

/-- A loop: 'K x' is what is known of the frame at its head, 'I x' what is known besides. -/
theorem CW.loopQ {c : Code} {α : Type} (K : α → Know) (I : α → World → Prop) (μ : α → Nat) (x₀ : α) (h0 : Weak (K x₀) L) (hI : I x₀ w)
    (round : ∀ x w, I x w → CW P n c { Q with nrm := fun L' w' => ∃ x', Weak (K x') L' ∧ I x' w' ∧ μ x' < μ x } (K x) w) : CW P n (.loop c) Q L w := fun a ha => by
  refine wp_loop_ghost (fun m a w => ∃ x, Fits n (K x) a ∧ I x w ∧ μ x = m) (μ x₀) ⟨x₀, ha.weaken h0, hI, rfl⟩ ?_
  rintro m a w ⟨x, hF, hx, rfl⟩
  refine wp_mono (round x w hx a hF) fun e a' w' q => ?_
  cases e with
  | normal =>
    obtain ⟨L', hL, x', hw', hI', hlt⟩ := q
    exact ⟨μ x', hlt, x', hL.weaken hw', hI', rfl⟩
  | ret => exact q
  | exit id => exact q
  | goto l => exact q
  | panic c => exact q
  | outgrown => exact q
end

/-! ## Regions -/
def RQ (n : Nat) (K : Know → World → Prop) : Exit → Act → World → Prop
  | .normal, a, w => ∃ L, Fits n L a ∧ K L w
  | _, _, _ => False

/-- What is left of a region in the text's order. -/
def RT (P : Program) (n : Nat) (ops : List Oper) (l : List Oper) (K : Know → World → Prop) (L : Know) (w : World) : Prop :=
  ∀ a, Fits n L a → wpList P ops.toArray (RQ n K) l a w

/-- The operation only evaluates: it leaves the world as it is. -/
def Ev (P : Program) (n : Nat) (L : Know) (w : World) (o : Oper) (v : Value) : Prop :=
  ∀ a, Fits n L a → (execOp a.eval o).run P w = .ok (.value v) w

/-- The operation, with what it leaves. -/
def OpE (P : Program) (n : Nat) (L : Know) (w : World) (o : Oper) (K : Value → World → Prop) : Prop :=
  ∀ a, Fits n L a → ∀ (next : Act → World → Prop) (Q : Exit → Act → World → Prop), (∀ v w', K v w' → next (a.put o.dst v) w') → o.wp P a w next Q

def putK (d : Option Nat) (v : Value) (L : Know) : Know :=
  match d with
  | some t => (t, v) :: L
  | none => L

/-- The slot, if any, is one of the frame's. -/
def okDst (n : Nat) : Option Nat → Bool
  | some t => Nat.ble (t + 1) n
  | none => true

theorem Fits.putK {n : Nat} {L : Know} {a : Act} (h : Fits n L a) {d : Option Nat} {v : Value} (hd : okDst n d = true) : Fits n (Kw.putK d v L) (a.put d v) := by
  cases d with
  | none => exact h
  | some t => exact h.put (Nat.le_of_ble_eq_true hd)

/-- The value of the guard of an operation, where it is known. -/
def gdst (ops : List Oper) (j : Nat) : Option Nat :=
  match ops[j]? with
  | some o => o.dst
  | none => none

theorem Fits.yielded {n : Nat} {L : Know} {a : Act} (h : Fits n L a) {ops : List Oper} {j d : Nat} {b : Bool} (hj : gdst ops j = some d) (hd : look L d = some (.bool b)) : Go.yielded ops.toArray a.tmps j = some b := by
  have h1 := h.slot d _ hd
  unfold gdst at hj
  unfold Go.yielded
  cases ho : ops[j]? with
  | none => simp [ho] at hj
  | some o => simp only [ho] at hj; simp [ho, hj, h1]

theorem Fits.yieldedU {n : Nat} {L : Know} {a : Act} (h : Fits n L a) {ops : List Oper} {j d : Nat} (hj : gdst ops j = some d) (hd : look L d = some undef) : Go.yielded ops.toArray a.tmps j = none := by
  have h1 := h.slot d _ hd
  unfold gdst at hj
  unfold Go.yielded
  cases ho : ops[j]? with
  | none => simp [ho] at hj
  | some o => simp only [ho] at hj; simp [ho, hj, h1, undef]

section
variable {P : Program} {n : Nat} {Q : Qs} {L : Know} {w : World} {K : Know → World → Prop} {ops : List Oper}

theorem RQ.lift {n : Nat} {Q : Qs} : ∀ e a w, RQ n Q.nrm e a w → Lift n Q e a w := fun e a w h => by
  cases e <;> first | exact h | exact (h : False).elim

theorem CW.regionQ {id : Nat} {l : List Oper} (h : RT P n l l Q.nrm L w) : CW P n (.region id l.toArray false) Q L w := fun a ha =>
  wp_mono (wp_region_list (by simpa using h a ha)) RQ.lift

theorem RT.nil (h : K L w) : RT P n ops [] K L w := fun _ ha => wpList_nil ⟨L, ha, h⟩
theorem RT.weaken {l : List Oper} (L' : Know) (hw : Weak L' L) (h : RT P n ops l K L' w) : RT P n ops l K L w := fun a ha => h a (ha.weaken hw)
theorem RT.ev {o : Oper} {r : List Oper} {v : Value} (hg : o.guard = none) (hd : okDst n o.dst = true) (he : Ev P n L w o v) (h : RT P n ops r K (putK o.dst v L) w) : RT P n ops (o :: r) K L w := fun a ha => by
  refine wpList_plain hg fun K' hK => ?_
  simp only [Oper.wp, he a ha, Oper.upon]
  exact hK _ _ (h _ (ha.putK hd))

theorem RT.eff {o : Oper} {r : List Oper} (hg : o.guard = none) (hd : okDst n o.dst = true) (he : OpE P n L w o fun v w' => RT P n ops r K (putK o.dst v L) w') : RT P n ops (o :: r) K L w := fun a ha =>
  wpList_plain hg fun _ hK => he a ha _ _ fun _ _ h => hK _ _ (h _ (ha.putK hd))

/-- A guarded operation: the guard says yes. -/
theorem RT.yes {o : Oper} {r : List Oper} {j d : Nat} {b b' : Bool} (hg : o.guard = some (j, b)) (hj : gdst ops j = some d) (hb : look L d = some (.bool b')) (hbb : b' = b)
    (h : RT P n ops ({ o with guard := none } :: r) K L w) : RT P n ops (o :: r) K L w := fun a ha => by
  subst hbb
  have h' := h a ha
  unfold wpList at h' ⊢
  have : Region.wanted o (yielded ops.toArray a.tmps) = true := by simp [Region.wanted, hg, ha.yielded hj hb]
  have h2 : Region.wanted { o with guard := none } (yielded ops.toArray a.tmps) = true := by simp [Region.wanted]
  simp only [this, h2, if_true] at h' ⊢
  exact h'
/-- The guard says no. -/
theorem RT.no {o : Oper} {r : List Oper} {j d : Nat} {b b' : Bool} (hg : o.guard = some (j, b)) (hj : gdst ops j = some d) (hb : look L d = some (.bool b')) (hne : b' = !b) (hd : okDst n o.dst = true)
    (h : RT P n ops r K (putK o.dst undef L) w) : RT P n ops (o :: r) K L w := fun a ha => by
  have : Region.wanted o (yielded ops.toArray a.tmps) = false := by
    simp only [Region.wanted, hg, ha.yielded hj hb]
    subst hne; cases b <;> simp
  exact wpList_skip this (h _ (ha.putK hd))

/-- The guard was itself passed over. -/
theorem RT.noU {o : Oper} {r : List Oper} {j d : Nat} {b : Bool} (hg : o.guard = some (j, b)) (hj : gdst ops j = some d) (hb : look L d = some undef) (hd : okDst n o.dst = true)
    (h : RT P n ops r K (putK o.dst undef L) w) : RT P n ops (o :: r) K L w := fun a ha =>
  wpList_skip (by simp only [Region.wanted, hg, ha.yieldedU hj hb]; rfl) (h _ (ha.putK hd))

/-! ### An order that is drawn: along a plan -/
/-- Whichever comes up; behind every operation the first condition holds until number b has come up, and the second one from then on. -/
def cond2 (b : Option Nat) (S1 S2 : World → Prop) (l : Array Bool) (w : World) : Prop :=
  match b with
  | none => S2 w
  | some b => if l.getD b true = true then S2 w else S1 w
def wpAnyG (P : Program) (ops : Array Oper) (Q : Exit → Act → World → Prop) (b : Option Nat) (S1 S2 : World → Prop) : Nat → Array Bool → Act → World → Prop
  | 0, listed, a, w => Region.ready .any ops listed = [] ∧ Q .normal a w
  | fuel + 1, listed, a, w =>
    (Region.ready .any ops listed = [] → Q .normal a w) ∧
    ∀ i ∈ Region.ready .any ops listed, wpOp P ops Q i (fun a' w' => cond2 b S1 S2 (listed.setIfInBounds i true) w' ∧ wpAnyG P ops Q b S1 S2 fuel (listed.setIfInBounds i true) a' w') a w

theorem wpAny_of_G {P : Program} {ops : Array Oper} {Q : Exit → Act → World → Prop} {b : Option Nat} {S1 S2 : World → Prop} : ∀ (fuel : Nat) (listed : Array Bool) (a : Act) (w : World), wpAnyG P ops Q b S1 S2 fuel listed a w → wpAny P .any ops Q fuel listed a w
  | 0, _, _, _, h => h
  | fuel + 1, _, _, _, h => ⟨h.1, fun i hi => wpOp_mono (fun a' w' h' => wpAny_of_G fuel _ a' w' h'.2) (h.2 i hi)⟩

theorem wpAnyG_done {P : Program} {ops : Array Oper} {Q : Exit → Act → World → Prop} {b : Option Nat} {S1 S2 : World → Prop} {listed : Array Bool} {a : Act} {w : World} (hr : Region.ready .any ops listed = []) (h : Q .normal a w) :
    ∀ fuel, wpAnyG P ops Q b S1 S2 fuel listed a w
  | 0 => ⟨hr, h⟩
  | _ + 1 => ⟨fun _ => h, by rw [hr]; simp⟩

/-- 'T': what holds as long as number i has not come up. -/
theorem wpAnyG_first {P : Program} {ops : Array Oper} {Q : Exit → Act → World → Prop} {b : Option Nat} {S1 S2 T : World → Prop} {i : Nat} {oi : Oper} {v : Value} (hi : ops[i]? = some oi) (hsel : ∀ (j : Nat) (o : Oper) cs b, ops[j]? = some o → o.op ≠ .select cs b)
    (hQ : ∀ c a w, Q (.panic c) (a.put oi.dst v) w → Q (.panic c) a w) (I : Array Bool → Prop)
    (hI : ∀ l j oj, I l → ops[j]? = some oj → j ≠ i → (∀ e ∈ oj.after, Region.binds .any e = true → e.on ≠ i) → I (l.setIfInBounds j true))
    (hT : ∀ l w, I l → cond2 b S1 S2 l w → T w) (hc : ∀ l w, I l → (cond2 b S1 S2 (l.setIfInBounds i true) w ↔ cond2 b S1 S2 l w)) :
    ∀ (fuel : Nat) (listed : Array Bool) (a : Act) (w : World), I listed →
      (∀ j oj, ops[j]? = some oj → j ≠ i → listed.getD j true = false → (∀ e ∈ oj.after, Region.binds .any e = true → e.on ≠ i) → oi.apart ops oj = true) →
      i ∈ Region.ready .any ops listed → YieldsIf P ops T oi v a → cond2 b S1 S2 listed w →
      wpAnyG P ops Q b S1 S2 fuel (listed.setIfInBounds i true) (a.put oi.dst v) w → wpAnyG P ops Q b S1 S2 (fuel + 1) listed a w := by
  intro fuel
  induction fuel with
  | zero =>
    intro listed a w hIl _ hr hy hS H
    refine ⟨fun h => (by rw [h] at hr; cases hr), fun j hj => ?_⟩
    by_cases hji : j = i
    · subst hji; exact hy.wpOp hi (hT _ _ hIl hS) ⟨(hc _ _ hIl).2 hS, H⟩
    · have := ready_mono hj hji
      rw [H.1] at this
      cases this
  | succ fuel ih =>
    intro listed a w hIl hfree hr hy hS H
    refine ⟨fun h => (by rw [h] at hr; cases hr), fun j hj => ?_⟩
    by_cases hji : j = i
    · subst hji; exact hy.wpOp hi (hT _ _ hIl hS) ⟨(hc _ _ hIl).2 hS, H⟩
    · have h1 := H.2 j (ready_mono hj hji)
      obtain ⟨hjun, oj, hoj, hall⟩ := mem_ready.1 hj
      have hnot : ∀ e ∈ oj.after, Region.binds .any e = true → e.on ≠ i := fun e he hb heq => by
        have h1 := hall e he hb
        have h0 := (mem_ready.1 hr).1
        rw [heq] at h1
        rcases Nat.lt_or_ge i listed.size with h' | h'
        · simp [h'] at h0 h1; rw [h0] at h1; cases h1
        · simp [Array.getElem?_eq_none h'] at h1
      have h2 := wpOp_putIf hoj (hfree j oj hoj hji hjun hnot) (fun cs b => hsel i oi cs b hi) (fun cs b => hsel j oj cs b hoj) hQ hy h1
      have hfree' : ∀ k ok, ops[k]? = some ok → k ≠ i → (listed.setIfInBounds j true).getD k true = false →
          (∀ e ∈ ok.after, Region.binds .any e = true → e.on ≠ i) → oi.apart ops ok = true := fun k ok hk hki hun hno => by
        refine hfree k ok hk hki ?_ hno
        by_cases hjk : j = k
        · subst hjk; exact hjun
        · rw [getD_set_ne true hjk] at hun; exact hun
      have hIj := hI listed j oj hIl hoj hji hnot
      refine wpOp_mono (fun a' w' h3 => ?_) h2
      have h4 := h3.2.1
      rw [Array.setIfInBounds_comm _ _ (Ne.symm hji)] at h4
      have hTw := (hc _ _ hIj).1 h4
      refine ⟨hTw, ih (listed.setIfInBounds j true) a' w' hIj hfree' (ready_mono hr (Ne.symm hji)) h3.1 hTw ?_⟩
      rw [Array.setIfInBounds_comm _ _ hji]
      exact h3.2.2

/-- A plan: 'free' is taken first, 'loose' too (it may come up before the bar or behind it), 'one' is the only one that may come up, 'bar' too, and from it on the next condition holds. -/
inductive Plan where
  | fin
  | free (i : Nat) (p : Plan)
  | loose (i : Nat) (p : Plan)
  | one (i : Nat) (p : Plan)
  | bar (i : Nat) (p : Plan)
  | two (i j : Nat) (p q : Plan)

def Plan.bar? : Plan → Option Nat
  | .fin => none
  | .free _ p | .one _ p | .loose _ p => p.bar?
  | .bar i _ => some i
  | .two _ _ p _ => p.bar?
/-- Number b waits for number i. -/
def waitsFor (ops : Array Oper) (i : Nat) : Option Nat → Bool
  | none => true
  | some b => (i != b) && (match ops[b]? with | some o => o.after.any fun e => Region.binds .any e && e.on == i | none => false)

def Plan.ok (ops : Array Oper) : Plan → Array Bool → Bool
  | .fin, l => (Region.ready .any ops l).isEmpty
  | .free i p, l => Region.free .any ops l i && (Region.ready .any ops l).contains i && waitsFor ops i p.bar? && p.ok ops (l.setIfInBounds i true)
  | .loose i p, l => Region.free .any ops l i && (Region.ready .any ops l).contains i && p.bar? != some i && p.ok ops (l.setIfInBounds i true)
  | .one i p, l => Region.ready .any ops l == [i] && p.bar? != some i && p.ok ops (l.setIfInBounds i true)
  | .bar i p, l => Region.ready .any ops l == [i] && p.bar?.isNone && p.ok ops (l.setIfInBounds i true)
  | .two i j p q, l => Region.ready .any ops l == [i, j] && p.bar? == q.bar? && p.bar? != some i && p.bar? != some j && p.ok ops (l.setIfInBounds i true) && q.ok ops (l.setIfInBounds j true)

def Plan.depth : Plan → Nat
  | .fin => 0
  | .free _ p | .one _ p | .bar _ p | .loose _ p => p.depth + 1
  | .two _ _ p q => max p.depth q.depth + 1

/-- The condition that holds now. -/
def hdS : List (World → Prop) → World → Prop
  | [] => fun _ => True
  | S :: _ => S

def planWp (P : Program) (n : Nat) (ops : List Oper) (K : Know → World → Prop) : List (World → Prop) → Plan → Act → World → Prop
  | _, .fin, a, w => RQ n K .normal a w
  | S, .free i p, a, w => ∃ o v, ops[i]? = some o ∧ YieldsIf P ops.toArray (hdS S) o v a ∧ hdS S w ∧ planWp P n ops K S p (a.put o.dst v) w
  | S, .loose i p, a, w => ∃ o v, ops[i]? = some o ∧ YieldsIf P ops.toArray (hdS S.tail) o v a ∧ hdS S w ∧ planWp P n ops K S p (a.put o.dst v) w
  | S, .one i p, a, w => wpOp P ops.toArray (RQ n K) i (fun a' w' => hdS S w' ∧ planWp P n ops K S p a' w') a w
  | S, .bar i p, a, w => wpOp P ops.toArray (RQ n K) i (fun a' w' => hdS S.tail w' ∧ planWp P n ops K S.tail p a' w') a w
  | S, .two i j p q, a, w => wpOp P ops.toArray (RQ n K) i (fun a' w' => hdS S w' ∧ planWp P n ops K S p a' w') a w ∧ wpOp P ops.toArray (RQ n K) j (fun a' w' => hdS S w' ∧ planWp P n ops K S q a' w') a w

theorem getD_set_same {l : Array Bool} {i : Nat} : (l.setIfInBounds i true).getD i true = true := by
  by_cases h : i < l.size <;> simp [h]
theorem getD_set_keep {l : Array Bool} {i j : Nat} (h : l.getD j true = true) : (l.setIfInBounds i true).getD j true = true := by
  by_cases hij : i = j
  · subst hij; exact getD_set_same
  · rw [getD_set_ne true hij]; exact h

/-- From the bar on, or where there is none. -/
theorem planWp.sound2 {S1 S2 : World → Prop} {b : Option Nat} (hsel : Region.noSelect ops.toArray = true) (S : List (World → Prop)) (hS : hdS S = S2) (hS2 : S.tail = []) : ∀ (p : Plan) (l : Array Bool) (fuel : Nat) (a : Act) (w : World), p.bar? = none → (∀ b0, b = some b0 → l.getD b0 true = true) → p.ok ops.toArray l = true → p.depth ≤ fuel →
    planWp P n ops K S p a w → wpAnyG P ops.toArray (RQ n K) b S1 S2 fuel l a w
  | .fin, l, fuel, a, w, _, _, hok, _, h => wpAnyG_done (by simpa [Plan.ok] using hok) h fuel
  | .free i p, l, fuel + 1, a, w, hb, hl, hok, hd, h => by
    obtain ⟨o, v, ho, hy, hw, hp⟩ := h
    simp only [Plan.ok, Bool.and_eq_true] at hok
    rw [hS] at hy hw
    have hI : ∀ l w, (∀ b0, b = some b0 → l.getD b0 true = true) → (cond2 b S1 S2 l w ↔ S2 w) := fun l w h => by
      cases b with
      | none => rfl
      | some b => simp only [cond2, h b rfl, if_true]
    have hI2 : ∀ l w, (∀ b0, b = some b0 → l.getD b0 true = true) → (cond2 b S1 S2 (l.setIfInBounds i true) w ↔ cond2 b S1 S2 l w) := fun l w h => (hI _ w fun b0 e => getD_set_keep (h b0 e)).trans (hI l w h).symm
    exact wpAnyG_first (T := S2) (by simpa using ho) (Region.noSelect_spec hsel) (fun _ _ _ h => h) (fun l => ∀ b0, b = some b0 → l.getD b0 true = true) (fun l j oj h _ _ _ b0 e => getD_set_keep (h b0 e)) (fun l w h h' => (hI l w h).1 h')
      hI2 fuel l a w hl (Region.free_spec (by simpa using ho) hok.1.1.1) (by simpa using hok.1.1.2) hy ((hI l w hl).2 hw)
      (planWp.sound2 hsel S hS hS2 p _ fuel _ w hb (fun b0 e => getD_set_keep (hl b0 e)) hok.2 (by simpa [Plan.depth] using hd) hp)
  | .loose i p, l, fuel + 1, a, w, hb, hl, hok, hd, h => by
    obtain ⟨o, v, ho, hy, hw, hp⟩ := h
    simp only [Plan.ok, Bool.and_eq_true] at hok
    rw [hS] at hw
    rw [hS2] at hy
    have hI : ∀ l w, (∀ b0, b = some b0 → l.getD b0 true = true) → (cond2 b S1 S2 l w ↔ S2 w) := fun l w h => by
      cases b with
      | none => rfl
      | some b => simp only [cond2, h b rfl, if_true]
    have hI2 : ∀ l w, (∀ b0, b = some b0 → l.getD b0 true = true) → (cond2 b S1 S2 (l.setIfInBounds i true) w ↔ cond2 b S1 S2 l w) := fun l w h => (hI _ w fun b0 e => getD_set_keep (h b0 e)).trans (hI l w h).symm
    exact wpAnyG_first (T := fun _ => True) (by simpa using ho) (Region.noSelect_spec hsel) (fun _ _ _ h => h) (fun l => ∀ b0, b = some b0 → l.getD b0 true = true) (fun l j oj h _ _ _ b0 e => getD_set_keep (h b0 e)) (fun l w h h' => trivial)
      hI2 fuel l a w hl (Region.free_spec (by simpa using ho) hok.1.1.1) (by simpa using hok.1.1.2) hy ((hI l w hl).2 hw)
      (planWp.sound2 hsel S hS hS2 p _ fuel _ w hb (fun b0 e => getD_set_keep (hl b0 e)) hok.2 (by simpa [Plan.depth] using hd) hp)
  | .one i p, l, fuel + 1, a, w, hb, hl, hok, hd, h => by
    simp only [Plan.ok, Bool.and_eq_true, beq_iff_eq] at hok
    refine ⟨fun h0 => absurd (hok.1.1 ▸ h0) (by simp), fun j hj => ?_⟩
    rw [hok.1.1] at hj
    simp only [List.mem_singleton] at hj
    subst hj
    refine wpOp_mono (fun a' w' h' => ⟨?_, planWp.sound2 hsel S hS hS2 p _ fuel a' w' hb (fun b0 e => getD_set_keep (hl b0 e)) hok.2 (by simpa [Plan.depth] using hd) h'.2⟩) h
    have := h'.1
    rw [hS] at this
    cases b with
    | none => exact this
    | some b => simp only [cond2, getD_set_keep (hl b rfl), if_true]; exact this
  | .two i j p q, l, fuel + 1, a, w, hb, hl, hok, hd, h => by
    simp only [Plan.bar?] at hb
    simp only [Plan.ok, Bool.and_eq_true, beq_iff_eq] at hok
    obtain ⟨⟨⟨⟨⟨hr, hpq⟩, _⟩, _⟩, hop⟩, hoq⟩ := hok
    simp only [Plan.depth] at hd
    refine ⟨fun h0 => absurd (hr ▸ h0) (by simp), fun k hk => ?_⟩
    rw [hr] at hk
    simp only [List.mem_cons, List.not_mem_nil, or_false] at hk
    have hc : ∀ k w', hdS S w' → cond2 b S1 S2 (l.setIfInBounds k true) w' := fun k w' h' => by
      rw [hS] at h'
      cases b with
      | none => exact h'
      | some b => simp only [cond2, getD_set_keep (hl b rfl), if_true]; exact h'
    rcases hk with rfl | rfl
    · exact wpOp_mono (fun a' w' h' => ⟨hc _ _ h'.1, planWp.sound2 hsel S hS hS2 p _ fuel a' w' hb (fun b0 e => getD_set_keep (hl b0 e)) hop (by omega) h'.2⟩) h.1
    · exact wpOp_mono (fun a' w' h' => ⟨hc _ _ h'.1, planWp.sound2 hsel S hS hS2 q _ fuel a' w' (hpq ▸ hb) (fun b0 e => getD_set_keep (hl b0 e)) hoq (by omega) h'.2⟩) h.2
  | .bar i p, l, fuel, a, w, hb, _, _, _, _ => by simp [Plan.bar?] at hb
  | .free i p, l, 0, _, _, _, _, _, hd, _ => by simp [Plan.depth] at hd
  | .one i p, l, 0, _, _, _, _, _, hd, _ => by simp [Plan.depth] at hd
  | .loose i p, l, 0, _, _, _, _, _, hd, _ => by simp [Plan.depth] at hd
  | .two i j p q, l, 0, _, _, _, _, _, hd, _ => by simp [Plan.depth] at hd

/-- Before the bar. -/
theorem planWp.sound1 {S1 S2 : World → Prop} {b : Nat} (hsel : Region.noSelect ops.toArray = true) (h12 : ∀ w, S1 w → S2 w) : ∀ (p : Plan) (l : Array Bool) (fuel : Nat) (a : Act) (w : World), p.bar? = some b → l.getD b true = false → p.ok ops.toArray l = true → p.depth ≤ fuel →
    planWp P n ops K [S1, S2] p a w → wpAnyG P ops.toArray (RQ n K) (some b) S1 S2 fuel l a w
  | .free i p, l, fuel + 1, a, w, hb, hl, hok, hd, h => by
    obtain ⟨o, v, ho, hy, hw, hp⟩ := h
    simp only [Plan.bar?] at hb
    simp only [Plan.ok, Bool.and_eq_true, hb, waitsFor] at hok
    have hib : i ≠ b := by simpa using hok.1.2.1
    have hbi : ∃ ob, ops.toArray[b]? = some ob ∧ ∃ e ∈ ob.after, Region.binds .any e = true ∧ e.on = i := by
      have h2 := hok.1.2.2
      cases hob : ops.toArray[b]? with
      | none => rw [hob] at h2; cases h2
      | some ob =>
        rw [hob] at h2
        obtain ⟨e, he, h3⟩ := Array.any_eq_true'.1 h2
        simp only [Bool.and_eq_true, beq_iff_eq] at h3
        exact ⟨ob, rfl, e, he, h3.1, h3.2⟩
    obtain ⟨ob, hob, e, he, hbe, hei⟩ := hbi
    have hT : ∀ l w, l.getD b true = false → (cond2 (some b) S1 S2 l w ↔ S1 w) := fun l w h => by
      simp only [cond2, h, Bool.false_eq_true, if_false]
    exact wpAnyG_first (T := S1) (by simpa using ho) (Region.noSelect_spec hsel) (fun _ _ _ h => h) (fun l => l.getD b true = false)
      (fun l j oj h hoj hji hno => by
        have hjb : j ≠ b := fun e2 => by subst e2; rw [hob] at hoj; cases hoj; exact hno e he hbe hei
        rw [getD_set_ne true hjb]; exact h)
      (fun l w h => (hT l w h).1) (fun l w h => by simp only [cond2, getD_set_ne true hib]) fuel l a w hl (Region.free_spec (by simpa using ho) hok.1.1.1) (by simpa using hok.1.1.2) hy ((hT l w hl).2 hw)
      (planWp.sound1 hsel h12 p _ fuel _ w hb (by rw [getD_set_ne true hib]; exact hl) hok.2 (by simpa [Plan.depth] using hd) hp)
  | .loose i p, l, fuel + 1, a, w, hb, hl, hok, hd, h => by
    obtain ⟨o, v, ho, hy, hw, hp⟩ := h
    simp only [Plan.bar?] at hb
    simp only [Plan.ok, Bool.and_eq_true, hb] at hok
    have hib : i ≠ b := fun e => by have := hok.1.2; subst e; simp at this
    exact wpAnyG_first (T := S2) (by simpa using ho) (Region.noSelect_spec hsel) (fun _ _ _ h => h) (fun _ => True) (fun _ _ _ _ _ _ _ => trivial)
      (fun l w _ h => by
        simp only [cond2] at h
        by_cases hq : l.getD b true = true
        · rw [if_pos hq] at h; exact h
        · rw [if_neg hq] at h; exact h12 _ h) (fun l w h => by simp only [cond2, getD_set_ne true hib]) fuel l a w trivial (Region.free_spec (by simpa using ho) hok.1.1.1) (by simpa using hok.1.1.2) hy
      (by simp only [cond2, hl, Bool.false_eq_true, if_false]; exact hw)
      (planWp.sound1 hsel h12 p _ fuel _ w hb (by rw [getD_set_ne true hib]; exact hl) hok.2 (by simpa [Plan.depth] using hd) hp)
  | .one i p, l, fuel + 1, a, w, hb, hl, hok, hd, h => by
    simp only [Plan.bar?] at hb
    simp only [Plan.ok, Bool.and_eq_true, beq_iff_eq, hb] at hok
    have hib : i ≠ b := fun e => by have := hok.1.2; subst e; simp at this
    refine ⟨fun h0 => absurd (hok.1.1 ▸ h0) (by simp), fun j hj => ?_⟩
    rw [hok.1.1] at hj
    simp only [List.mem_singleton] at hj
    subst hj
    have hl2 : (l.setIfInBounds j true).getD b true = false := by rw [getD_set_ne true hib]; exact hl
    exact wpOp_mono (fun a' w' h' => ⟨by simp only [cond2, hl2, Bool.false_eq_true, if_false]; exact h'.1, planWp.sound1 hsel h12 p _ fuel a' w' hb hl2 hok.2 (by simpa [Plan.depth] using hd) h'.2⟩) h
  | .bar i p, l, fuel + 1, a, w, hb, hl, hok, hd, h => by
    simp only [Plan.bar?, Option.some.injEq] at hb
    subst hb
    simp only [Plan.ok, Bool.and_eq_true, beq_iff_eq, Option.isNone_iff_eq_none] at hok
    refine ⟨fun h0 => absurd (hok.1.1 ▸ h0) (by simp), fun j hj => ?_⟩
    rw [hok.1.1] at hj
    simp only [List.mem_singleton] at hj
    subst hj
    exact wpOp_mono (fun a' w' h' => ⟨by simp only [cond2, getD_set_same, if_true]; exact h'.1,
      planWp.sound2 hsel [S2] rfl rfl p _ fuel a' w' hok.1.2 (fun b0 e => by cases e; exact getD_set_same) hok.2 (by simpa [Plan.depth] using hd) h'.2⟩) h
  | .fin, l, fuel, a, w, hb, _, _, _, _ => by simp [Plan.bar?] at hb
  | .two i j p q, l, fuel + 1, a, w, hb, hl, hok, hd, h => by
    simp only [Plan.bar?] at hb
    simp only [Plan.ok, Bool.and_eq_true, beq_iff_eq, hb] at hok
    obtain ⟨⟨⟨⟨⟨hr, hpq⟩, hni⟩, hnj⟩, hop⟩, hoq⟩ := hok
    have hib : i ≠ b := fun e => by subst e; simp at hni
    have hjb : j ≠ b := fun e => by subst e; simp at hnj
    simp only [Plan.depth] at hd
    refine ⟨fun h0 => absurd (hr ▸ h0) (by simp), fun k hk => ?_⟩
    rw [hr] at hk
    simp only [List.mem_cons, List.not_mem_nil, or_false] at hk
    have hl2 : ∀ k, k ≠ b → (l.setIfInBounds k true).getD b true = false := fun k hk => by rw [getD_set_ne true hk]; exact hl
    rcases hk with rfl | rfl
    · exact wpOp_mono (fun a' w' h' => ⟨by simp only [cond2, hl2 _ hib, Bool.false_eq_true, if_false]; exact h'.1, planWp.sound1 hsel h12 p _ fuel a' w' hb (hl2 _ hib) hop (by omega) h'.2⟩) h.1
    · exact wpOp_mono (fun a' w' h' => ⟨by simp only [cond2, hl2 _ hjb, Bool.false_eq_true, if_false]; exact h'.1, planWp.sound1 hsel h12 q _ fuel a' w' hpq.symm (hl2 _ hjb) hoq (by omega) h'.2⟩) h.2
  | .free i p, l, 0, _, _, _, _, _, hd, _ => by simp [Plan.depth] at hd
  | .one i p, l, 0, _, _, _, _, _, hd, _ => by simp [Plan.depth] at hd
  | .loose i p, l, 0, _, _, _, _, _, hd, _ => by simp [Plan.depth] at hd
  | .bar i p, l, 0, _, _, _, _, _, hd, _ => by simp [Plan.depth] at hd
  | .two i j p q, l, 0, _, _, _, _, _, hd, _ => by simp [Plan.depth] at hd

/-- What is left of a region whose order is drawn; 'S' holds throughout, or up to the bar. -/
def RP (P : Program) (n : Nat) (ops : List Oper) (S : List (World → Prop)) (p : Plan) (K : Know → World → Prop) (L : Know) (w : World) : Prop :=
  ∀ a, Fits n L a → planWp P n ops K S p a w

def Plan.good (ops : List Oper) (p : Plan) : Bool :=
  p.ok ops.toArray (Array.replicate ops.length false) && Nat.ble p.depth ops.length && Region.noSelect ops.toArray && p.bar?.isNone
def Plan.good2 (ops : List Oper) (b : Nat) (p : Plan) : Bool :=
  p.ok ops.toArray (Array.replicate ops.length false) && Nat.ble p.depth ops.length && Region.noSelect ops.toArray && (p.bar? == some b) && Nat.blt b ops.length

theorem CW.drawQ {id : Nat} {l : List Oper} (S : World → Prop) (p : Plan) (hm : P.follows .mixedOrders = true) (hok : p.good l = true)
    (h : RP P n l [S] p Q.nrm L w.drew) : CW P n (.region id l.toArray true) Q L w := fun a ha => by
  simp only [Plan.good, Bool.and_eq_true, Option.isNone_iff_eq_none] at hok
  refine wp_mono (wp_region_any hm (wpAny_of_G (b := none) (S1 := S) (S2 := S) _ _ _ _ ?_)) RQ.lift
  have := planWp.sound2 (b := none) (S1 := S) (S2 := S) hok.1.2 [S] rfl rfl p (Array.replicate l.length false) l.length a _ hok.2 (fun _ e => by cases e) hok.1.1.1 (Nat.le_of_ble_eq_true hok.1.1.2) (h a ha)
  simpa using this

theorem CW.draw2Q {id : Nat} {l : List Oper} (S1 S2 : World → Prop) (b : Nat) (p : Plan) (h12 : ∀ w, S1 w → S2 w) (hm : P.follows .mixedOrders = true) (hok : p.good2 l b = true)
    (h : RP P n l [S1, S2] p Q.nrm L w.drew) : CW P n (.region id l.toArray true) Q L w := fun a ha => by
  simp only [Plan.good2, Bool.and_eq_true, beq_iff_eq] at hok
  have hb : b < l.length := by have := hok.2; simp only [Nat.blt_eq] at this; exact this
  refine wp_mono (wp_region_any hm (wpAny_of_G (b := some b) (S1 := S1) (S2 := S2) _ _ _ _ ?_)) RQ.lift
  have := planWp.sound1 (S1 := S1) (S2 := S2) hok.1.1.2 h12 p (Array.replicate l.length false) l.length a _ hok.1.2 (by simp [hb]) hok.1.1.1.1 (Nat.le_of_ble_eq_true hok.1.1.1.2) (h a ha)
  simpa using this

variable {S : World → Prop} {SS : List (World → Prop)} {p q : Plan}
theorem RP.fin (h : K L w) : RP P n ops SS .fin K L w := fun _ ha => ⟨L, ha, h⟩
theorem RP.weaken (L' : Know) (hw : Weak L' L) (h : RP P n ops SS p K L' w) : RP P n ops SS p K L w := fun a ha => h a (ha.weaken hw)

theorem RP.ev {i : Nat} {o : Oper} {v : Value} (ho : ops[i]? = some o) (hg : o.guard = none) (hd : okDst n o.dst = true) (he : ∀ w', S w' → Ev P n L w' o v) (hS : S w)
    (h : RP P n ops (S :: SS) p K (putK o.dst v L) w) : RP P n ops (S :: SS) (.free i p) K L w := fun a ha =>
  ⟨o, v, ho, .inl ⟨by simp [Region.wanted, hg], fun w' hw' => he w' hw' a ha⟩, hS, h _ (ha.putK hd)⟩

/-- A guarded operation whose guard says yes. -/
theorem RP.evYes {i : Nat} {o : Oper} {v : Value} {j d : Nat} {b b' : Bool} (ho : ops[i]? = some o) (hg : o.guard = some (j, b)) (hj : gdst ops j = some d) (hb : look L d = some (.bool b')) (hbb : b' = b) (hd : okDst n o.dst = true)
    (he : ∀ w', S w' → Ev P n L w' o v) (hS : S w) (h : RP P n ops (S :: SS) p K (putK o.dst v L) w) : RP P n ops (S :: SS) (.free i p) K L w := fun a ha =>
  ⟨o, v, ho, .inl ⟨by subst hbb; simp [Region.wanted, hg, ha.yielded hj hb], fun w' hw' => he w' hw' a ha⟩, hS, h _ (ha.putK hd)⟩

theorem RP.no {i : Nat} {o : Oper} {j d : Nat} {b b' : Bool} (ho : ops[i]? = some o) (hg : o.guard = some (j, b)) (hj : gdst ops j = some d) (hb : look L d = some (.bool b')) (hne : b' = !b) (hd : okDst n o.dst = true)
    (hS : S w) (h : RP P n ops (S :: SS) p K (putK o.dst undef L) w) : RP P n ops (S :: SS) (.free i p) K L w := fun a ha =>
  ⟨o, undef, ho, .inr ⟨by simp only [Region.wanted, hg, ha.yielded hj hb]; subst hne; cases b <;> simp, rfl⟩, hS, h _ (ha.putK hd)⟩

theorem RP.noU {i : Nat} {o : Oper} {j d : Nat} {b : Bool} (ho : ops[i]? = some o) (hg : o.guard = some (j, b)) (hj : gdst ops j = some d) (hb : look L d = some undef) (hd : okDst n o.dst = true)
    (hS : S w) (h : RP P n ops (S :: SS) p K (putK o.dst undef L) w) : RP P n ops (S :: SS) (.free i p) K L w := fun a ha =>
  ⟨o, undef, ho, .inr ⟨by simp only [Region.wanted, hg, ha.yieldedU hj hb]; rfl, rfl⟩, hS, h _ (ha.putK hd)⟩

theorem planOp {i : Nat} {o : Oper} (ho : ops[i]? = some o) (hg : o.guard = none) (hd : okDst n o.dst = true) (he : OpE P n L w o fun v w' => S w' ∧ RP P n ops (S :: SS) p K (putK o.dst v L) w') {a : Act} (ha : Fits n L a) :
    wpOp P ops.toArray (RQ n K) i (fun a' w' => S w' ∧ planWp P n ops K (S :: SS) p a' w') a w := by
  have ho' : ops.toArray[i]? = some o := by simpa using ho
  unfold wpOp
  simp only [ho', Region.wanted, hg, if_true]
  exact .inl (he a ha _ _ fun v w' h => ⟨h.1, h.2 _ (ha.putK hd)⟩)

theorem planOpYes {i : Nat} {o : Oper} {j d : Nat} {b b' : Bool} (ho : ops[i]? = some o) (hg : o.guard = some (j, b)) (hj : gdst ops j = some d) (hb : look L d = some (.bool b')) (hbb : b' = b) (hd : okDst n o.dst = true)
    (he : OpE P n L w o fun v w' => S w' ∧ RP P n ops (S :: SS) p K (putK o.dst v L) w') {a : Act} (ha : Fits n L a) :
    wpOp P ops.toArray (RQ n K) i (fun a' w' => S w' ∧ planWp P n ops K (S :: SS) p a' w') a w := by
  subst hbb
  have ho' : ops.toArray[i]? = some o := by simpa using ho
  unfold wpOp
  simp only [ho', Region.wanted, hg, ha.yielded hj hb, beq_self_eq_true, if_true]
  exact .inl (he a ha _ _ fun v w' h => ⟨h.1, h.2 _ (ha.putK hd)⟩)

theorem planOpNo {i : Nat} {o : Oper} {j d : Nat} {b b' : Bool} (ho : ops[i]? = some o) (hg : o.guard = some (j, b)) (hj : gdst ops j = some d) (hb : look L d = some (.bool b')) (hne : b' = !b) (hd : okDst n o.dst = true)
    (hS : S w) (h : RP P n ops (S :: SS) p K (putK o.dst undef L) w) {a : Act} (ha : Fits n L a) :
    wpOp P ops.toArray (RQ n K) i (fun a' w' => S w' ∧ planWp P n ops K (S :: SS) p a' w') a w := by
  have ho' : ops.toArray[i]? = some o := by simpa using ho
  unfold wpOp
  have : (some b' == some b) = false := by subst hne; cases b <;> simp
  simp only [ho', Region.wanted, hg, ha.yielded hj hb, this, Bool.false_eq_true, if_false]
  exact ⟨hS, h _ (ha.putK hd)⟩

theorem RP.eff {i : Nat} {o : Oper} (ho : ops[i]? = some o) (hg : o.guard = none) (hd : okDst n o.dst = true) (he : OpE P n L w o fun v w' => S w' ∧ RP P n ops (S :: SS) p K (putK o.dst v L) w') : RP P n ops (S :: SS) (.one i p) K L w :=
  fun _ ha => planOp ho hg hd he ha
theorem RP.effYes {i : Nat} {o : Oper} {j d : Nat} {b b' : Bool} (ho : ops[i]? = some o) (hg : o.guard = some (j, b)) (hj : gdst ops j = some d) (hb : look L d = some (.bool b')) (hbb : b' = b) (hd : okDst n o.dst = true)
    (he : OpE P n L w o fun v w' => S w' ∧ RP P n ops (S :: SS) p K (putK o.dst v L) w') : RP P n ops (S :: SS) (.one i p) K L w :=
  fun _ ha => planOpYes ho hg hj hb hbb hd he ha
theorem RP.effNo {i : Nat} {o : Oper} {j d : Nat} {b b' : Bool} (ho : ops[i]? = some o) (hg : o.guard = some (j, b)) (hj : gdst ops j = some d) (hb : look L d = some (.bool b')) (hne : b' = !b) (hd : okDst n o.dst = true)
    (hS : S w) (h : RP P n ops (S :: SS) p K (putK o.dst undef L) w) : RP P n ops (S :: SS) (.one i p) K L w :=
  fun _ ha => planOpNo ho hg hj hb hne hd hS h ha
theorem RP.effNoU {i : Nat} {o : Oper} {j d : Nat} {b : Bool} (ho : ops[i]? = some o) (hg : o.guard = some (j, b)) (hj : gdst ops j = some d) (hb : look L d = some undef) (hd : okDst n o.dst = true)
    (hS : S w) (h : RP P n ops (S :: SS) p K (putK o.dst undef L) w) : RP P n ops (S :: SS) (.one i p) K L w := fun a ha => by
  have ho' : ops.toArray[i]? = some o := by simpa using ho
  show wpOp P ops.toArray (RQ n K) i _ a w
  unfold wpOp
  simp only [ho', Region.wanted, hg, ha.yieldedU hj hb]
  exact ⟨hS, h _ (ha.putK hd)⟩
theorem RP.two {i j : Nat} {oi oj : Oper} (ho : ops[i]? = some oi) (hg : oi.guard = none) (hd : okDst n oi.dst = true) (ho' : ops[j]? = some oj) (hg' : oj.guard = none) (hd' : okDst n oj.dst = true)
    (he : OpE P n L w oi fun v w' => S w' ∧ RP P n ops (S :: SS) p K (putK oi.dst v L) w') (he' : OpE P n L w oj fun v w' => S w' ∧ RP P n ops (S :: SS) q K (putK oj.dst v L) w') : RP P n ops (S :: SS) (.two i j p q) K L w :=
  fun _ ha => ⟨planOp ho hg hd he ha, planOp ho' hg' hd' he' ha⟩
theorem RP.loose {i : Nat} {o : Oper} {v : Value} {S2 : World → Prop} (ho : ops[i]? = some o) (hg : o.guard = none) (hd : okDst n o.dst = true) (he : ∀ w', S2 w' → Ev P n L w' o v) (hS : S w)
    (h : RP P n ops (S :: S2 :: SS) p K (putK o.dst v L) w) : RP P n ops (S :: S2 :: SS) (.loose i p) K L w := fun a ha =>
  ⟨o, v, ho, .inl ⟨by simp [Region.wanted, hg], fun w' hw' => he w' hw' a ha⟩, hS, h _ (ha.putK hd)⟩
theorem RP.bar {i : Nat} {o : Oper} {S2 : World → Prop} (ho : ops[i]? = some o) (hg : o.guard = none) (hd : okDst n o.dst = true) (he : OpE P n L w o fun v w' => S2 w' ∧ RP P n ops (S2 :: SS) p K (putK o.dst v L) w') : RP P n ops (S :: S2 :: SS) (.bar i p) K L w :=
  fun _ ha => planOp ho hg hd he ha
/-- What only evaluates, where it is met as an operation of its own. -/
theorem OpE.ev {o : Oper} {v : Value} {K : Value → World → Prop} (he : Ev P n L w o v) (h : K v w) : OpE P n L w o K := fun a ha _ _ hk => by
  simp only [Oper.wp, he a ha, Oper.upon]; exact hk _ _ h
end

/-! The rules, what is asked at each way out written out -/
section
variable {P : Program} {n : Nat} {N R : Know → World → Prop} {X G : List (Nat × (Know → World → Prop))} {L : Know} {w : World}
theorem CW.skip (h : N L w) : CW P n .skip ⟨N, R, X, G⟩ L w := CW.skipQ h
theorem CW.label {l : Nat} (h : N L w) : CW P n (.label l) ⟨N, R, X, G⟩ L w := CW.labelQ h
theorem CW.ret (h : R L w) : CW P n .ret ⟨N, R, X, G⟩ L w := CW.retQ h
theorem CW.exit {id : Nat} (h : lookE X id L w) : CW P n (.exit id) ⟨N, R, X, G⟩ L w := CW.exitQ h
theorem CW.exit0 {id : Nat} {M : Know → World → Prop} (h : M L w) : CW P n (.exit id) ⟨N, R, (id, M) :: X, G⟩ L w := CW.exitQ (by simp only [lookE_cons, if_pos]; exact h)
theorem lookE_skip {E : List (Nat × (Know → World → Prop))} {i id : Nat} {M : Know → World → Prop} (h : (i == id) = false) : lookE ((i, M) :: E) id = lookE E id := by
  rw [lookE_cons, if_neg (by simpa using h)]
theorem CW.exit1 {id i1 : Nat} {M M1 : Know → World → Prop} (h1 : (i1 == id) = false) (h : M L w) : CW P n (.exit id) ⟨N, R, (i1, M1) :: (id, M) :: X, G⟩ L w := CW.exitQ (by
  show lookE _ id L w; rw [lookE_skip h1, lookE_cons, if_pos rfl]; exact h)
theorem CW.exit2 {id i1 i2 : Nat} {M M1 M2 : Know → World → Prop} (h1 : (i1 == id) = false) (h2 : (i2 == id) = false) (h : M L w) : CW P n (.exit id) ⟨N, R, (i1, M1) :: (i2, M2) :: (id, M) :: X, G⟩ L w := CW.exitQ (by
  show lookE _ id L w; rw [lookE_skip h1, lookE_skip h2, lookE_cons, if_pos rfl]; exact h)
theorem CW.exit3 {id i1 i2 i3 : Nat} {M M1 M2 M3 : Know → World → Prop} (h1 : (i1 == id) = false) (h2 : (i2 == id) = false) (h3 : (i3 == id) = false) (h : M L w) : CW P n (.exit id) ⟨N, R, (i1, M1) :: (i2, M2) :: (i3, M3) :: (id, M) :: X, G⟩ L w := CW.exitQ (by
  show lookE _ id L w; rw [lookE_skip h1, lookE_skip h2, lookE_skip h3, lookE_cons, if_pos rfl]; exact h)
theorem CW.exit4 {id i1 i2 i3 i4 : Nat} {M M1 M2 M3 M4 : Know → World → Prop} (h1 : (i1 == id) = false) (h2 : (i2 == id) = false) (h3 : (i3 == id) = false) (h4 : (i4 == id) = false) (h : M L w) : CW P n (.exit id) ⟨N, R, (i1, M1) :: (i2, M2) :: (i3, M3) :: (i4, M4) :: (id, M) :: X, G⟩ L w := CW.exitQ (by
  show lookE _ id L w; rw [lookE_skip h1, lookE_skip h2, lookE_skip h3, lookE_skip h4, lookE_cons, if_pos rfl]; exact h)
theorem CW.exit5 {id i1 i2 i3 i4 i5 : Nat} {M M1 M2 M3 M4 M5 : Know → World → Prop} (h1 : (i1 == id) = false) (h2 : (i2 == id) = false) (h3 : (i3 == id) = false) (h4 : (i4 == id) = false) (h5 : (i5 == id) = false) (h : M L w) :
    CW P n (.exit id) ⟨N, R, (i1, M1) :: (i2, M2) :: (i3, M3) :: (i4, M4) :: (i5, M5) :: (id, M) :: X, G⟩ L w := CW.exitQ (by
  show lookE _ id L w; rw [lookE_skip h1, lookE_skip h2, lookE_skip h3, lookE_skip h4, lookE_skip h5, lookE_cons, if_pos rfl]; exact h)
theorem CW.goto {l : Nat} (h : lookE G l L w) : CW P n (.goto l) ⟨N, R, X, G⟩ L w := CW.gotoQ h
theorem CW.seq {x y : Code} (h : CW P n x ⟨fun L w => CW P n y ⟨N, R, X, G⟩ L w, R, X, G⟩ L w) : CW P n (.seq x y) ⟨N, R, X, G⟩ L w := CW.seqQ h
theorem CW.seqMid {x y : Code} (M : Know → World → Prop) (h : CW P n x ⟨M, R, X, G⟩ L w) (h2 : ∀ L' w', M L' w' → CW P n y ⟨N, R, X, G⟩ L' w') : CW P n (.seq x y) ⟨N, R, X, G⟩ L w := CW.seqMidQ M h h2
theorem CW.mid {c : Code} (M : Know → World → Prop) (h : CW P n c ⟨M, R, X, G⟩ L w) (h2 : ∀ L' w', M L' w' → N L' w') : CW P n c ⟨N, R, X, G⟩ L w := CW.midQ M h h2
theorem CW.cond {c : Operand} {x y : Code} {b : Bool} (hc : evK L c = some (.bool b)) (ht : b = true → CW P n x ⟨N, R, X, G⟩ L w) (hf : b = false → CW P n y ⟨N, R, X, G⟩ L w) : CW P n (.cond c x y) ⟨N, R, X, G⟩ L w := CW.condQ hc ht hf
theorem CW.condD {c : Operand} {x y : Code} {p : Prop} {dp : Decidable p} (hc : evK L c = some (.bool (@decide p dp))) (ht : p → CW P n x ⟨N, R, X, G⟩ L w) (hf : ¬ p → CW P n y ⟨N, R, X, G⟩ L w) : CW P n (.cond c x y) ⟨N, R, X, G⟩ L w := CW.condDQ hc ht hf
theorem CW.condT {c : Operand} {x y : Code} {b : Bool} (hc : evK L c = some (.bool b)) (hb : b = true) (ht : CW P n x ⟨N, R, X, G⟩ L w) : CW P n (.cond c x y) ⟨N, R, X, G⟩ L w := CW.condTQ hc hb ht
theorem CW.condF {c : Operand} {x y : Code} {b : Bool} (hc : evK L c = some (.bool b)) (hb : b = false) (hf : CW P n y ⟨N, R, X, G⟩ L w) : CW P n (.cond c x y) ⟨N, R, X, G⟩ L w := CW.condFQ hc hb hf
theorem CW.block {id : Nat} {c : Code} (h : CW P n c ⟨N, R, (id, N) :: X, G⟩ L w) : CW P n (.block id c) ⟨N, R, X, G⟩ L w := CW.blockQ h
theorem CW.loop {c : Code} {α : Type} (K : α → Know) (I : α → World → Prop) (μ : α → Nat) (x₀ : α) (h0 : Weak (K x₀) L) (hI : I x₀ w)
    (round : ∀ x w, I x w → CW P n c ⟨fun L' w' => ∃ x', Weak (K x') L' ∧ I x' w' ∧ μ x' < μ x, R, X, G⟩ (K x) w) : CW P n (.loop c) ⟨N, R, X, G⟩ L w := CW.loopQ K I μ x₀ h0 hI round
theorem CW.region {id : Nat} {l : List Oper} (h : RT P n l l N L w) : CW P n (.region id l.toArray false) ⟨N, R, X, G⟩ L w := CW.regionQ h
theorem CW.draw2 {id : Nat} {l : List Oper} (S1 S2 : World → Prop) (b : Nat) (p : Plan) (h12 : ∀ w, S1 w → S2 w) (hm : P.follows .mixedOrders = true) (hok : p.good2 l b = true)
    (h : RP P n l [S1, S2] p N L w.drew) : CW P n (.region id l.toArray true) ⟨N, R, X, G⟩ L w := CW.draw2Q S1 S2 b p h12 hm hok h
theorem CW.draw {id : Nat} {l : List Oper} (S : World → Prop) (p : Plan) (hm : P.follows .mixedOrders = true) (hok : p.good l = true)
    (h : RP P n l [S] p N L w.drew) : CW P n (.region id l.toArray true) ⟨N, R, X, G⟩ L w := CW.drawQ S p hm hok h
end

/-! ## Calls -/
def Ret (Φ : Value → World → Prop) : Ending → World → Prop := fun e w' => ∃ v, e = .returned v ∧ Φ v w'
/-- The call returns, and Φ holds of its result and of the world behind it. -/
def CallsV (P : Program) (f : FuncId) (args : List Value) (w : World) (Φ : Value → World → Prop) : Prop := Calls P f args.toArray w (Ret Φ)

theorem CallsV.mono {P : Program} {f : FuncId} {args : List Value} {w : World} {Φ Ψ : Value → World → Prop} (h : CallsV P f args w Φ) (hk : ∀ v w', Φ v w' → Ψ v w') : CallsV P f args w Ψ :=
  Calls.mono h fun _ w' ⟨v, he, hv⟩ => ⟨v, he, hk v w' hv⟩

/-- The function has a body of its own. -/
def Enters (P : Program) (f : FuncId) : Prop := ∀ args w, (callFunc f args).run P w = .ok (.enter f args) w

theorem Enters.of {P : Program} {f : FuncId} {fn : Func} (hf : P.funcs[f]? = some fn) (hb : fn.body.isNone = false) (hn : (fn.name == "runtime.NumGoroutine") = false) : Enters P f := fun args w => by
  have h1 : fn.name ≠ "runtime.NumGoroutine" := by simpa using hn
  have h2 : fn.body ≠ none := by intro h; rw [h] at hb; cases hb
  have hp : ∀ w, (program).run P w = .ok P w := fun _ => rfl
  simp [callFunc, hp, hf, h1, h2]

section
variable {P : Program} {n : Nat} {L : Know} {w : World} {K : Value → World → Prop}
theorem OpE.call {d : Option Nat} {f : FuncId} {xs : List Operand} {ats : Array TypeId} {ty : TypeId} {pos : String} {af : Array Edge} {g : Option (Nat × Bool)} {vs : List Value}
    (hf : Enters P f) (hx : evKs L xs = some vs) (h : CallsV P f vs w K) : OpE P n L w ⟨d, .call ⟨.value (.func f), xs.toArray, ats⟩, ty, pos, af, g⟩ K := fun a ha next Q hk => by
  have he := ha.evals hx
  have hrun : (execOp a.eval ⟨d, .call ⟨.value (.func f), xs.toArray, ats⟩, ty, pos, af, g⟩).run P w = .ok (.enter f vs.toArray) w := by
    have hm : xs.toArray.map a.eval = vs.toArray := by simp [he]
    have := hf vs.toArray w
    simp only [execOp, resolve, hm, Act.eval, Deferred.ofValue, bind, Sem.bind, pure, invoke]
    simpa [Sem.run] using this
  simp only [Oper.wp, hrun, Oper.upon]
  refine Calls.mono h fun e w' ⟨v, he', hv⟩ => ?_
  subst he'
  exact hk v w' hv

/-- A call of a function value. -/
theorem OpE.callv {d : Option Nat} {t : Nat} {f : FuncId} {cap : Array Value} {xs : List Operand} {ats : Array TypeId} {ty : TypeId} {pos : String} {af : Array Edge} {g : Option (Nat × Bool)} {vs : List Value}
    (hf : Enters P f) (ht : look L t = some (.func (.func f) #[] cap)) (hx : evKs L xs = some vs) (h : CallsV P f (vs ++ cap.toList) w K) : OpE P n L w ⟨d, .call ⟨.value (.tmp t), xs.toArray, ats⟩, ty, pos, af, g⟩ K := fun a ha next Q hk => by
  have he := ha.evals hx
  have hv : a.eval (.tmp t) = .func (.func f) #[] cap := ha.eval ht
  have hrun : (execOp a.eval ⟨d, .call ⟨.value (.tmp t), xs.toArray, ats⟩, ty, pos, af, g⟩).run P w = .ok (.enter f (vs ++ cap.toList).toArray) w := by
    have hm : xs.toArray.map a.eval = vs.toArray := by simp [he]
    have := hf (vs ++ cap.toList).toArray w
    have hc : #[] ++ vs.toArray ++ cap = (vs ++ cap.toList).toArray := by simp
    simp only [execOp, resolve, hm, hv, Deferred.ofValue, bind, Sem.bind, pure, invoke, hc]
    simpa only [Sem.run] using this
  simp only [Oper.wp, hrun, Oper.upon]
  refine Calls.mono h fun e w' ⟨v, he', hv⟩ => ?_
  subst he'
  exact hk v w' hv
end

/-- What a body must come to. -/
def PostK (P : Program) (n : Nat) (fn : Func) (Φ : Value → World → Prop) (L : Know) (w : World) : Prop := ∀ a, Fits n L a → ∃ v, (results fn a.tmps).run P w = .ok v w ∧ Φ v w

def initK : List Value → Nat → Know
  | [], _ => []
  | v :: r, i => (i, v) :: initK r (i + 1)

theorem look_initK : ∀ (l : List Value) (i t : Nat) (v : Value), look (initK l i) t = some v → i ≤ t ∧ l[t - i]? = some v
  | [], i, t, v, h => by simp [initK, look] at h
  | x :: r, i, t, v, h => by
    simp only [initK] at h
    rw [look_cons] at h
    by_cases e : i = t
    · subst e; simp at h; subst h; exact ⟨Nat.le_refl _, by simp⟩
    · simp only [e, if_false] at h
      obtain ⟨h1, h2⟩ := look_initK r (i + 1) t v h
      refine ⟨by omega, ?_⟩
      have : t - i = (t - (i + 1)) + 1 := by omega
      rw [this]; simpa using h2

theorem callsV_of {P : Program} {f : FuncId} {fn : Func} {c : Code} {args : List Value} {w : World} {Φ : Value → World → Prop} (hf : P.funcs[f]? = some fn) (hb : fn.body = some c)
    (hn : Nat.ble args.length fn.ntmps = true) (h : CW P fn.ntmps c ⟨PostK P fn.ntmps fn Φ, PostK P fn.ntmps fn Φ, [], []⟩ (initK args 0) w) : CallsV P f args w Φ := by
  refine calls_of_wp hf hb (wp_mono (h _ ⟨?_, ?_, rfl⟩) ?_)
  · have := Nat.le_of_ble_eq_true hn; simp; omega
  · intro t v hv
    obtain ⟨_, h2⟩ := look_initK args 0 t v hv
    simp only [Nat.sub_zero] at h2
    rw [Array.getElem?_append]
    have hlt : t < args.length := by
      rcases Nat.lt_or_ge t args.length with h | h
      · exact h
      · simp [List.getElem?_eq_none h] at h2
    simp [hlt] at h2 ⊢
    exact h2
  · intro e a' w' q
    cases e with
    | normal => obtain ⟨L', hL, hp⟩ := q; obtain ⟨v, hv, hΦ⟩ := hp a' hL; exact ⟨hL.defers, v, hv, v, rfl, hΦ⟩
    | ret => obtain ⟨L', hL, hp⟩ := q; obtain ⟨v, hv, hΦ⟩ := hp a' hL; exact ⟨hL.defers, v, hv, v, rfl, hΦ⟩
    | exit id => obtain ⟨L', hL, hp⟩ := q; exact hp
    | goto l => obtain ⟨L', hL, hp⟩ := q; exact hp
    | panic c => exact q.elim
    | outgrown => exact q.elim

section
variable {P : Program} {n : Nat} {fn : Func} {Φ : Value → World → Prop} {L : Know} {w : World}
theorem post0 (hr : fn.results = #[]) (h : Φ (.tuple #[]) w) : PostK P n fn Φ L w := fun _ _ => ⟨_, results_none hr _ _ _, h⟩
theorem post1 {t : Nat} {v : Value} (hr : fn.results = #[.tmp t]) (hv : look L t = some v) (h : Φ v w) : PostK P n fn Φ L w := fun a ha =>
  ⟨_, results_tmp hr _ _ _, by have := ha.slot t v hv; simpa [Array.getD_eq_getD_getElem?, this] using h⟩
theorem post2 {t u : Nat} {v x : Value} (hr : fn.results = #[.tmp t, .tmp u]) (hv : look L t = some v) (hx : look L u = some x) (h : Φ (.tuple #[v, x]) w) : PostK P n fn Φ L w := fun a ha =>
  ⟨_, results_tmp2 hr _ _ _, by have h1 := ha.slot t v hv; have h2 := ha.slot u x hx; simpa [Array.getD_eq_getD_getElem?, h1, h2] using h⟩
theorem post3 {t u s : Nat} {v x y : Value} (hr : fn.results = #[.tmp t, .tmp u, .tmp s]) (hv : look L t = some v) (hx : look L u = some x) (hy : look L s = some y) (h : Φ (.tuple #[v, x, y]) w) : PostK P n fn Φ L w := fun a ha =>
  ⟨_, results_tmp3 hr _ _ _, by have h1 := ha.slot t v hv; have h2 := ha.slot u x hx; have h3 := ha.slot s y hy; simpa [Array.getD_eq_getD_getElem?, h1, h2, h3] using h⟩
end
end Go.Kw
