/-
  KC: maps from strings to numbers that the call made, ranges over them and over strings, for the program logic of Kw. Our own text; it names no program.
-/
import Derived.Test.YtecfgjdpghddgaaGreatDoorKp
import Derived.Test.YtecfgjdpghddgaaGreatDoorM01
import Derived.MapKept
import Derived.Maps.RangeRun
import Derived.RangeFuncLeaves
import Derived.RangeFuncCalls
import Derived.RangeFuncSeq
import Derived.Laws.Concat
set_option linter.unusedVariables false
set_option linter.unusedSimpArgs false
set_option linter.unusedSectionVars false
namespace Go.Kw
open Go.RowKit Go.MapKept
abbrev MapL := List (ByteArray × Nat)
def mkeys (m : MapL) : List ByteArray := m.map (·.1)
instance (s : ByteArray) (m : MapL) : Decidable (s ∈ mkeys m) := decidable_of_iff (∃ p ∈ m, p.1 = s) (by simp [mkeys])
section
variable {P : Program} {n : Nat} {L : Know} {w w0 : World} {cs : List Chunk} {K : Value → World → Prop} {d : Option Nat} {ty : TypeId} {pos : String} {af : Array Edge} {g : Option (Nat × Bool)}
theorem Chg.any {S : List Nat} {w w' : World} (h : Chg [] w w') : Chg S w w' := ⟨h.os, h.tape, h.output, h.size, fun q hq _ => h.block q hq (by simp)⟩
theorem bytesLess_SLt : ∀ (x y : List UInt8), Op.bytesLess x y = decide (x < y)
  | [], [] => by simp [Op.bytesLess]
  | _ :: _, [] => by simp [Op.bytesLess]
  | [], _ :: _ => by simp [Op.bytesLess]
  | a :: x, b :: y => by
    have e : (a == b) = decide (a = b) := by by_cases h : a = b <;> simp [h]
    rw [Op.bytesLess, bytesLess_SLt x y, e]
    simp [List.cons_lt_cons_iff]
theorem less_SLt (a b : ByteArray) : Op.bytesLess a.toList b.toList = decide (SLt a b) := by
  rw [bytesLess_SLt, ByteArray.toList_eq, ByteArray.toList_eq]; rfl
theorem Ev.strGeq {x y : Operand} {t T : TypeId} {a b : ByteArray} (hx : evK L x = some (.string a)) (hy : evK L y = some (.string b)) : Ev P n L w ⟨d, .binOp .geq t x y T, ty, pos, af, g⟩ (.bool (decide (¬ SLt a b))) :=
  .bin hx hy (by rfl) fun w => by rw [show binOp .geq t (.string a) (.string b) = pure (.bool !(Op.bytesLess a.toList b.toList)) by simp [binOp, Op.stringOp], less_SLt]; simp
end
end Go.Kw
namespace Go.Kw
open Go.RowKit
def Mk (D : List Deferred) (a0 a : Act) : Prop := a.tmps = a0.tmps ∧ a.defers = a0.defers ++ D
theorem Mk.eval {D : List Deferred} {a0 a : Act} (h : Mk D a0 a) : a.eval = a0.eval := by
  funext x; cases x <;> simp [Act.eval, h.1]
theorem Mk.put {D : List Deferred} {a0 a : Act} (h : Mk D a0 a) (d : Option Nat) (v : Value) : Mk D (a0.put d v) (a.put d v) := by
  cases d with
  | none => exact h
  | some d => exact ⟨by simp [Act.put, h.1], h.2⟩
section
variable {P : Program} {n : Nat} {L : Know} {w : World} {K : Know → World → Prop} {ops : List Oper} {D : List Deferred}
theorem rq_out : ¬ LetsOut (RQ n K) := fun ⟨_, _, h⟩ => h
def noDefer (o : Oper) : Bool := match o.op with | .defer _ => false | _ => true
theorem noDefer_op {o : Oper} (h : noDefer o = true) : ∀ c, o.op ≠ .defer c := fun c e => by simp [noDefer, e] at h
abbrev inR (l : Nat) : Fence := Fence.wide.inRound l
theorem upon_in {o : Oper} {a : Act} {next next' : Act → World → Prop} {Q : Exit → Act → World → Prop} {F : Fence} {m : Nat} (hF : F = Fence.wide ∨ ∃ l, F = inR l) (hn : ∀ b w, next b w → next' b w) {r : Result Next}
    (H : o.upon P a next Q r) : o.uponIn F m P a next' Q r := by
  have hd : F.depth = none := by rcases hF with rfl | ⟨l, rfl⟩ <;> rfl
  have hdep : F.depth.isSome = true → 1 ≤ m := by rw [hd]; simp
  have hcall : ∀ {f args w' R}, Calls P f args w' R → CallsIn F (m - 1) P f args w' R := fun {f args w' R} h => by
    rcases hF with rfl | ⟨l, rfl⟩
    · exact callsIn_wide.2 h
    · exact CallsIn.inRound l (callsIn_wide.2 h)
  cases r with
  | ok x w' =>
    cases x with
    | value v => exact hn _ _ H
    | skip => exact hn _ _ H
    | defer d => exact hn _ _ H
    | enter f args =>
      rw [Oper.upon_enter] at H
      rw [Oper.uponIn_enter]
      refine ⟨hdep, hcall (Calls.mono H fun e w'' he => ?_)⟩
      cases e with
      | returned v => exact hn _ _ he
      | panicked c => exact he
      | outgrown => exact he
    | row row args =>
      rw [Oper.upon_row] at H
      rw [Oper.uponIn_row]
      refine ⟨hdep, fun c cs _ => ?_⟩
      obtain ⟨v, w'', hv, hs⟩ := H c cs
      refine ⟨v, w'', hn _ _ hv, ?_⟩
      rcases hF with rfl | ⟨l, rfl⟩
      · exact stepsIn_wide.2 hs
      · have : StepsIn (Machine.fenced P Fence.wide) P (lone (Frame.ofRow P row args .normal) (c :: cs) w') (lone (c.finish v) cs w'') := stepsIn_wide.2 hs
        rwa [← fenced_inRound P Fence.wide l] at this
    | _ => exact (H : False).elim
  | halt x w' =>
    cases x with
    | panic v => exact H
    | _ => exact (H : False).elim
theorem wpIn_of_wp {o : Oper} {a : Act} {next next' : Act → World → Prop} {Q : Exit → Act → World → Prop} {F : Fence} {m : Nat} (hF : F = Fence.wide ∨ ∃ l, F = inR l) (hd : noDefer o = true) (hn : ∀ b w, next b w → next' b w)
    (H : o.wp P a w next Q) : o.wpIn F m P a w next' Q := by
  refine ⟨fun f _ => by rcases hF with rfl | ⟨l, rfl⟩ <;> trivial, ?_⟩
  rw [Oper.semAt_eq _ _ _ (noDefer_op hd)]
  exact upon_in hF hn H
theorem wpListIn_of {F : Fence} {m : Nat} (hF : F = Fence.wide ∨ ∃ l, F = inR l) : ∀ (l : List Oper) (a : Act) (w : World), l.all noDefer = true → wpList P ops.toArray (RQ n K) l a w → wpListIn F m P ops.toArray (RQ n K) l a w
  | [], a, w, _, H => H
  | o :: r, a, w, hd, H => by
    rw [List.all_cons, Bool.and_eq_true] at hd
    unfold wpList at H
    unfold wpListIn
    split at H
    · rename_i hw
      rw [if_pos hw]
      rcases H with H | ⟨_, H⟩
      · exact wpIn_of_wp hF hd.1 (fun b w hb => wpListIn_of hF r b w hd.2 hb) H
      · exact absurd H rq_out
    · rename_i hw
      rw [if_neg hw]
      exact ⟨fun f _ => by rcases hF with rfl | ⟨l, rfl⟩ <;> trivial, wpListIn_of hF r _ _ hd.2 H⟩
end
def CWR (l : Nat) (P : Program) (n : Nat) (c : Code) (Q : Qs) (L : Know) (w : World) : Prop := ∀ a, Fits n L a → c.wpIn (inR l) 0 P (Lift n Q) a w
section
variable {lp : Nat} {P : Program} {n : Nat} {N R : Know → World → Prop} {X G : List (Nat × (Know → World → Prop))} {L : Know} {w : World}
theorem CWR.weaken {c : Code} {Q : Qs} (L' : Know) (hw : Weak L' L) (h : CWR lp P n c Q L' w) : CWR lp P n c Q L w := fun a ha => h a (ha.weaken hw)
theorem CWR.skip (h : N L w) : CWR lp P n .skip ⟨N, R, X, G⟩ L w := fun _ ha => wpIn_skip ⟨L, ha, h⟩
theorem CWR.ret (h : R L w) : CWR lp P n .ret ⟨N, R, X, G⟩ L w := fun _ ha => wpIn_ret ⟨L, ha, h⟩
theorem CWR.seq {x y : Code} (h : CWR lp P n x ⟨fun L w => CWR lp P n y ⟨N, R, X, G⟩ L w, R, X, G⟩ L w) : CWR lp P n (.seq x y) ⟨N, R, X, G⟩ L w := fun a ha =>
  wpIn_seq (wpIn_mono (h a ha) fun e a' w' q => by
    cases e <;> first | (obtain ⟨L', hL, hc⟩ := q; exact hc a' hL) | exact q)
theorem CWR.cond {c : Operand} {x y : Code} {b : Bool} (hc : evK L c = some (.bool b)) (ht : b = true → CWR lp P n x ⟨N, R, X, G⟩ L w) (hf : b = false → CWR lp P n y ⟨N, R, X, G⟩ L w) : CWR lp P n (.cond c x y) ⟨N, R, X, G⟩ L w :=
  fun a ha => wpIn_cond_split (ha.eval hc) (fun h => ht h a ha) (fun h => hf h a ha)
theorem CWR.condD {c : Operand} {x y : Code} {p : Prop} {dp : Decidable p} (hc : evK L c = some (.bool (@decide p dp))) (ht : p → CWR lp P n x ⟨N, R, X, G⟩ L w) (hf : ¬ p → CWR lp P n y ⟨N, R, X, G⟩ L w) : CWR lp P n (.cond c x y) ⟨N, R, X, G⟩ L w :=
  CWR.cond hc (fun h => ht (of_decide_eq_true h)) (fun h => hf (of_decide_eq_false h))
theorem CWR.block {id : Nat} {c : Code} (h : CWR lp P n c ⟨N, R, (id, N) :: X, G⟩ L w) : CWR lp P n (.block id c) ⟨N, R, X, G⟩ L w := fun a ha =>
  wpIn_block (wpIn_mono (h a ha) fun e a' w' q => by
    cases e with
    | exit id' =>
      obtain ⟨L', hL, hc⟩ := q
      simp only [lookE_cons] at hc
      simp only [Exit.inBlock]
      by_cases hid : id' = id
      · subst hid; rw [if_pos rfl] at hc ⊢; exact ⟨L', hL, hc⟩
      · rw [if_neg hid]; rw [if_neg (fun e => hid e.symm)] at hc; exact ⟨L', hL, hc⟩
    | normal => exact q
    | ret => exact q
    | goto l => exact q
    | panic c => exact q
    | outgrown => exact q)
theorem CWR.region {id : Nat} {l : List Oper} (hd : l.all noDefer = true := by rfl) (h : RT P n l l N L w) : CWR lp P n (.region id l.toArray false) ⟨N, R, X, G⟩ L w := fun a ha =>
  wpIn_mono (wpIn_region_lit (wpListIn_of (.inr ⟨lp, rfl⟩) l a w hd (h a ha))) (RQ.lift (Q := ⟨N, R, X, G⟩))
end
def YieldV (P : Program) (l : Nat) (args : List Value) (w : World) (Φ : Bool → World → Prop) : Prop :=
  YieldAt Fence.wide 0 P l args.toArray w fun e w' => ∃ b, e = .returned (.bool b) ∧ Φ b w'
def RTI (P : Program) (n : Nat) (ops : List Oper) (l : List Oper) (K : Know → World → Prop) (L : Know) (w : World) : Prop :=
  ∀ a, Fits n L a → wpListIn Fence.wide 1 P ops.toArray (RQ n K) l a w
section
variable {P : Program} {n : Nat} {Q : Qs} {L : Know} {w : World} {K : Know → World → Prop} {ops : List Oper}
theorem RTI.nil (h : K L w) : RTI P n ops [] K L w := fun _ ha => ⟨L, ha, h⟩
theorem RTI.ev {o : Oper} {r : List Oper} {v : Value} (hg : o.guard = none) (hd : okDst n o.dst = true) (he : Ev P n L w o v) (h : RTI P n ops r K (putK o.dst v L) w) (hnd : noDefer o = true := by rfl) : RTI P n ops (o :: r) K L w := fun a ha => by
  unfold wpListIn
  rw [if_pos (by simp [Region.wanted, hg])]
  refine wpIn_of_wp (.inl rfl) hnd (next := wpListIn Fence.wide 1 P ops.toArray (RQ n K) r) (fun _ _ h => h) ?_
  simp only [Oper.wp, he a ha, Oper.upon]
  exact h _ (ha.putK hd)
theorem RTI.eff {o : Oper} {r : List Oper} (hg : o.guard = none) (hd : okDst n o.dst = true) (he : OpE P n L w o fun v w' => RTI P n ops r K (putK o.dst v L) w') (hnd : noDefer o = true := by rfl) : RTI P n ops (o :: r) K L w := fun a ha => by
  unfold wpListIn
  rw [if_pos (by simp [Region.wanted, hg])]
  exact wpIn_of_wp (.inl rfl) hnd (next := wpListIn Fence.wide 1 P ops.toArray (RQ n K) r) (fun _ _ h => h) (he a ha _ _ fun v w' h => h _ (ha.putK hd))
theorem RTI.yes {o : Oper} {r : List Oper} {j d : Nat} {b b' : Bool} (hg : o.guard = some (j, b)) (hj : gdst ops j = some d) (hb : look L d = some (.bool b')) (hbb : b' = b)
    (h : RTI P n ops ({ o with guard := none } :: r) K L w) : RTI P n ops (o :: r) K L w := fun a ha => by
  subst hbb
  have h' := h a ha
  unfold wpListIn at h' ⊢
  have : Region.wanted o (yielded ops.toArray a.tmps) = true := by simp [Region.wanted, hg, ha.yielded hj hb]
  have h2 : Region.wanted { o with guard := none } (yielded ops.toArray a.tmps) = true := by simp [Region.wanted]
  simp only [this, h2, if_true] at h' ⊢
  exact h'
theorem RTI.no {o : Oper} {r : List Oper} {j d : Nat} {b b' : Bool} (hg : o.guard = some (j, b)) (hj : gdst ops j = some d) (hb : look L d = some (.bool b')) (hne : b' = !b) (hd : okDst n o.dst = true)
    (h : RTI P n ops r K (putK o.dst undef L) w) : RTI P n ops (o :: r) K L w := fun a ha => by
  have : Region.wanted o (yielded ops.toArray a.tmps) = false := by
    simp only [Region.wanted, hg, ha.yielded hj hb]
    subst hne; cases b <;> simp
  unfold wpListIn
  rw [this]
  exact ⟨fun _ _ => trivial, h _ (ha.putK hd)⟩
end
theorem YieldV.mono {P : Program} {l : Nat} {args : List Value} {w : World} {Φ Ψ : Bool → World → Prop} (h : YieldV P l args w Φ) (hk : ∀ b w', Φ b w' → Ψ b w') : YieldV P l args w Ψ := by
  obtain ⟨fn, tmps, assign, body, hy, hR⟩ := h
  exact ⟨fn, tmps, assign, body, hy, RoundIn.mono hR fun e w' ⟨b, he, hb⟩ => ⟨b, he, hk b w' hb⟩⟩
def CT (P : Program) (n : Nat) (c : Code) (M : Exit → Act → World → Prop) (L : Know) (w : World) : Prop := ∀ a, Fits n L a → c.wp P M a w
theorem CT.seq {P : Program} {n : Nat} {x y : Code} {M : Exit → Act → World → Prop} {L : Know} {w : World} (h : CW P n x ⟨fun L w => CT P n y M L w, fun _ _ => False, [], []⟩ L w) : CT P n (.seq x y) M L w := fun a ha =>
  wp_seq (wp_mono (h a ha) fun e a' w' q => by
    cases e with
    | normal => obtain ⟨L', hL, hc⟩ := q; exact hc a' hL
    | ret => obtain ⟨L', hL, hc⟩ := q; exact hc.elim
    | exit id => obtain ⟨L', hL, hc⟩ := q; exact (hc : False).elim
    | goto l => obtain ⟨L', hL, hc⟩ := q; exact (hc : False).elim
    | panic c => exact (q : False).elim
    | outgrown => exact (q : False).elim)
def cPure (p : Prop) : Chunk := ⟨[], fun _ => p, fun _ _ _ h => h⟩
theorem Sat.pure {w0 w : World} {cs : List Chunk} {p : Prop} (h : Sat w0 cs w) (hp : p) : Sat w0 (cPure p :: cs) w :=
  ⟨h.old, fun c hc => by
    rcases List.mem_cons.1 hc with rfl | hc
    · exact ⟨hp, fun k hk => (by cases hk)⟩
    · exact h.holds c hc, List.pairwise_cons.2 ⟨fun d _ k hk => (by cases hk), h.apart⟩⟩
section
variable {P : Program} {n : Nat} {L : Know} {w : World} {d : Option Nat} {ty : TypeId} {pos : String} {af : Array Edge} {g : Option (Nat × Bool)}
end
theorem bsz (s : ByteArray) : s.data.toList.length = s.size := Array.length_toList
end Go.Kw
namespace Go.Kw
open Go.RowKit
section
variable {P : Program} {n : Nat} {L : Know} {w : World} {d : Option Nat} {x y : Operand} {xt yt ty : TypeId} {g : Option (Nat × Bool)} {k : IntKind}
theorem Ev.ldObj {w0 : World} {cs : List Chunk} {pos : String} {af : Array Edge} {T i b : Nat} {U : TypeId} {cells : List Value} {m : Nat} (hT : aggB P T m = true) (hx : evK L x = some (.pointer (some ⟨b, 0, none⟩))) (hs : Sat w0 cs w) (hi : cs[i]? = some (cObj b U cells)) (hm : cells.length = m) :
    Ev P n L w ⟨d, .load T x, ty, pos, af, g⟩ (.agg cells.toArray) := .of fun ρ hρ => by
  subst hm
  have hl := run_loadCells_list (P := P) w ⟨b, 0, none⟩ cells (fun q u hu => by rw [Addr.add_lit, Nat.zero_add]; exact hs.cell hi hu)
  have hag : (isAgg T).run P w = .ok true w := by
    unfold aggB at hT
    cases hun : P.underlying T with
    | none => simp [hun] at hT
    | some D => cases D <;> simp [hun] at hT <;> simp [isAgg, run_underlying hun, go_sem]
  have hsz : (sizeOf T).run P w = .ok cells.length w := by
    unfold aggB at hT
    cases hin : P.info? T with
    | none => simp [hin] at hT
    | some inf => simp [hin] at hT; simp [sizeOf, typeInfo, hin, hT.2, go_sem]
  have hld : (Instr.loadAt T (ρ x)).run P w = .ok (.agg cells.toArray) w := by
    simp only [Instr.loadAt, loadVar, hρ hx, Instr.sureAddr, Sem.run_bind, Sem.run_pure, Result.andThen_ok, hag, hsz, hl, if_true]
  simp only [execOp, Sem.run_bind, hld, Result.andThen_ok, Sem.run_pure]
end
end Go.Kw
namespace Go.Kw
open Go.RowKit
section
variable {α : Type} {E : Enc α} {P : Program} {n : Nat} {L : Know} {w w0 : World} {cs : List Chunk} {K : Value → World → Prop} {d : Option Nat} {ty : TypeId} {pos : String} {af : Array Edge} {g : Option (Nat × Bool)}
end
structure RU where
  r : Nat
  at_ : Nat
  size : Nat
  ok : Bool
def strB (s : ByteArray) : List Nat := s.data.toList.map fun b => b.toNat
theorem strB_length (s : ByteArray) : (strB s).length = s.size := by unfold strB; rw [List.length_map, bsz]
theorem strB_lt (s : ByteArray) : ∀ x ∈ strB s, x < 256 := fun x hx => by
  obtain ⟨b, _, rfl⟩ := List.mem_map.1 hx; exact b.toNat_lt
theorem srcStr {P : Program} {tx : TypeId} {w : World} (hk : P.underlying tx = some .string) (s : ByteArray) : Src P 1 tx (.string s) (strB s).length ((encN .u8).all (strB s)) w := by
  have h := Src.ofString w hk s
  have e : (encN .u8).all (strB s) = byteCells s := by
    unfold strB byteCells
    generalize s.data.toList = l
    induction l with
    | nil => rfl
    | cons b l ih => rw [List.map_cons, List.map_cons, Enc.all_cons, ih]; rfl
  rw [e, strB_length]; exact h
theorem strOf_bytes (l : List UInt8) : strOf (l.map fun b => b.toNat) = ⟨l.toArray⟩ := by
  apply bytes_ext
  simp [strOf, List.map_map, Function.comp_def]
theorem Ev.strAdd {P : Program} {n : Nat} {L : Know} {w : World} {d : Option Nat} {ty : TypeId} {pos : String} {af : Array Edge} {g : Option (Nat × Bool)} {x y : Operand} {t T : TypeId} {a b : ByteArray}
    (hx : evK L x = some (.string a)) (hy : evK L y = some (.string b)) (h : a.size + b.size ≤ 9223372036854775807) : Ev P n L w ⟨d, .binOp .add t x y T, ty, pos, af, g⟩ (.string (a ++ b)) :=
  .bin hx hy (by rfl) fun w => by rw [binOp_string_add]; exact run_string_add_sum w a b h
end Go.Kw
