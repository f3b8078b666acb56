/-
  KE: what each kind of operation evaluates to, for the program logic of Kw. Our own text; it names no program.
-/
import Derived.Test.YtfhbflhnelbkfaaKw
set_option linter.unusedSimpArgs false
set_option linter.unusedVariables false
set_option linter.unusedSectionVars false
namespace Go.Kw
open Go.RowKit

section
variable {P : Program} {n : Nat} {L : Know} {w : World} {d : Option Nat} {ty : TypeId} {pos : String} {af : Array Edge} {g : Option (Nat × Bool)}

theorem Ev.of {o : Oper} {v : Value} (h : ∀ ρ : Operand → Value, (∀ {x u}, evK L x = some u → ρ x = u) → (execOp ρ o).run P w = .ok (.value v) w) : Ev P n L w o v := fun a ha => h a.eval fun hx => ha.eval hx

theorem Ev.move {x : Operand} {v : Value} (hx : evK L x = some v) : Ev P n L w ⟨d, .move x, ty, pos, af, g⟩ v := .of fun ρ hρ => by
  simp [execOp, hρ hx, go_sem]
theorem Ev.assign {x : Operand} {v : Value} (hx : evK L x = some v) : Ev P n L w ⟨d, .assign x, ty, pos, af, g⟩ v := .of fun ρ hρ => by
  simp [execOp, hρ hx, go_sem]
theorem Ev.pickT {c x y : Operand} {v : Value} (hc : evK L c = some (.bool true)) (hx : evK L x = some v) : Ev P n L w ⟨d, .pick c x y, ty, pos, af, g⟩ v := .of fun ρ hρ => by
  simp [execOp, hρ hx, hρ hc, go_sem]
theorem Ev.pickF {c x y : Operand} {v : Value} (hc : evK L c = some (.bool false)) (hy : evK L y = some v) : Ev P n L w ⟨d, .pick c x y, ty, pos, af, g⟩ v := .of fun ρ hρ => by
  simp [execOp, hρ hy, hρ hc, go_sem]
theorem Ev.pickY {c x y : Operand} {v : Value} {b : Bool} (hc : evK L c = some (.bool b)) (hb : b = true) (hx : evK L x = some v) : Ev P n L w ⟨d, .pick c x y, ty, pos, af, g⟩ v := Ev.pickT (hb ▸ hc) hx
theorem Ev.pickN {c x y : Operand} {v : Value} {b : Bool} (hc : evK L c = some (.bool b)) (hb : b = false) (hy : evK L y = some v) : Ev P n L w ⟨d, .pick c x y, ty, pos, af, g⟩ v := Ev.pickF (hb ▸ hc) hy
theorem Ev.nilCheck {x : Operand} {p : Addr} (hx : evK L x = some (.pointer (some p))) : Ev P n L w ⟨d, .nilCheck x, ty, pos, af, g⟩ (.pointer (some p)) := .of fun ρ hρ => by
  simp [execOp, hρ hx, go_sem]
theorem Ev.extract {x : Operand} {i : Nat} {vs : Array Value} {v : Value} (hx : evK L x = some (.tuple vs)) (hv : vs[i]? = some v) : Ev P n L w ⟨d, .extract x i, ty, pos, af, g⟩ v := .of fun ρ hρ => by
  simp [execOp, hρ hx, Instr.extract, hv, go_sem]

/-! ### Integers -/
def inI64 (z : Int) : Prop := -9223372036854775808 ≤ z ∧ z ≤ 9223372036854775807
theorem wrap_i64 {z : Int} (h : inI64 z) : IntKind.i64.wrap z = z := IntWalk.i64_in _ h

section ints
variable {x y : Operand} {k : IntKind} {a b : Int} {xt yt : TypeId}

theorem Ev.bin {op : BinOp} {u v r : Value} (hx : evK L x = some u) (hy : evK L y = some v) (hg : eqGuard op xt x y u v = pure ()) (hr : ∀ w : World, (binOp op xt u v).run P w = .ok r w) :
    Ev P n L w ⟨d, .binOp op xt x y yt, ty, pos, af, g⟩ r := .of fun ρ hρ => by
  simp only [execOp, hρ hx, hρ hy, hg]
  simp [go_sem, hr]

theorem Ev.add (hx : evK L x = some (.int .i64 a)) (hy : evK L y = some (.int .i64 b)) (h : inI64 (a + b)) : Ev P n L w ⟨d, .binOp .add xt x y yt, ty, pos, af, g⟩ (.int .i64 (a + b)) :=
  .bin hx hy (eqGuard_at_int ..) fun w => by simp [go_sem, Op.intArith, wrap_i64 h]
theorem Ev.sub (hx : evK L x = some (.int .i64 a)) (hy : evK L y = some (.int .i64 b)) (h : inI64 (a - b)) : Ev P n L w ⟨d, .binOp .sub xt x y yt, ty, pos, af, g⟩ (.int .i64 (a - b)) :=
  .bin hx hy (eqGuard_at_int ..) fun w => by simp [go_sem, Op.intArith, wrap_i64 h]
theorem Ev.mul (hx : evK L x = some (.int .i64 a)) (hy : evK L y = some (.int .i64 b)) (h : inI64 (a * b)) : Ev P n L w ⟨d, .binOp .mul xt x y yt, ty, pos, af, g⟩ (.int .i64 (a * b)) :=
  .bin hx hy (eqGuard_at_int ..) fun w => by simp [go_sem, Op.intArith, wrap_i64 h]
theorem Ev.addW (hx : evK L x = some (.int k a)) (hy : evK L y = some (.int k b)) : Ev P n L w ⟨d, .binOp .add xt x y yt, ty, pos, af, g⟩ (.int k (k.wrap (a + b))) :=
  .bin hx hy (eqGuard_at_int ..) fun w => by simp [go_sem, Op.intArith]
theorem Ev.subW (hx : evK L x = some (.int k a)) (hy : evK L y = some (.int k b)) : Ev P n L w ⟨d, .binOp .sub xt x y yt, ty, pos, af, g⟩ (.int k (k.wrap (a - b))) :=
  .bin hx hy (eqGuard_at_int ..) fun w => by simp [go_sem, Op.intArith]
theorem Ev.mulW (hx : evK L x = some (.int k a)) (hy : evK L y = some (.int k b)) : Ev P n L w ⟨d, .binOp .mul xt x y yt, ty, pos, af, g⟩ (.int k (k.wrap (a * b))) :=
  .bin hx hy (eqGuard_at_int ..) fun w => by simp [go_sem, Op.intArith]
theorem Ev.lss (hx : evK L x = some (.int k a)) (hy : evK L y = some (.int k b)) : Ev P n L w ⟨d, .binOp .lss xt x y yt, ty, pos, af, g⟩ (.bool (decide (a < b))) :=
  .bin hx hy (eqGuard_at_int ..) fun w => by simp [go_sem]
theorem Ev.leq (hx : evK L x = some (.int k a)) (hy : evK L y = some (.int k b)) : Ev P n L w ⟨d, .binOp .leq xt x y yt, ty, pos, af, g⟩ (.bool (decide (a ≤ b))) :=
  .bin hx hy (eqGuard_at_int ..) fun w => by simp [go_sem]
theorem Ev.gtr (hx : evK L x = some (.int k a)) (hy : evK L y = some (.int k b)) : Ev P n L w ⟨d, .binOp .gtr xt x y yt, ty, pos, af, g⟩ (.bool (decide (b < a))) :=
  .bin hx hy (eqGuard_at_int ..) fun w => by simp [go_sem]
theorem Ev.geq (hx : evK L x = some (.int k a)) (hy : evK L y = some (.int k b)) : Ev P n L w ⟨d, .binOp .geq xt x y yt, ty, pos, af, g⟩ (.bool (decide (b ≤ a))) :=
  .bin hx hy (eqGuard_at_int ..) fun w => by simp [go_sem]
theorem Ev.eql (hx : evK L x = some (.int k a)) (hy : evK L y = some (.int k b)) : Ev P n L w ⟨d, .binOp .eql xt x y yt, ty, pos, af, g⟩ (.bool (decide (a = b))) :=
  .bin hx hy (eqGuard_at_int ..) fun w => by simp [go_sem]; rfl
theorem Ev.neq (hx : evK L x = some (.int k a)) (hy : evK L y = some (.int k b)) : Ev P n L w ⟨d, .binOp .neq xt x y yt, ty, pos, af, g⟩ (.bool (decide (a ≠ b))) :=
  .bin hx hy (eqGuard_at_int ..) fun w => by simp [go_sem]; rfl
/-- Division of numbers that are not negative. -/
theorem Ev.quo {a b : Nat} (hx : evK L x = some (.int .i64 (a : Int))) (hy : evK L y = some (.int .i64 (b : Int))) (hb : 0 < b) (h : inI64 a) : Ev P n L w ⟨d, .binOp .quo xt x y yt, ty, pos, af, g⟩ (.int .i64 ((a / b : Nat) : Int)) :=
  .bin hx hy (eqGuard_at_int ..) fun w => by
    have h0 : (b : Int) ≠ 0 := by omega
    have h1 : ((a : Int).tdiv (b : Int)) = ((a / b : Nat) : Int) := by rw [Int.tdiv_eq_ediv_of_nonneg (by omega)]; simp
    have h2 : IntKind.i64.wrap ((a / b : Nat) : Int) = ((a / b : Nat) : Int) := by
      have h3 := Nat.div_le_self a b
      have h4 := h.2
      generalize a / b = q at *
      exact wrap_i64 ⟨by omega, by omega⟩
    simp only [binOp, Op.intDiv, h0, if_false, h1, h2, go_sem]
    simp [go_sem]
theorem Ev.rem {a b : Nat} (hx : evK L x = some (.int k (a : Int))) (hy : evK L y = some (.int k (b : Int))) (hb : 0 < b) : Ev P n L w ⟨d, .binOp .rem xt x y yt, ty, pos, af, g⟩ (.int k ((a % b : Nat) : Int)) :=
  .bin hx hy (eqGuard_at_int ..) fun w => by
    have h0 : (b : Int) ≠ 0 := by omega
    have h1 : ((a : Int).tmod (b : Int)) = ((a % b : Nat) : Int) := by rw [Int.tmod_eq_emod_of_nonneg (by omega)]; simp
    simp only [binOp, Op.intDiv, h0, if_false, h1, go_sem]
    simp [go_sem]

end ints
end

/-! ### Bits of numbers that are not negative -/
theorem wrap_u {k : IntKind} (hk : k.signed = false) {a : Nat} (h : a < 2 ^ k.bits) : k.wrap (a : Int) = a := by
  have h2 : ((a : Int)) < ((2 ^ k.bits : Nat) : Int) := by omega
  simp only [IntKind.wrap, hk, Bool.false_and, Bool.false_eq_true, if_false]
  have : ((2 : Int) ^ k.bits) = ((2 ^ k.bits : Nat) : Int) := by norm_cast
  rw [this, ← Int.natCast_emod, Nat.mod_eq_of_lt h]
theorem or_nat {P : Program} {k : IntKind} (hk : k.signed = false) {a b : Nat} (ha : a < 2 ^ k.bits) (hb : b < 2 ^ k.bits) (w : World) : (Op.intBits .or k a b).run P w = .ok (.int k ((a ||| b : Nat) : Int)) w := by
  have := wrap_u hk (Nat.or_lt_two_pow ha hb)
  simp only [Op.intBits, BitVec.ofInt_natCast, BitVec.toNat_or, BitVec.toNat_ofNat, Nat.mod_eq_of_lt ha, Nat.mod_eq_of_lt hb, this]
  rfl
theorem xor_nat {P : Program} {k : IntKind} (hk : k.signed = false) {a b : Nat} (ha : a < 2 ^ k.bits) (hb : b < 2 ^ k.bits) (w : World) : (Op.intBits .xor k a b).run P w = .ok (.int k ((a ^^^ b : Nat) : Int)) w := by
  have := wrap_u hk (Nat.xor_lt_two_pow ha hb)
  simp only [Op.intBits, BitVec.ofInt_natCast, BitVec.toNat_xor, BitVec.toNat_ofNat, Nat.mod_eq_of_lt ha, Nat.mod_eq_of_lt hb, this]
  rfl
theorem and_nat {P : Program} {k : IntKind} (hk : k.signed = false) {a b : Nat} (ha : a < 2 ^ k.bits) (hb : b < 2 ^ k.bits) (w : World) : (Op.intBits .and k a b).run P w = .ok (.int k ((a &&& b : Nat) : Int)) w := by
  have := wrap_u hk (Nat.and_lt_two_pow a hb)
  simp only [Op.intBits, BitVec.ofInt_natCast, BitVec.toNat_and, BitVec.toNat_ofNat, Nat.mod_eq_of_lt ha, Nat.mod_eq_of_lt hb, this]
  rfl
theorem wrap_i {a : Nat} (h : a < 2 ^ 63) : IntKind.i64.wrap (a : Int) = a := IntWalk.i64_in _ ⟨by omega, by omega⟩
theorem ori_nat {P : Program} {a b : Nat} (ha : a < 2 ^ 63) (hb : b < 2 ^ 63) (w : World) : (Op.intBits .or .i64 a b).run P w = .ok (.int .i64 ((a ||| b : Nat) : Int)) w := by
  have := wrap_i (Nat.or_lt_two_pow ha hb)
  have ha' : a < 2 ^ IntKind.i64.bits := by simp only [IntKind.bits]; omega
  have hb' : b < 2 ^ IntKind.i64.bits := by simp only [IntKind.bits]; omega
  simp only [Op.intBits, BitVec.ofInt_natCast, BitVec.toNat_or, BitVec.toNat_ofNat, Nat.mod_eq_of_lt ha', Nat.mod_eq_of_lt hb', this]
  rfl
theorem shr_nat {P : Program} {k yk : IntKind} {a b : Nat} (ha : a < 2 ^ k.bits) (w : World) : (Op.shift .shr k a yk b).run P w = .ok (.int k ((a / 2 ^ b : Nat) : Int)) w := by
  have h1 : ((a : Int).fdiv (2 ^ (min b k.bits))) = ((a / 2 ^ b : Nat) : Int) := by
    have e : ((2 : Int) ^ (min b k.bits)) = ((2 ^ (min b k.bits) : Nat) : Int) := by norm_cast
    rw [e, Int.fdiv_eq_ediv_of_nonneg _ (Int.natCast_nonneg _), ← Int.natCast_ediv]
    congr 1
    rcases Nat.le_total b k.bits with h | h
    · rw [Nat.min_eq_left h]
    · rw [Nat.min_eq_right h, Nat.div_eq_of_lt ha, Nat.div_eq_of_lt (Nat.lt_of_lt_of_le ha (Nat.pow_le_pow_right (by decide) h))]
  have h0 : ¬ ((b : Int) < 0) := by omega
  simp only [Op.shift, h0, if_false, Int.toNat_natCast, h1]
  rfl
theorem shl_nat {P : Program} {k yk : IntKind} {a b : Nat} (hb : b ≤ k.bits) (w : World) : (Op.shift .shl k a yk b).run P w = .ok (.int k (k.wrap ((a * 2 ^ b : Nat) : Int))) w := by
  have h0 : ¬ ((b : Int) < 0) := by omega
  have e : ((a : Int) * 2 ^ b) = ((a * 2 ^ b : Nat) : Int) := by push_cast; rfl
  simp only [Op.shift, h0, if_false, Int.toNat_natCast, Nat.min_eq_left hb, e]
  rfl
theorem wrap_unat {k : IntKind} (hk : k.signed = false) (a : Nat) : k.wrap (a : Int) = ((a % 2 ^ k.bits : Nat) : Int) := by
  simp only [IntKind.wrap, hk, Bool.false_and, Bool.false_eq_true, if_false]
  have : ((2 : Int) ^ k.bits) = ((2 ^ k.bits : Nat) : Int) := by norm_cast
  rw [this, ← Int.natCast_emod]

section
variable {P : Program} {n : Nat} {L : Know} {w : World} {d : Option Nat} {ty : TypeId} {pos : String} {af : Array Edge} {g : Option (Nat × Bool)} {x y : Operand} {k : IntKind} {xt yt : TypeId}
theorem Ev.orN {a b : Nat} (hx : evK L x = some (.int k (a : Int))) (hy : evK L y = some (.int k (b : Int))) (hk : k.signed = false) (ha : a < 2 ^ k.bits) (hb : b < 2 ^ k.bits) : Ev P n L w ⟨d, .binOp .or xt x y yt, ty, pos, af, g⟩ (.int k ((a ||| b : Nat) : Int)) :=
  .bin hx hy (eqGuard_at_int ..) fun w => by rw [binOp_or]; exact or_nat hk ha hb w
theorem Ev.andN {a b : Nat} (hx : evK L x = some (.int k (a : Int))) (hy : evK L y = some (.int k (b : Int))) (hk : k.signed = false) (ha : a < 2 ^ k.bits) (hb : b < 2 ^ k.bits) : Ev P n L w ⟨d, .binOp .and xt x y yt, ty, pos, af, g⟩ (.int k ((a &&& b : Nat) : Int)) :=
  .bin hx hy (eqGuard_at_int ..) fun w => by rw [binOp_and]; exact and_nat hk ha hb w
theorem Ev.xorN {a b : Nat} (hx : evK L x = some (.int k (a : Int))) (hy : evK L y = some (.int k (b : Int))) (hk : k.signed = false) (ha : a < 2 ^ k.bits) (hb : b < 2 ^ k.bits) : Ev P n L w ⟨d, .binOp .xor xt x y yt, ty, pos, af, g⟩ (.int k ((a ^^^ b : Nat) : Int)) :=
  .bin hx hy (eqGuard_at_int ..) fun w => by rw [binOp_xor]; exact xor_nat hk ha hb w
theorem Ev.orI {a b : Nat} (hx : evK L x = some (.int .i64 (a : Int))) (hy : evK L y = some (.int .i64 (b : Int))) (ha : a < 2 ^ 63) (hb : b < 2 ^ 63) : Ev P n L w ⟨d, .binOp .or xt x y yt, ty, pos, af, g⟩ (.int .i64 ((a ||| b : Nat) : Int)) :=
  .bin hx hy (eqGuard_at_int ..) fun w => by rw [binOp_or]; exact ori_nat ha hb w
theorem Ev.shrN {k' : IntKind} {a b : Nat} (hx : evK L x = some (.int k (a : Int))) (hy : evK L y = some (.int k' (b : Int))) (ha : a < 2 ^ k.bits) : Ev P n L w ⟨d, .binOp .shr xt x y yt, ty, pos, af, g⟩ (.int k ((a / 2 ^ b : Nat) : Int)) :=
  .bin hx hy (eqGuard_at_int ..) fun w => by rw [binOp_shr]; exact shr_nat ha w
theorem Ev.shlN {k' : IntKind} {a b : Nat} (hx : evK L x = some (.int k (a : Int))) (hy : evK L y = some (.int k' (b : Int))) (hk : k.signed = false) (hb : b ≤ k.bits) : Ev P n L w ⟨d, .binOp .shl xt x y yt, ty, pos, af, g⟩ (.int k ((a * 2 ^ b % 2 ^ k.bits : Nat) : Int)) :=
  .bin hx hy (eqGuard_at_int ..) fun w => by rw [binOp_shl, shl_nat hb, wrap_unat hk]
theorem Ev.shlI {k' : IntKind} {a b : Nat} (hx : evK L x = some (.int .i64 (a : Int))) (hy : evK L y = some (.int k' (b : Int))) (hb : b ≤ 64) (hr : a * 2 ^ b < 2 ^ 63) : Ev P n L w ⟨d, .binOp .shl xt x y yt, ty, pos, af, g⟩ (.int .i64 ((a * 2 ^ b : Nat) : Int)) :=
  .bin hx hy (eqGuard_at_int ..) fun w => by rw [binOp_shl, shl_nat (by simpa [IntKind.bits] using hb), wrap_i hr]
/-- The unsigned sum, difference, product. -/
theorem Ev.addN {a b : Nat} (hx : evK L x = some (.int k (a : Int))) (hy : evK L y = some (.int k (b : Int))) (hk : k.signed = false) : Ev P n L w ⟨d, .binOp .add xt x y yt, ty, pos, af, g⟩ (.int k (((a + b) % 2 ^ k.bits : Nat) : Int)) := by
  have := Ev.addW (P := P) (n := n) (w := w) (d := d) (xt := xt) (yt := yt) (ty := ty) (pos := pos) (af := af) (g := g) hx hy
  rwa [← Int.natCast_add, wrap_unat hk] at this
theorem Ev.subN {a b : Nat} (hx : evK L x = some (.int k (a : Int))) (hy : evK L y = some (.int k (b : Int))) (hk : k.signed = false) (hba : b ≤ a) (ha : a < 2 ^ k.bits) : Ev P n L w ⟨d, .binOp .sub xt x y yt, ty, pos, af, g⟩ (.int k ((a - b : Nat) : Int)) := by
  have := Ev.subW (P := P) (n := n) (w := w) (d := d) (xt := xt) (yt := yt) (ty := ty) (pos := pos) (af := af) (g := g) hx hy
  rwa [← Int.natCast_sub hba, wrap_u hk (by omega)] at this
theorem Ev.notB {b : Bool} (hx : evK L x = some (.bool b)) : Ev P n L w ⟨d, .unOp .not xt x, ty, pos, af, g⟩ (.bool (!b)) := .of fun ρ hρ => by
  simp [execOp, hρ hx, Op.unary, go_sem]
theorem run_convI {s t : TypeId} {k' : IntKind} {a : Int} (hs : (P.underlying s).isSome = true) (ht : P.underlying t = some (.int k')) (w : World) : (convert s t (.int k a)).run P w = .ok (.int k' (k'.wrap a)) w := by
  obtain ⟨d, hd'⟩ := Option.isSome_iff_exists.mp hs
  simp [convert, run_underlying hd', run_underlying ht, Conv.intToInt]
/-- A conversion among integer types, the number kept. -/
theorem Ev.convK {s t : TypeId} {k' : IntKind} {a : Int} (hs : (P.underlying s).isSome = true) (ht : P.underlying t = some (.int k')) (hx : evK L x = some (.int k a)) (ha : k'.wrap a = a) : Ev P n L w ⟨d, .convert s t x, ty, pos, af, g⟩ (.int k' a) := .of fun ρ hρ => by
  simp only [execOp, hρ hx, Sem.run_bind, run_convI hs ht, ha, Result.andThen_ok, Sem.run_pure]
theorem Ev.convN {s t : TypeId} {k' : IntKind} {a : Nat} (hs : (P.underlying s).isSome = true) (ht : P.underlying t = some (.int k')) (hx : evK L x = some (.int k (a : Int))) (hk : k'.signed = false) : Ev P n L w ⟨d, .convert s t x, ty, pos, af, g⟩ (.int k' ((a % 2 ^ k'.bits : Nat) : Int)) := .of fun ρ hρ => by
  simp only [execOp, hρ hx, Sem.run_bind, run_convI hs ht, wrap_unat hk, Result.andThen_ok, Sem.run_pure]
/-! int's arithmetic on numbers that are not negative: the results as casts -/
theorem Ev.addI {a b : Nat} (hx : evK L x = some (.int .i64 (a : Int))) (hy : evK L y = some (.int .i64 (b : Int))) (h : a + b ≤ 9223372036854775807) : Ev P n L w ⟨d, .binOp .add xt x y yt, ty, pos, af, g⟩ (.int .i64 ((a + b : Nat) : Int)) := by
  have := Ev.add (P := P) (n := n) (w := w) (d := d) (xt := xt) (yt := yt) (ty := ty) (pos := pos) (af := af) (g := g) hx hy ⟨by omega, by omega⟩
  rwa [← Int.natCast_add] at this
theorem Ev.subI {a b : Nat} (hx : evK L x = some (.int .i64 (a : Int))) (hy : evK L y = some (.int .i64 (b : Int))) (hba : b ≤ a) (h : a ≤ 9223372036854775807) : Ev P n L w ⟨d, .binOp .sub xt x y yt, ty, pos, af, g⟩ (.int .i64 ((a - b : Nat) : Int)) := by
  have := Ev.sub (P := P) (n := n) (w := w) (d := d) (xt := xt) (yt := yt) (ty := ty) (pos := pos) (af := af) (g := g) hx hy ⟨by omega, by omega⟩
  rwa [← Int.natCast_sub hba] at this
theorem Ev.mulI {a b : Nat} (hx : evK L x = some (.int .i64 (a : Int))) (hy : evK L y = some (.int .i64 (b : Int))) (h : a * b ≤ 9223372036854775807) : Ev P n L w ⟨d, .binOp .mul xt x y yt, ty, pos, af, g⟩ (.int .i64 ((a * b : Nat) : Int)) := by
  have := Ev.mul (P := P) (n := n) (w := w) (d := d) (xt := xt) (yt := yt) (ty := ty) (pos := pos) (af := af) (g := g) hx hy (by rw [← Int.natCast_mul]; exact ⟨by omega, by omega⟩)
  rwa [← Int.natCast_mul] at this
/-! comparisons of such numbers -/
theorem Ev.lssN {a b : Nat} (hx : evK L x = some (.int k (a : Int))) (hy : evK L y = some (.int k (b : Int))) : Ev P n L w ⟨d, .binOp .lss xt x y yt, ty, pos, af, g⟩ (.bool (decide (a < b))) := by
  have := Ev.lss (P := P) (n := n) (w := w) (d := d) (xt := xt) (yt := yt) (ty := ty) (pos := pos) (af := af) (g := g) hx hy
  simpa only [Int.ofNat_lt] using this
theorem Ev.leqN {a b : Nat} (hx : evK L x = some (.int k (a : Int))) (hy : evK L y = some (.int k (b : Int))) : Ev P n L w ⟨d, .binOp .leq xt x y yt, ty, pos, af, g⟩ (.bool (decide (a ≤ b))) := by
  have := Ev.leq (P := P) (n := n) (w := w) (d := d) (xt := xt) (yt := yt) (ty := ty) (pos := pos) (af := af) (g := g) hx hy
  simpa only [Int.ofNat_le] using this
theorem Ev.gtrN {a b : Nat} (hx : evK L x = some (.int k (a : Int))) (hy : evK L y = some (.int k (b : Int))) : Ev P n L w ⟨d, .binOp .gtr xt x y yt, ty, pos, af, g⟩ (.bool (decide (b < a))) := by
  have := Ev.gtr (P := P) (n := n) (w := w) (d := d) (xt := xt) (yt := yt) (ty := ty) (pos := pos) (af := af) (g := g) hx hy
  simpa only [Int.ofNat_lt] using this
theorem Ev.geqN {a b : Nat} (hx : evK L x = some (.int k (a : Int))) (hy : evK L y = some (.int k (b : Int))) : Ev P n L w ⟨d, .binOp .geq xt x y yt, ty, pos, af, g⟩ (.bool (decide (b ≤ a))) := by
  have := Ev.geq (P := P) (n := n) (w := w) (d := d) (xt := xt) (yt := yt) (ty := ty) (pos := pos) (af := af) (g := g) hx hy
  simpa only [Int.ofNat_le] using this
theorem Ev.eqlN {a b : Nat} (hx : evK L x = some (.int k (a : Int))) (hy : evK L y = some (.int k (b : Int))) : Ev P n L w ⟨d, .binOp .eql xt x y yt, ty, pos, af, g⟩ (.bool (decide (a = b))) := by
  have := Ev.eql (P := P) (n := n) (w := w) (d := d) (xt := xt) (yt := yt) (ty := ty) (pos := pos) (af := af) (g := g) hx hy
  simpa only [Int.ofNat_inj] using this
theorem Ev.neqN {a b : Nat} (hx : evK L x = some (.int k (a : Int))) (hy : evK L y = some (.int k (b : Int))) : Ev P n L w ⟨d, .binOp .neq xt x y yt, ty, pos, af, g⟩ (.bool (decide (a ≠ b))) := by
  have := Ev.neq (P := P) (n := n) (w := w) (d := d) (xt := xt) (yt := yt) (ty := ty) (pos := pos) (af := af) (g := g) hx hy
  simpa only [ne_eq, Int.ofNat_inj] using this
theorem Ev.notP {p : Prop} {dp : Decidable p} (hx : evK L x = some (.bool (@decide p dp))) : Ev P n L w ⟨d, .unOp .not xt x, ty, pos, af, g⟩ (.bool (decide (¬ p))) := by
  have := Ev.notB (P := P) (n := n) (w := w) (d := d) (xt := xt) (ty := ty) (pos := pos) (af := af) (g := g) hx
  simpa only [decide_not] using this
end
end Go.Kw
