/-
  LD: how a store among the arguments reads; what the laid variables hold. Our own text.
-/
import Derived.Test.YtecfgjdpghddgaaGreatDoorLw
import Derived.Test.YtecfgjdpghddgaaGreatDoorKp
import Derived.Test.YtecfgjdpghddgaaGreatDoorKy
import Derived.Test.YtecfgjdpghddgaaGreatDoorShelf
import Derived.Stop.LaidErr
import Derived.Lay
set_option linter.unusedVariables false
set_option linter.unusedSimpArgs false
set_option linter.unusedSectionVars false
namespace Go.Proofs.YtecfgjdpghddgaaGreatDoor
set_option maxRecDepth 100000
open Go.ChangeShapes Go.WideShapes Go.ChangeAt Go.RowKit Go.Kw
section
variable {H : Type} {enc : TypeId × Value → H} {W : World}
theorem cl3 : Tryz.prog.cellsOf 3 = 1 := by kernel_rfl
theorem cl4 : Tryz.prog.cellsOf 4 = 1 := by kernel_rfl
theorem cl9 : Tryz.prog.cellsOf 9 = 1 := by kernel_rfl
theorem clA : Tryz.prog.cellsOf 70 = 2 := by kernel_rfl
theorem clP : Tryz.prog.cellsOf 72 = 2 := by kernel_rfl
theorem clS : Tryz.prog.cellsOf 61 = 1 := by kernel_rfl
theorem clSA : Tryz.prog.cellsOf 23 = 1 := by kernel_rfl
theorem clSP : Tryz.prog.cellsOf 24 = 1 := by kernel_rfl
theorem clSR : Tryz.prog.cellsOf 25 = 1 := by kernel_rfl
theorem clST : Tryz.prog.cellsOf 27 = 5 := by kernel_rfl
theorem opens_at : Opens enc Tryz.prog W 70 encAt fun _ => True := fun fuel cs x h => by
  obtain ⟨xs, n, _, _, hl, hxl, hf⟩ := DataW.trod_struct Tryz.underlying70 h
  rw [clA] at hl
  match cs, hl with
  | [c0, c1], _ =>
    obtain ⟨_, e0⟩ := field_at hf hxl 0 rfl cl9
    obtain ⟨_, e1⟩ := field_at hf hxl 1 rfl cl4
    obtain ⟨s, h0, _, _⟩ := DataW.trod_string Tryz.underlying9 e0
    obtain ⟨b, h1, _⟩ := DataW.trod_bool Tryz.underlying4 e1
    refine ⟨(s, b), ?_, trivial⟩
    simp at h0 h1
    rw [h0, h1]; rfl
theorem opens_pc : Opens enc Tryz.prog W 72 encPc fun p => RdL W p.sv.val encTx p.ns ∧ p.ns.length ≤ 9223372036854775807 := fun fuel cs x h => by
  obtain ⟨xs, n, _, _, hl, hxl, hf⟩ := DataW.trod_struct Tryz.underlying72 h
  rw [clP] at hl
  match cs, hl with
  | [c0, c1], _ =>
    obtain ⟨_, e0⟩ := field_at hf hxl 0 rfl cl3
    obtain ⟨_, e1⟩ := field_at hf hxl 1 rfl clS
    obtain ⟨z, h0, _⟩ := DataW.trod_int Tryz.underlying3 e0
    obtain ⟨v, l, h1, hr, _, hn⟩ := opens_slice Tryz.underlying61 cl9 (by decide) (opens_string Tryz.underlying9) e1
    obtain ⟨sv, rfl, _⟩ := hr.sv
    refine ⟨⟨z, sv, l⟩, ?_, hr, hn⟩
    simp at h0 h1
    rw [h0, h1]; rfl
theorem rd_store {cs : Array Value} {d : DataW H} {p : List MemPlace} (h : DataW.Trod enc Tryz.prog W 0 (fun _ => true) true 27 (.agg cs) d p) :
    ∃ (av pv rv : Value) (al : List (ByteArray × Bool)) (nx jr : Int) (pl : List Pc), cs = #[av, .int .i64 nx, .int .i64 jr, pv, rv] ∧ RdL W av encAt al ∧ RdL W pv encPc pl ∧ (∀ p ∈ pl, RdL W p.sv.val encTx p.ns) ∧ (∀ p ∈ pl, p.ns.length ≤ 9223372036854775807) ∧ rv.oneCell' = true := by
  obtain ⟨fuel, h⟩ := h
  obtain ⟨xs, n, _, _, hl, hxl, hf⟩ := DataW.trod_struct Tryz.underlying27 h
  rw [clST] at hl
  obtain ⟨l⟩ := cs
  have hl' : l.length = 5 := hl
  match l, hl' with
  | [c0, c1, c2, c3, c4], _ =>
    obtain ⟨_, e0⟩ := field_at hf hxl 0 rfl clSA
    obtain ⟨_, e1⟩ := field_at hf hxl 1 rfl cl3
    obtain ⟨_, e2⟩ := field_at hf hxl 2 rfl cl3
    obtain ⟨_, e3⟩ := field_at hf hxl 3 rfl clSP
    obtain ⟨_, e4⟩ := field_at hf hxl 4 rfl clSR
    obtain ⟨av, al, h0, ha, _, _⟩ := opens_slice Tryz.underlying23 clA (by decide) opens_at e0
    obtain ⟨nx, h1, _⟩ := DataW.trod_int Tryz.underlying3 e1
    obtain ⟨jr, h2, _⟩ := DataW.trod_int Tryz.underlying3 e2
    obtain ⟨pv, pl, h3, hp, hq, _⟩ := opens_slice Tryz.underlying24 clP (by decide) opens_pc e3
    have h4 : ∃ a n c, c4 = .slice a n c := by
      rcases DataW.trod_slice Tryz.underlying25 e4 with ⟨h4, _⟩ | ⟨a, len, cap, _, _, _, _, h4, _⟩
      · exact ⟨none, 0, 0, (List.cons.inj (show [c4] = [_] from h4)).1⟩
      · exact ⟨some a, len, cap, (List.cons.inj (show [c4] = [_] from h4)).1⟩
    obtain ⟨ra, rn, rc, rfl⟩ := h4
    have g0 : c0 = av := (List.cons.inj (show [c0] = [_] from h0)).1
    have g1 : c1 = .int .i64 nx := (List.cons.inj (show [c1] = [_] from h1)).1
    have g2 : c2 = .int .i64 jr := (List.cons.inj (show [c2] = [_] from h2)).1
    have g3 : c3 = pv := (List.cons.inj (show [c3] = [_] from h3)).1
    subst g0 g1 g2 g3
    exact ⟨_, _, _, al, nx, jr, pl, rfl, ha, hp, fun p hp => (hq p hp).1, fun p hp => (hq p hp).2, rfl⟩
end
theorem gRange : Tryz.prog.globalNamed "strconv.ErrRange" = some 3 := by kernel_rfl
theorem gSyntax : Tryz.prog.globalNamed "strconv.ErrSyntax" = some 2 := by kernel_rfl
theorem gPow : Tryz.prog.globalNamed "internal/strconv.uint64pow10" = some 1 := by kernel_rfl
theorem tRange : (Tryz.prog.globals[3]?).map (·.type) = some 63 := by kernel_rfl
theorem tSyntax : (Tryz.prog.globals[2]?).map (·.type) = some 63 := by kernel_rfl
theorem tPow : (Tryz.prog.globals[1]?).map (·.type) = some 233 := by kernel_rfl
theorem cES : Tryz.prog.cellsOf 280 = 1 := by kernel_rfl
theorem cPT : Tryz.prog.cellsOf 233 = 20 := by kernel_rfl
theorem rowES (u : TypeId) (hu : Tryz.prog.typeName? 3 u = some "*errors.errorString") : u = 278 := typeName_ptr_named (nm := "errors.errorString") (by kernel_rfl) (by kernel_rfl) (by decide) u hu
theorem cU64 : Tryz.prog.cellsOf 192 = 1 := by kernel_rfl
theorem tab_eq : (Rows.laid_internal_strconv_uint64pow10 : DataW Unit) = Lib.tabData .u64 Lib.pow10Tab := by kernel_rfl
theorem gv_of {W : World} (hL : laidMetH Tryz.prog Rows.storeManifestsRawRow.laid W) (hsh : W.ShapedOpen Tryz.prog) : GV Tryz.prog 0 W := by
  rw [MakeChecks.laidMetH_plain _ _ _ (by kernel_rfl)] at hL
  have h2 := laidMet.tail (laidMet.tail hL)
  have h4 := laidMet.tail (laidMet.tail h2)
  have h5 := laidMet.tail h4
  obtain ⟨a0, s0, hv0, _⟩ := laid_sentinel h4 gRange tRange Tryz.underlying63 rowES Tryz.underlying278 Tryz.underlying280 rfl rfl Tryz.underlying9 cES cl9
  obtain ⟨a1, s1, hv1, _⟩ := laid_sentinel h5 gSyntax tSyntax Tryz.underlying63 rowES Tryz.underlying278 Tryz.underlying280 rfl rfl Tryz.underlying9 cES cl9
  have ht : laidMet Tryz.prog (("internal/strconv.uint64pow10", Lib.tabData .u64 Lib.pow10Tab) :: [("unicode/utf8.acceptRanges", Rows.laid_unicode_utf8_acceptRanges), ("strconv.ErrRange", Rows.laid_strconv_ErrRange), ("strconv.ErrSyntax", Rows.laid_strconv_ErrSyntax), ("unicode/utf8.first", Rows.laid_unicode_utf8_first)]) W := by rw [← tab_eq]; exact h2
  exact ⟨Tryz.laysM219.s1_3 W hsh, Lib.tabIs_of_head gPow tPow Tryz.underlying233 Tryz.underlying192 cU64 cPT ht, ⟨_, _, hv1⟩, ⟨_, _, hv0⟩⟩
end Go.Proofs.YtecfgjdpghddgaaGreatDoor
