/- The walks of the functions of F13, printed by our own program (kwgen.py) out of our descriptions (base.py). -/
import Derived.Test.YtfhbflhnelbkfaaKd
import Derived.Test.YtfhbflhnelbkfaaF01
import Derived.Test.YtfhbflhnelbkfaaF01r
import Derived.Test.YtfhbflhnelbkfaaShelfL
import Derived.Test.YtfhbflhnelbkfaaTab
namespace Go.Proofs.Ytfhbflhnelbkfaa
open Go.RowKit Go.Kw
set_option maxRecDepth 100000
set_option linter.unusedVariables false
set_option linter.unusedSimpArgs false
set_option linter.unusedSectionVars false
theorem sortS_ok (w0 w : World) (cs : List Chunk) (i : Nat) (v : Value) (l : List ByteArray) (hs : Sat w0 cs w) (hi : cs[i]? = some (cL v 9 encTx l)) (hn : l.length < 4611686018427387904) :
    CallsV Try.prog 70 [v] w fun r w' => r = .tuple #[] ∧ Sat w0 (cs.set i (cL v 9 encTx (sortB l))) w' := by
  have hi' : cs[i]? = some (cSl v 9 1 l.length ((l.map fun s => s.data.toList).map Go.Proofs.encStr)) := by rw [← allS_map]; exact hi
  rcases hs.slCases hi' with ⟨h0, rfl⟩ | ⟨g, cap, rfl⟩
  · have hl : l = [] := List.eq_nil_of_length_eq_zero h0
    subst hl
    refine Calls.mono (Go.Proofs.Any.slices_Sort_string_none Try.lays190 none 0 w) ?_
    rintro e w' ⟨rfl, rfl⟩
    have e1 : cs.set i (cL (.slice none 0 0) 9 encTx (sortB [])) = cs := by
      obtain ⟨hil, hci⟩ := List.getElem?_eq_some_iff.1 hi
      have : sortB [] = [] := by simp [sortB]
      rw [this, ← hci]; exact List.set_getElem_self hil
    exact ⟨_, rfl, rfl, by rw [e1]; exact hs⟩
  · have hlen : (l.map fun s => s.data.toList).length = l.length := List.length_map ..
    obtain ⟨hH, hg⟩ := hs.holds1 hlen hi'
    have hc := Try.slices_Sort_string g 0 cap (l.map fun s => s.data.toList) w hH hg (by rw [hlen]; exact hn)
    rw [hlen] at hc
    refine Calls.mono hc ?_
    rintro e w' ⟨rfl, n, os, rfl⟩
    have h2 := hs.sortW hlen hi' ((l.map fun s => s.data.toList).mergeSort fun x y => decide (x ≤ y)) (by simp) n os
    have e2 : cSl (.slice (some ⟨g, 0, none⟩) l.length cap) 9 1 l.length (((l.map fun s => s.data.toList).mergeSort fun x y => decide (x ≤ y)).map Go.Proofs.encStr) = cL (.slice (some ⟨g, 0, none⟩) l.length cap) 9 encTx (sortB l) := by
      unfold cL
      rw [allS_map, sortB_length]
      have : (sortB l).map (fun s => s.data.toList) = (l.map fun s => s.data.toList).mergeSort fun x y => decide (x ≤ y) := by
        unfold sortB; rw [List.map_map]; exact List.map_id' _
      rw [this]; rfl
    rw [e2] at h2
    exact ⟨_, rfl, rfl, h2⟩
theorem sortF_ok (w0 w : World) (cs : List Chunk) (i m : Nat) (v : Value) (l : List Nat) (g : FuncId) (cap : Array Value) (R : Nat → Nat → Prop) [DecidableRel R] (hs : Sat w0 cs w) (hi : cs[i]? = some (cL v 3 (encN .i64) l)) (hn : l.length < 4611686018427387904)
    (hm : ∀ x ∈ l, x < m) (hent : Enters Try.prog g) (cf : Nat → Nat → Int) (hcf : ∀ x y, cf x y < 0 ↔ R x y) (irr : ∀ a, ¬ R a a) (tr : ∀ {a b c}, R a b → R b c → R a c) (ntr : ∀ {a b c}, ¬ R a b → ¬ R b c → ¬ R a c)
    (hcmp : ∀ x y l' W, x < m → y < m → l'.length = l.length → Sat w0 (cs.set i (cL v 3 (encN .i64) l')) W → CallsV Try.prog g ([.int .i64 (x : Int), .int .i64 (y : Int)] ++ cap.toList) W fun r W' => r = .int .i64 (cf x y) ∧ Sat W [] W' ∧ W.drawn ≤ W'.drawn) :
    CallsV Try.prog 115 [v, .func (.func g) #[] cap] w fun r w' => r = .tuple #[] ∧ ∃ l', l'.Perm l ∧ l'.Pairwise (fun a b => ¬ R b a) ∧ Sat w0 (cs.set i (cL v 3 (encN .i64) l')) w' := by
  have hi' : cs[i]? = some (cSl v 3 1 l.length (l.map fun (x : Nat) => Value.int .i64 (x : Int))) := by rw [← allN_map]; exact hi
  obtain ⟨hil, hci⟩ := List.getElem?_eq_some_iff.1 hi
  rcases hs.slCases hi' with ⟨h0, rfl⟩ | ⟨b, c, rfl⟩
  · have hl : l = [] := List.eq_nil_of_length_eq_zero h0
    subst hl
    refine Calls.mono (Try.slices_SortFunc_none (α := Nat) none 0 _ w) ?_
    rintro e w' ⟨rfl, rfl⟩
    exact ⟨_, rfl, rfl, [], List.Perm.refl _, List.Pairwise.nil, by rw [← hci, List.set_getElem_self hil]; exact hs⟩
  · by_cases h0 : l = []
    · subst h0
      refine Calls.mono (Try.slices_SortFunc_none (α := Nat) _ c _ w) ?_
      rintro e w' ⟨rfl, rfl⟩
      exact ⟨_, rfl, rfl, [], List.Perm.refl _, List.Pairwise.nil, by rw [← hci, List.set_getElem_self hil]; exact hs⟩
    · have hm0 : 0 < m := by
        cases l with
        | nil => exact absurd rfl h0
        | cons x r => have := hm x (List.mem_cons_self ..); omega
      haveI : Inhabited (Fin m) := ⟨⟨0, hm0⟩⟩
      obtain ⟨ds, hds⟩ : ∃ ds : List (Fin m), ds.map Fin.val = l := ⟨l.pmap (fun x hx => (⟨x, hx⟩ : Fin m)) hm, by rw [List.map_pmap]; simp⟩
      have hlen : ds.length = l.length := by rw [← hds, List.length_map]
      have henc : l.map (fun (x : Nat) => Value.int .i64 (x : Int)) = ds.map (fun x : Fin m => Value.int .i64 ((x.val : Nat) : Int)) := by rw [← hds, List.map_map]; rfl
      rw [henc] at hi'
      obtain ⟨hH, hg⟩ := hs.holds1 hlen hi'
      have eL : ∀ ts : List (Fin m), ts.length = l.length → cSl (.slice (some ⟨b, 0, none⟩) l.length c) 3 1 l.length (ts.map (fun x : Fin m => Value.int .i64 ((x.val : Nat) : Int))) = cL (.slice (some ⟨b, 0, none⟩) l.length c) 3 (encN .i64) (ts.map Fin.val) := fun ts ht => by
        unfold cL
        rw [allN_map, List.length_map, List.map_map, ht]; rfl
      have hcm : Go.Proofs.CmpLays1 Try.prog g cap (fun x : Fin m => Value.int .i64 ((x.val : Nat) : Int)) (fun x y => cf x.val y.val) b 0 ds.toArray.size w := by
        intro k os dk hk x y
        have hdk : dk.toList.length = l.length := by rw [Array.length_toList, hk]; simpa using hlen
        have h2 := hs.sortW hlen hi' dk.toList hdk k os
        rw [eL _ hdk] at h2
        have hc := hcmp x.val y.val (dk.toList.map Fin.val) _ x.isLt y.isLt (by rw [List.length_map, hdk]) h2
        rw [show dk.toList.toArray = dk by simp] at hc
        have e3 : ([Value.int .i64 ((x.val : Nat) : Int), Value.int .i64 ((y.val : Nat) : Int)] ++ cap.toList).toArray = #[Value.int .i64 ((x.val : Nat) : Int), Value.int .i64 ((y.val : Nat) : Int)] ++ cap := by simp
        unfold CallsV at hc
        rw [e3] at hc
        refine Calls.mono hc ?_
        rintro e w' ⟨r, rfl, rfl, hS, hd⟩
        exact ⟨rfl, Go.Kw.Below.grown_of hS.old hd⟩
      have hO : Go.Sort.SWO (Go.Proofs.ltOf fun x y : Fin m => cf x.val y.val) := by
        refine ⟨fun x => decide_eq_false fun h => irr _ ((hcf _ _).1 h), fun x y z h1 h2 => decide_eq_true ((hcf _ _).2 (tr ((hcf _ _).1 (of_decide_eq_true h1)) ((hcf _ _).1 (of_decide_eq_true h2)))), fun x y z h1 h2 => decide_eq_false fun h => ?_⟩
        exact ntr (fun h' => of_decide_eq_false h1 ((hcf _ _).2 h')) (fun h' => of_decide_eq_false h2 ((hcf _ _).2 h')) ((hcf _ _).1 h)
      have hc := Try.slices_SortFunc (fun x : Fin m => Value.int .i64 ((x.val : Nat) : Int)) (fun _ => rfl) (fun x y : Fin m => cf x.val y.val) hO g cap b 0 c ds.toArray w hent hcm hH hg (by simpa [hlen] using hn)
      have hsz : ds.toArray.size = l.length := by simpa using hlen
      rw [hsz] at hc
      refine Calls.mono hc ?_
      rintro e w' ⟨rfl, d', n, os, hP, hS, rfl⟩
      have hd' : d'.toList.length = l.length := by rw [Array.length_toList, hP.1, hsz]
      have h2 := hs.sortW hlen hi' d'.toList hd' n os
      rw [eL _ hd', show d'.toList.toArray = d' by simp] at h2
      refine ⟨_, rfl, rfl, d'.toList.map Fin.val, ?_, ?_, h2⟩
      · rw [← hds]
        refine List.Perm.map _ ?_
        have h3 := hP.2.2
        rw [show d'.extract 0 l.length = d' by rw [show l.length = d'.size by rw [hP.1, hsz]]; simp, show ds.toArray.extract 0 l.length = ds.toArray by rw [show l.length = ds.toArray.size by rw [hsz]]; simp] at h3
        exact h3
      · rw [List.pairwise_map, List.pairwise_iff_getElem]
        intro p q hp hq hpq hR
        have h4 := hS p q (Nat.zero_le _) hpq (by rw [← hd']; exact hq)
        have e5 : ∀ k (hk : k < d'.toList.length), d'[k]! = d'.toList[k] := fun k hk => by
          rw [getElem!_pos d' k (by simpa using hk)]; rfl
        rw [e5 p hp, e5 q hq] at h4
        exact of_decide_eq_false h4 ((hcf _ _).2 hR)

theorem compare_ok (a b : ByteArray) (w : World) : CallsV Try.prog 117 [.string a, .string b] w fun r w' => r = .int .i64 (Lib.compareBytes a.data.toList b.data.toList) ∧ w' = w := by
  refine Calls.mono (Try.strings_Compare a b w) ?_
  rintro e w' ⟨rfl, rfl⟩; exact ⟨_, rfl, rfl, rfl⟩
theorem hasPre_ok (a b : ByteArray) (w : World) : CallsV Try.prog 77 [.string a, .string b] w fun r w' => r = .bool (preB b a) ∧ w' = w := by
  refine Calls.mono (Try.strings_HasPrefix a b w) ?_
  rintro e w' ⟨rfl, rfl⟩; exact ⟨_, rfl, rfl, rfl⟩
theorem hasSuf_ok (a b : ByteArray) (w : World) (h : a.size ≤ 9223372036854775807) : CallsV Try.prog 78 [.string a, .string b] w fun r w' => r = .bool (sufB b a) ∧ w' = w := by
  refine Calls.mono (Try.strings_HasSuffix a b w h) ?_
  rintro e w' ⟨rfl, rfl⟩; exact ⟨_, rfl, rfl, rfl⟩

theorem search_ok (f : FuncId) (cap : Array Value) (n : Nat) (p : Nat → Bool) (w : World) (ent : Enters Try.prog f) (hn : n < 4611686018427387904)
    (hf : ∀ i w', i < n → Sat w [] w' → CallsV Try.prog f ([.int .i64 (i : Int)] ++ cap.toList) w' fun r w'' => r = .bool (p i) ∧ Sat w' [] w'') (hmono : ∀ a b, a ≤ b → b < n → p a = true → p b = true) :
    CallsV Try.prog 73 [(Value.int .i64 ((n : Nat) : Int)), (Value.func (.func f) #[] cap)] w fun r w' => ∃ k, r = .int .i64 ((k : Nat) : Int) ∧ k ≤ n ∧ (∀ i, i < k → p i = false) ∧ (∀ i, k ≤ i → i < n → p i = true) ∧ Sat w [] w' := by
  have hs0 := Sat.start w
  refine callsV_of Try.func73 rfl rfl ?_
  refine CW.seq ?_
  refine CW.region ?_
  refine RT.ev rfl rfl (Ev.assign rfl) ?_
  refine RT.nil ?_
  refine CW.seq ?_
  refine CW.region ?_
  refine RT.ev rfl rfl (Ev.move rfl) ?_
  refine RT.ev rfl rfl (Ev.assign rfl) ?_
  refine RT.ev rfl rfl (Ev.assign rfl) ?_
  refine RT.nil ?_
  refine CW.seq ?_
  refine CW.block ?_
  refine CW.loop (α := Nat × Nat) (fun (i, j) => [(1, (Value.func (.func f) #[] cap)), (5, (Value.int .i64 ((i : Nat) : Int))), (6, (Value.int .i64 ((j : Nat) : Int)))]) (fun (i, j) w' => Sat w [] w' ∧ (i ≤ j) ∧ (j ≤ n) ∧ (∀ q, q < i → p q = false) ∧ (∀ q, j ≤ q → q < n → p q = true)) (fun (i, j) => j - i) (0, n) ⟨rfl, rfl, rfl, trivial⟩ ⟨hs0, Nat.zero_le _, Nat.le_refl _, fun q hq => absurd hq (Nat.not_lt_zero q), fun q hq hn => absurd hn (by omega)⟩ ?_
  rintro ⟨i, j⟩ w_1 ⟨hs_1, hij, hjn, h1, h2⟩
  show CW _ _ _ _ [(1, (Value.func (.func f) #[] cap)), (5, (Value.int .i64 ((i : Nat) : Int))), (6, (Value.int .i64 ((j : Nat) : Int)))] _
  refine CW.seq ?_
  refine CW.seq ?_
  refine CW.region ?_
  refine RT.ev rfl rfl (Ev.move rfl) ?_
  refine RT.ev rfl rfl (Ev.move rfl) ?_
  refine RT.ev rfl rfl (Ev.lssN rfl rfl) ?_
  refine RT.nil ?_
  refine CW.condD rfl (fun hc_1 => ?_) (fun hc_1 => ?_)
  · refine CW.skip ?_
    refine CW.block ?_
    refine CW.seq ?_
    refine CW.region ?_
    refine RT.ev rfl rfl (Ev.move rfl) ?_
    refine RT.ev rfl rfl (Ev.move rfl) ?_
    refine RT.ev rfl rfl (Ev.addI rfl rfl (by omega)) ?_
    refine RT.ev rfl rfl (Ev.convK (by rw [Try.underlying3]; rfl) Try.underlying138 rfl (wrap_u rfl (by (try simp only [IntKind.bits]); omega))) ?_
    refine RT.ev rfl rfl (Ev.shrN (b := 1) rfl rfl (by (try simp only [IntKind.bits]); omega)) ?_
    refine RT.ev rfl rfl (Ev.convK (by rw [Try.underlying138]; rfl) Try.underlying3 rfl (wrap_i (by omega))) ?_
    refine RT.ev rfl rfl (Ev.assign rfl) ?_
    refine RT.nil ?_
    refine CW.seq ?_
    refine CW.region ?_
    refine RT.ev rfl rfl (Ev.move rfl) ?_
    refine RT.ev rfl rfl (Ev.move rfl) ?_
    refine RT.eff rfl rfl (OpE.callv ent rfl rfl ((hf (((i + j) / 2 ^ 1)) _ (by omega) hs_1).mono fun r_1 w_2 h_1 => ?_))
    obtain ⟨rfl, hp_1⟩ := h_1
    have hs_2 : Sat w [] _ := hs_1.adds hp_1
    refine RT.ev rfl rfl (Ev.notB rfl) ?_
    refine RT.nil ?_
    refine CW.cond rfl (fun hc_2 => ?_) (fun hc_2 => ?_)
    · refine CW.region ?_
      refine RT.ev rfl rfl (Ev.move rfl) ?_
      refine RT.ev rfl rfl (Ev.addI (b := 1) rfl rfl (by omega)) ?_
      refine RT.ev rfl rfl (Ev.assign rfl) ?_
      refine RT.nil ?_
      exact ⟨((((i + j) / 2 ^ 1) + 1), j), ⟨rfl, rfl, rfl, trivial⟩, ⟨hs_2, by omega, by omega, fun q hq => by
      rcases Bool.eq_false_or_eq_true (p q) with hp | hp
      · have := hmono q _ (show q ≤ (i + j) / 2 ^ 1 by omega) (by omega) hp
        rw [this] at hc_2; simp at hc_2
      · exact hp, h2⟩, (show ((j) - ((((i + j) / 2 ^ 1) + 1))) < (j - i) from by omega)⟩
    · refine CW.region ?_
      refine RT.ev rfl rfl (Ev.move rfl) ?_
      refine RT.ev rfl rfl (Ev.assign rfl) ?_
      refine RT.nil ?_
      exact ⟨(i, ((i + j) / 2 ^ 1)), ⟨rfl, rfl, rfl, trivial⟩, ⟨hs_2, by omega, by omega, h1, fun q hq hqn => hmono _ q hq hqn (by simpa using hc_2)⟩, (show ((((i + j) / 2 ^ 1)) - (i)) < (j - i) from by omega)⟩
  · refine CW.exit0 ?_
    refine CW.seq ?_
    refine CW.region ?_
    refine RT.ev rfl rfl (Ev.move rfl) ?_
    refine RT.ev rfl rfl (Ev.assign rfl) ?_
    refine RT.nil ?_
    refine CW.ret ?_
    show PostK _ _ _ _ _ _
    refine post1 rfl rfl ?_
    have hij2 : i = j := by omega
    subst hij2
    exact ⟨i, rfl, by omega, h1, h2, hs_1⟩

theorem number1_ok (B1 B2 : Nat) (g : Nat) (vw vc vo : Value) (W : List ByteArray) (C O : List Nat) (s : ByteArray) (i : Nat) (w : World) (h1 : w.cell? ⟨B1, 0, none⟩ = some (.pointer (some ⟨g, 0, none⟩))) (h2 : w.cell? ⟨B2, 0, none⟩ = some (.string s)) (h : LexAt w g vw vc vo W C O) (hi : i < W.length) :
    CallsV Try.prog 74 [(Value.int .i64 ((i : Nat) : Int)), (Value.pointer (some ⟨B1, 0, none⟩)), (Value.pointer (some ⟨B2, 0, none⟩))] w fun r w' => r = .bool (decide (¬ SLt (W.getD i ByteArray.empty) s)) ∧ Sat w [] w' := by
  have hs0 := Sat.start w
  refine callsV_of Try.func74 rfl rfl ?_
  refine CW.seq ?_
  refine CW.region ?_
  refine RT.ev rfl rfl (Ev.assign rfl) ?_
  refine RT.nil ?_
  refine CW.seq ?_
  obtain ⟨x, hx⟩ : ∃ x, W[i]? = some x := ⟨_, List.getElem?_eq_getElem (by omega)⟩
  refine CW.draw (fun w' => Sat w [] w') (.free 0 (.free 1 (.free 2 (.free 3 (.free 4 (.free 5 (.free 6 (.free 7 (.free 8 (.free 9 .fin)))))))))) mixed (by kernel_rfl) ?_
  have hs_1 := hs0.drew
  refine RP.ev rfl rfl rfl (fun w' hS' => Ev.load scal46 rfl (hS'.ext _ _ h1)) hs_1 ?_
  refine RP.ev rfl rfl rfl (fun w' hS' => Ev.nilCheck rfl) hs_1 ?_
  refine RP.ev rfl rfl rfl (fun w' hS' => Ev.fieldAddr fld92_0 rfl rfl) hs_1 ?_
  refine RP.ev rfl rfl rfl (fun w' hS' => Ev.load scal45 rfl (hS'.ext _ _ h.c0)) hs_1 ?_
  refine RP.ev rfl rfl rfl (fun w' hS' => Ev.move rfl) hs_1 ?_
  refine RP.ev rfl rfl rfl (fun w' hS' => Ev.idxL (E := encTx) sl45 rfl rfl (h.hW.ext hS'.ext) (by omega)) hs_1 ?_
  refine RP.ev rfl rfl rfl (fun w' hS' => Ev.ldL (E := encTx) scal9 rfl (h.hW.ext hS'.ext) hx (by decide) rfl) hs_1 ?_
  refine RP.ev rfl rfl rfl (fun w' hS' => Ev.load scal9 rfl (hS'.ext _ _ h2)) hs_1 ?_
  refine RP.ev rfl rfl rfl (fun w' hS' => Ev.strGeq rfl rfl) hs_1 ?_
  refine RP.ev rfl rfl rfl (fun w' hS' => Ev.assign rfl) hs_1 ?_
  refine RP.fin ?_
  refine CW.ret ?_
  show PostK _ _ _ _ _ _
  refine post1 rfl rfl ?_
  rw [getD_of hx]
  exact ⟨rfl, hs_1⟩

theorem prefix1_ok (B1 B2 : Nat) (g : Nat) (vw vc vo : Value) (W : List ByteArray) (C O : List Nat) (s : ByteArray) (i : Nat) (w : World) (h1 : w.cell? ⟨B1, 0, none⟩ = some (.pointer (some ⟨g, 0, none⟩))) (h2 : w.cell? ⟨B2, 0, none⟩ = some (.string s)) (h : LexAt w g vw vc vo W C O) (hi : i < W.length) :
    CallsV Try.prog 75 [(Value.int .i64 ((i : Nat) : Int)), (Value.pointer (some ⟨B1, 0, none⟩)), (Value.pointer (some ⟨B2, 0, none⟩))] w fun r w' => r = .bool (decide (¬ SLt (W.getD i ByteArray.empty) s)) ∧ Sat w [] w' := by
  have hs0 := Sat.start w
  refine callsV_of Try.func75 rfl rfl ?_
  refine CW.seq ?_
  refine CW.region ?_
  refine RT.ev rfl rfl (Ev.assign rfl) ?_
  refine RT.nil ?_
  refine CW.seq ?_
  obtain ⟨x, hx⟩ : ∃ x, W[i]? = some x := ⟨_, List.getElem?_eq_getElem (by omega)⟩
  refine CW.draw (fun w' => Sat w [] w') (.free 0 (.free 1 (.free 2 (.free 3 (.free 4 (.free 5 (.free 6 (.free 7 (.free 8 (.free 9 .fin)))))))))) mixed (by kernel_rfl) ?_
  have hs_1 := hs0.drew
  refine RP.ev rfl rfl rfl (fun w' hS' => Ev.load scal46 rfl (hS'.ext _ _ h1)) hs_1 ?_
  refine RP.ev rfl rfl rfl (fun w' hS' => Ev.nilCheck rfl) hs_1 ?_
  refine RP.ev rfl rfl rfl (fun w' hS' => Ev.fieldAddr fld92_0 rfl rfl) hs_1 ?_
  refine RP.ev rfl rfl rfl (fun w' hS' => Ev.load scal45 rfl (hS'.ext _ _ h.c0)) hs_1 ?_
  refine RP.ev rfl rfl rfl (fun w' hS' => Ev.move rfl) hs_1 ?_
  refine RP.ev rfl rfl rfl (fun w' hS' => Ev.idxL (E := encTx) sl45 rfl rfl (h.hW.ext hS'.ext) (by omega)) hs_1 ?_
  refine RP.ev rfl rfl rfl (fun w' hS' => Ev.ldL (E := encTx) scal9 rfl (h.hW.ext hS'.ext) hx (by decide) rfl) hs_1 ?_
  refine RP.ev rfl rfl rfl (fun w' hS' => Ev.load scal9 rfl (hS'.ext _ _ h2)) hs_1 ?_
  refine RP.ev rfl rfl rfl (fun w' hS' => Ev.strGeq rfl rfl) hs_1 ?_
  refine RP.ev rfl rfl rfl (fun w' hS' => Ev.assign rfl) hs_1 ?_
  refine RP.fin ?_
  refine CW.ret ?_
  show PostK _ _ _ _ _ _
  refine post1 rfl rfl ?_
  rw [getD_of hx]
  exact ⟨rfl, hs_1⟩

theorem prefix2_ok (B1 B2 B3 : Nat) (g : Nat) (vw vc vo : Value) (W : List ByteArray) (C O : List Nat) (s : ByteArray) (k i : Nat) (w : World) (h1 : w.cell? ⟨B1, 0, none⟩ = some (.pointer (some ⟨g, 0, none⟩))) (h2 : w.cell? ⟨B2, 0, none⟩ = some (.int .i64 (k : Int))) (h3 : w.cell? ⟨B3, 0, none⟩ = some (.string s)) (h : LexAt w g vw vc vo W C O) (hi : k + i < W.length) (hn : W.length < 4611686018427387904) :
    CallsV Try.prog 76 [(Value.int .i64 ((i : Nat) : Int)), (Value.pointer (some ⟨B1, 0, none⟩)), (Value.pointer (some ⟨B2, 0, none⟩)), (Value.pointer (some ⟨B3, 0, none⟩))] w fun r w' => r = .bool (!preB s (W.getD (k + i) ByteArray.empty)) ∧ Sat w [] w' := by
  have hs0 := Sat.start w
  refine callsV_of Try.func76 rfl rfl ?_
  refine CW.seq ?_
  refine CW.region ?_
  refine RT.ev rfl rfl (Ev.assign rfl) ?_
  refine RT.nil ?_
  refine CW.seq ?_
  obtain ⟨x, hx⟩ : ∃ x, W[(k + i)]? = some x := ⟨_, List.getElem?_eq_getElem (by omega)⟩
  refine CW.draw (fun w' => Sat w [] w') (.free 0 (.free 1 (.free 2 (.free 3 (.free 4 (.free 5 (.free 6 (.free 7 (.free 8 (.free 9 (.one 10 (.free 11 (.free 12 .fin))))))))))))) mixed (by kernel_rfl) ?_
  have hs_1 := hs0.drew
  refine RP.ev rfl rfl rfl (fun w' hS' => Ev.load scal46 rfl (hS'.ext _ _ h1)) hs_1 ?_
  refine RP.ev rfl rfl rfl (fun w' hS' => Ev.nilCheck rfl) hs_1 ?_
  refine RP.ev rfl rfl rfl (fun w' hS' => Ev.fieldAddr fld92_0 rfl rfl) hs_1 ?_
  refine RP.ev rfl rfl rfl (fun w' hS' => Ev.load scal45 rfl (hS'.ext _ _ h.c0)) hs_1 ?_
  refine RP.ev rfl rfl rfl (fun w' hS' => Ev.load scal3 rfl (hS'.ext _ _ h2)) hs_1 ?_
  refine RP.ev rfl rfl rfl (fun w' hS' => Ev.move rfl) hs_1 ?_
  refine RP.ev rfl rfl rfl (fun w' hS' => Ev.addI rfl rfl (by omega)) hs_1 ?_
  refine RP.ev rfl rfl rfl (fun w' hS' => Ev.idxL (E := encTx) sl45 rfl rfl (h.hW.ext hS'.ext) (by omega)) hs_1 ?_
  refine RP.ev rfl rfl rfl (fun w' hS' => Ev.ldL (E := encTx) scal9 rfl (h.hW.ext hS'.ext) hx (by decide) rfl) hs_1 ?_
  refine RP.ev rfl rfl rfl (fun w' hS' => Ev.load scal9 rfl (hS'.ext _ _ h3)) hs_1 ?_
  refine RP.eff rfl rfl rfl (OpE.call ent77 rfl ((hasPre_ok x s _).mono fun r_1 w_1 h_1 => ?_))
  obtain ⟨rfl, rfl⟩ := h_1
  have hS_1 : Sat w [] _ := hs_1.sub (.slnil)
  refine ⟨hS_1, ?_⟩
  refine RP.ev rfl rfl rfl (fun w' hS' => Ev.notB rfl) hS_1 ?_
  refine RP.ev rfl rfl rfl (fun w' hS' => Ev.assign rfl) hS_1 ?_
  refine RP.fin ?_
  refine CW.ret ?_
  show PostK _ _ _ _ _ _
  refine post1 rfl rfl ?_
  rw [getD_of hx]
  exact ⟨rfl, hs_1⟩

theorem size_ok (g : Nat) (vw vc vo : Value) (W : List ByteArray) (C O : List Nat) (w : World) (h : LexAt w g vw vc vo W C O) :
    CallsV Try.prog 34 [(Value.pointer (some ⟨g, 0, none⟩))] w fun r w' => r = .int .i64 ((W.length : Nat) : Int) ∧ Sat w [] w' := by
  have hs0 := Sat.start w
  refine callsV_of Try.func34 rfl rfl ?_
  refine CW.seq ?_
  refine CW.region ?_
  refine RT.ev rfl rfl (Ev.assign rfl) ?_
  refine RT.nil ?_
  refine CW.seq ?_
  refine CW.region ?_
  refine RT.ev rfl rfl (Ev.move rfl) ?_
  refine RT.ev rfl rfl (Ev.nilCheck rfl) ?_
  refine RT.ev rfl rfl (Ev.fieldAddr fld92_0 rfl rfl) ?_
  refine RT.ev rfl rfl (Ev.load scal45 rfl (hs0.ext _ _ h.c0)) ?_
  refine RT.ev rfl rfl (Ev.lenL Try.underlying45 rfl (h.hW.ext hs0.ext)) ?_
  refine RT.ev rfl rfl (Ev.assign rfl) ?_
  refine RT.nil ?_
  refine CW.ret ?_
  show PostK _ _ _ _ _ _
  refine post1 rfl rfl ?_
  exact ⟨rfl, hs0⟩

theorem word_ok (g : Nat) (vw vc vo : Value) (W : List ByteArray) (C O : List Nat) (n : Int) (w : World) (h : LexAt w g vw vc vo W C O) :
    CallsV Try.prog 39 [(Value.pointer (some ⟨g, 0, none⟩)), (Value.int .i64 (n))] w fun r w' => r = .tuple #[.string (wordAt W n).1, .bool (wordAt W n).2] ∧ Sat w [] w' := by
  have hs0 := Sat.start w
  refine callsV_of Try.func39 rfl rfl ?_
  refine CW.seq ?_
  refine CW.region ?_
  refine RT.ev rfl rfl (Ev.assign rfl) ?_
  refine RT.ev rfl rfl (Ev.assign rfl) ?_
  refine RT.nil ?_
  refine CW.seq ?_
  refine CW.seq ?_
  refine CW.mid (fun L' w' => Weak [(0, (Value.pointer (some ⟨g, 0, none⟩))), (1, (Value.int .i64 (n))), (4, (Value.string (ByteArray.mk #[]))), (5, (Value.bool false)), (16, (Value.bool (decide (((n : Int) < (0 : Int)) ∨ (((W.length : Nat) : Int) ≤ (n : Int))))))] L' ∧ Sat w [] w') ?_ ?_
  · refine CW.region ?_
    refine RT.ev rfl rfl (Ev.move rfl) ?_
    refine RT.ev rfl rfl (Ev.lss rfl rfl) ?_
    refine RT.ev rfl rfl (Ev.move rfl) ?_
    by_cases hg_1 : (n : Int) < (0 : Int)
    · refine RT.no rfl rfl rfl (decide_eq_true hg_1) rfl ?_
      refine RT.no rfl rfl rfl (decide_eq_true hg_1) rfl ?_
      refine RT.no rfl rfl rfl (decide_eq_true hg_1) rfl ?_
      refine RT.no rfl rfl rfl (decide_eq_true hg_1) rfl ?_
      refine RT.no rfl rfl rfl (decide_eq_true hg_1) rfl ?_
      refine RT.no rfl rfl rfl (decide_eq_true hg_1) rfl ?_
      refine RT.no rfl rfl rfl (decide_eq_true hg_1) rfl ?_
      refine RT.ev rfl rfl (Ev.pickY rfl (decide_eq_true hg_1) rfl) ?_
      refine RT.nil ?_
      exact ⟨⟨rfl, rfl, rfl, rfl, congrArg some (congrArg Value.bool (by simp [hg_1])), trivial⟩, hs0⟩
    · refine RT.yes rfl rfl rfl (decide_eq_false hg_1) ?_
      refine RT.ev rfl rfl (Ev.move rfl) ?_
      refine RT.yes rfl rfl rfl (decide_eq_false hg_1) ?_
      refine RT.ev rfl rfl (Ev.move rfl) ?_
      refine RT.yes rfl rfl rfl (decide_eq_false hg_1) ?_
      refine RT.ev rfl rfl (Ev.nilCheck rfl) ?_
      refine RT.yes rfl rfl rfl (decide_eq_false hg_1) ?_
      refine RT.ev rfl rfl (Ev.fieldAddr fld92_0 rfl rfl) ?_
      refine RT.yes rfl rfl rfl (decide_eq_false hg_1) ?_
      refine RT.ev rfl rfl (Ev.load scal45 rfl (hs0.ext _ _ h.c0)) ?_
      refine RT.yes rfl rfl rfl (decide_eq_false hg_1) ?_
      refine RT.ev rfl rfl (Ev.lenL Try.underlying45 rfl (h.hW.ext hs0.ext)) ?_
      refine RT.yes rfl rfl rfl (decide_eq_false hg_1) ?_
      refine RT.ev rfl rfl (Ev.geq rfl rfl) ?_
      refine RT.ev rfl rfl (Ev.pickN rfl (decide_eq_false hg_1) rfl) ?_
      refine RT.nil ?_
      exact ⟨⟨rfl, rfl, rfl, rfl, congrArg some (congrArg Value.bool (by simp [hg_1])), trivial⟩, hs0⟩
  · rintro L' w_1 ⟨hw_1, hs_1⟩
    refine CW.weaken _ hw_1 ?_
    refine CW.condD rfl (fun hc_1 => ?_) (fun hc_1 => ?_)
    · refine CW.seq ?_
      refine CW.region ?_
      refine RT.ev rfl rfl (Ev.assign rfl) ?_
      refine RT.ev rfl rfl (Ev.assign rfl) ?_
      refine RT.nil ?_
      refine CW.ret ?_
      show PostK _ _ _ _ _ _
      refine post2 rfl rfl rfl ?_
      have hq : wordAt W n = (ByteArray.empty, false) := by unfold wordAt; rw [if_neg (by omega)]
      rw [hq]
      exact ⟨rfl, hs_1⟩
    · refine CW.skip ?_
      refine CW.seq ?_
      obtain ⟨m, rfl⟩ : ∃ m : Nat, n = m := ⟨n.toNat, by omega⟩
      obtain ⟨x, hx⟩ : ∃ x, W[m]? = some x := ⟨_, List.getElem?_eq_getElem (by omega)⟩
      refine CW.region ?_
      refine RT.ev rfl rfl (Ev.move rfl) ?_
      refine RT.ev rfl rfl (Ev.nilCheck rfl) ?_
      refine RT.ev rfl rfl (Ev.fieldAddr fld92_0 rfl rfl) ?_
      refine RT.ev rfl rfl (Ev.load scal45 rfl (hs_1.ext _ _ h.c0)) ?_
      refine RT.ev rfl rfl (Ev.move rfl) ?_
      refine RT.ev rfl rfl (Ev.idxL (E := encTx) sl45 rfl rfl (h.hW.ext hs_1.ext) (by omega)) ?_
      refine RT.ev rfl rfl (Ev.ldL (E := encTx) scal9 rfl (h.hW.ext hs_1.ext) hx (by decide) rfl) ?_
      refine RT.ev rfl rfl (Ev.assign rfl) ?_
      refine RT.ev rfl rfl (Ev.assign rfl) ?_
      refine RT.nil ?_
      refine CW.ret ?_
      show PostK _ _ _ _ _ _
      refine post2 rfl rfl rfl ?_
      have hq : wordAt W (m : Int) = (x, true) := by unfold wordAt; rw [if_pos (by omega), Int.toNat_natCast, getD_of hx]
      rw [hq]
      exact ⟨rfl, hs_1⟩

theorem count_ok (g : Nat) (vw vc vo : Value) (W : List ByteArray) (C O : List Nat) (n : Int) (w : World) (h : LexAt w g vw vc vo W C O) :
    CallsV Try.prog 40 [(Value.pointer (some ⟨g, 0, none⟩)), (Value.int .i64 (n))] w fun r w' => r = .int .i64 ((countAt C n : Nat) : Int) ∧ Sat w [] w' := by
  have hs0 := Sat.start w
  refine callsV_of Try.func40 rfl rfl ?_
  refine CW.seq ?_
  refine CW.region ?_
  refine RT.ev rfl rfl (Ev.assign rfl) ?_
  refine RT.nil ?_
  refine CW.seq ?_
  refine CW.seq ?_
  refine CW.mid (fun L' w' => Weak [(0, (Value.pointer (some ⟨g, 0, none⟩))), (1, (Value.int .i64 (n))), (4, (Value.int .i64 ((0 : Nat) : Int))), (15, (Value.bool (decide (((n : Int) < (0 : Int)) ∨ (((C.length : Nat) : Int) ≤ (n : Int))))))] L' ∧ Sat w [] w') ?_ ?_
  · refine CW.region ?_
    refine RT.ev rfl rfl (Ev.move rfl) ?_
    refine RT.ev rfl rfl (Ev.lss rfl rfl) ?_
    refine RT.ev rfl rfl (Ev.move rfl) ?_
    by_cases hg_1 : (n : Int) < (0 : Int)
    · refine RT.no rfl rfl rfl (decide_eq_true hg_1) rfl ?_
      refine RT.no rfl rfl rfl (decide_eq_true hg_1) rfl ?_
      refine RT.no rfl rfl rfl (decide_eq_true hg_1) rfl ?_
      refine RT.no rfl rfl rfl (decide_eq_true hg_1) rfl ?_
      refine RT.no rfl rfl rfl (decide_eq_true hg_1) rfl ?_
      refine RT.no rfl rfl rfl (decide_eq_true hg_1) rfl ?_
      refine RT.no rfl rfl rfl (decide_eq_true hg_1) rfl ?_
      refine RT.ev rfl rfl (Ev.pickY rfl (decide_eq_true hg_1) rfl) ?_
      refine RT.nil ?_
      exact ⟨⟨rfl, rfl, rfl, congrArg some (congrArg Value.bool (by simp [hg_1])), trivial⟩, hs0⟩
    · refine RT.yes rfl rfl rfl (decide_eq_false hg_1) ?_
      refine RT.ev rfl rfl (Ev.move rfl) ?_
      refine RT.yes rfl rfl rfl (decide_eq_false hg_1) ?_
      refine RT.ev rfl rfl (Ev.move rfl) ?_
      refine RT.yes rfl rfl rfl (decide_eq_false hg_1) ?_
      refine RT.ev rfl rfl (Ev.nilCheck rfl) ?_
      refine RT.yes rfl rfl rfl (decide_eq_false hg_1) ?_
      refine RT.ev rfl rfl (Ev.fieldAddr fld92_1 rfl rfl) ?_
      refine RT.yes rfl rfl rfl (decide_eq_false hg_1) ?_
      refine RT.ev rfl rfl (Ev.load scal22 rfl (hs0.ext _ _ h.c1)) ?_
      refine RT.yes rfl rfl rfl (decide_eq_false hg_1) ?_
      refine RT.ev rfl rfl (Ev.lenL Try.underlying22 rfl (h.hC.ext hs0.ext)) ?_
      refine RT.yes rfl rfl rfl (decide_eq_false hg_1) ?_
      refine RT.ev rfl rfl (Ev.geq rfl rfl) ?_
      refine RT.ev rfl rfl (Ev.pickN rfl (decide_eq_false hg_1) rfl) ?_
      refine RT.nil ?_
      exact ⟨⟨rfl, rfl, rfl, congrArg some (congrArg Value.bool (by simp [hg_1])), trivial⟩, hs0⟩
  · rintro L' w_1 ⟨hw_1, hs_1⟩
    refine CW.weaken _ hw_1 ?_
    refine CW.condD rfl (fun hc_1 => ?_) (fun hc_1 => ?_)
    · refine CW.seq ?_
      refine CW.region ?_
      refine RT.ev rfl rfl (Ev.assign rfl) ?_
      refine RT.nil ?_
      refine CW.ret ?_
      show PostK _ _ _ _ _ _
      refine post1 rfl rfl ?_
      have hq : countAt C n = 0 := by unfold countAt; rw [if_neg (by omega)]
      rw [hq]
      exact ⟨rfl, hs_1⟩
    · refine CW.skip ?_
      refine CW.seq ?_
      obtain ⟨m, rfl⟩ : ∃ m : Nat, n = m := ⟨n.toNat, by omega⟩
      obtain ⟨x, hx⟩ : ∃ x, C[m]? = some x := ⟨_, List.getElem?_eq_getElem (by omega)⟩
      refine CW.region ?_
      refine RT.ev rfl rfl (Ev.move rfl) ?_
      refine RT.ev rfl rfl (Ev.nilCheck rfl) ?_
      refine RT.ev rfl rfl (Ev.fieldAddr fld92_1 rfl rfl) ?_
      refine RT.ev rfl rfl (Ev.load scal22 rfl (hs_1.ext _ _ h.c1)) ?_
      refine RT.ev rfl rfl (Ev.move rfl) ?_
      refine RT.ev rfl rfl (Ev.idxL (E := encN .i64) sl22 rfl rfl (h.hC.ext hs_1.ext) (by omega)) ?_
      refine RT.ev rfl rfl (Ev.ldL (E := encN .i64) scal3 rfl (h.hC.ext hs_1.ext) hx (by decide) rfl) ?_
      refine RT.ev rfl rfl (Ev.assign rfl) ?_
      refine RT.nil ?_
      refine CW.ret ?_
      show PostK _ _ _ _ _ _
      refine post1 rfl rfl ?_
      have hq : countAt C (m : Int) = x := by unfold countAt; rw [if_pos (by omega), Int.toNat_natCast, getD_of hx]
      rw [hq]
      exact ⟨rfl, hs_1⟩

theorem number_ok (g : Nat) (vw vc vo : Value) (W : List ByteArray) (C O : List Nat) (s : ByteArray) (w : World) (h : LexAt w g vw vc vo W C O) (hasc : Asc W) (hn : W.length < 4611686018427387904) :
    CallsV Try.prog 37 [(Value.pointer (some ⟨g, 0, none⟩)), (Value.string s)] w fun r w' => r = .tuple #[.int .i64 (((numN W s).1 : Nat) : Int), .bool (numN W s).2] ∧ Sat w [] w' := by
  have hs0 := Sat.start w
  refine callsV_of Try.func37 rfl rfl ?_
  refine CW.seq ?_
  refine CW.region ?_
  refine RT.eff rfl rfl (OpE.box hs0 rfl fun b_1 w_1 hs_1 hch_1 hb_1 => ?_)
  have hs_1d : Sat w [cObj b_1 46 [(Value.pointer (some ⟨g, 0, none⟩))]] _ := hs_1
  refine RT.eff rfl rfl (OpE.box hs_1d rfl fun b_2 w_2 hs_2 hch_2 hb_2 => ?_)
  have hs_2d : Sat w [cObj b_1 46 [(Value.pointer (some ⟨g, 0, none⟩))], cObj b_2 9 [(Value.string s)]] _ := hs_2
  refine RT.ev rfl rfl (Ev.assign rfl) ?_
  refine RT.ev rfl rfl (Ev.assign rfl) ?_
  refine RT.nil ?_
  refine CW.seq ?_
  refine CW.region ?_
  refine RT.ev rfl rfl (Ev.load scal46 rfl (hs_2d.cell (i := 0) (j := 0) rfl rfl)) ?_
  refine RT.ev rfl rfl (Ev.nilCheck rfl) ?_
  refine RT.ev rfl rfl (Ev.fieldAddr fld92_0 rfl rfl) ?_
  refine RT.ev rfl rfl (Ev.load scal45 rfl (hs_2d.ext _ _ h.c0)) ?_
  refine RT.ev rfl rfl (Ev.lenL Try.underlying45 rfl (h.hW.ext hs_2d.ext)) ?_
  refine RT.ev rfl rfl (Ev.makeFunc2 rfl rfl) ?_
  refine RT.eff rfl rfl (OpE.call ent73 rfl ((search_ok 74 #[(Value.pointer (some ⟨b_1, 0, none⟩)), (Value.pointer (some ⟨b_2, 0, none⟩))] (W.length) (fun i => decide (¬ SLt (W.getD i ByteArray.empty) s)) _ ent74 (by omega) (fun i w3 hi hq => number1_ok _ _ g vw vc vo W C O s i w3 (hq.ext _ _ (hs_2d.cell (i := 0) (j := 0) rfl rfl)) (hq.ext _ _ (hs_2d.cell (i := 1) (j := 0) rfl rfl)) ((h.ext hs_2d.ext).ext hq.ext) hi) (fun a b hab hb hp => geq_mono hasc s hab hb hp)).mono fun r_1 w_3 h_1 => ?_))
  obtain ⟨sk_1, rfl, hk_11, hk_12, hk_13, hp_1⟩ := h_1
  have hs_3 : Sat w [cObj b_1 46 [(Value.pointer (some ⟨g, 0, none⟩))], cObj b_2 9 [(Value.string s)]] _ := hs_2d.adds hp_1
  obtain rfl : sk_1 = lbW W s := search_lb hk_11 hk_12 hk_13
  refine RT.ev rfl rfl (Ev.assign rfl) ?_
  refine RT.nil ?_
  refine CW.seq ?_
  refine CW.seq ?_
  rcases Nat.lt_or_ge (lbW W s) W.length with hlt | hge
  · obtain ⟨x, hx⟩ : ∃ x, W[lbW W s]? = some x := ⟨_, List.getElem?_eq_getElem hlt⟩
    refine CW.draw (fun w' => Sat w [cObj b_1 46 [(Value.pointer (some ⟨g, 0, none⟩))], cObj b_2 9 [(Value.string s)]] w') (.free 0 (.free 1 (.free 2 (.free 3 (.free 4 (.free 5 (.free 6 (.free 7 (.free 8 (.free 9 (.free 10 (.free 11 (.free 12 (.free 13 (.free 14 (.free 15 (.free 16 (.free 17 .fin)))))))))))))))))) mixed (by kernel_rfl) ?_
    have hs_4 := hs_3.drew
    refine RP.ev rfl rfl rfl (fun w' hS' => Ev.move rfl) hs_4 ?_
    refine RP.ev rfl rfl rfl (fun w' hS' => Ev.load scal46 rfl (hS'.cell (i := 0) (j := 0) rfl rfl)) hs_4 ?_
    refine RP.ev rfl rfl rfl (fun w' hS' => Ev.nilCheck rfl) hs_4 ?_
    refine RP.ev rfl rfl rfl (fun w' hS' => Ev.fieldAddr fld92_0 rfl rfl) hs_4 ?_
    refine RP.ev rfl rfl rfl (fun w' hS' => Ev.load scal45 rfl (hS'.ext _ _ h.c0)) hs_4 ?_
    refine RP.ev rfl rfl rfl (fun w' hS' => Ev.lenL Try.underlying45 rfl (h.hW.ext hS'.ext)) hs_4 ?_
    refine RP.ev rfl rfl rfl (fun w' hS' => Ev.eqlN rfl rfl) hs_4 ?_
    refine RP.ev rfl rfl rfl (fun w' hS' => Ev.move rfl) hs_4 ?_
    refine RP.evYes rfl rfl rfl rfl (decide_eq_false (by omega)) rfl (fun w' hS' => Ev.load scal46 rfl (hS'.cell (i := 0) (j := 0) rfl rfl)) hs_4 ?_
    refine RP.evYes rfl rfl rfl rfl (decide_eq_false (by omega)) rfl (fun w' hS' => Ev.nilCheck rfl) hs_4 ?_
    refine RP.evYes rfl rfl rfl rfl (decide_eq_false (by omega)) rfl (fun w' hS' => Ev.fieldAddr fld92_0 rfl rfl) hs_4 ?_
    refine RP.evYes rfl rfl rfl rfl (decide_eq_false (by omega)) rfl (fun w' hS' => Ev.load scal45 rfl (hS'.ext _ _ h.c0)) hs_4 ?_
    refine RP.evYes rfl rfl rfl rfl (decide_eq_false (by omega)) rfl (fun w' hS' => Ev.move rfl) hs_4 ?_
    refine RP.evYes rfl rfl rfl rfl (decide_eq_false (by omega)) rfl (fun w' hS' => Ev.idxL (E := encTx) sl45 rfl rfl (h.hW.ext hS'.ext) (by omega)) hs_4 ?_
    refine RP.evYes rfl rfl rfl rfl (decide_eq_false (by omega)) rfl (fun w' hS' => Ev.ldL (E := encTx) scal9 rfl (h.hW.ext hS'.ext) hx (by decide) rfl) hs_4 ?_
    refine RP.evYes rfl rfl rfl rfl (decide_eq_false (by omega)) rfl (fun w' hS' => Ev.load scal9 rfl (hS'.cell (i := 1) (j := 0) rfl rfl)) hs_4 ?_
    refine RP.evYes rfl rfl rfl rfl (decide_eq_false (by omega)) rfl (fun w' hS' => Ev.strNeq rfl rfl) hs_4 ?_
    refine RP.ev rfl rfl rfl (fun w' hS' => Ev.pickN rfl (decide_eq_false (by omega)) rfl) hs_4 ?_
    refine RP.fin ?_
    refine CW.condD rfl (fun hc_1 => ?_) (fun hc_1 => ?_)
    · refine CW.seq ?_
      refine CW.region ?_
      refine RT.ev rfl rfl (Ev.assign rfl) ?_
      refine RT.ev rfl rfl (Ev.assign rfl) ?_
      refine RT.nil ?_
      refine CW.ret ?_
      show PostK _ _ _ _ _ _
      refine post2 rfl rfl rfl ?_
      have hs_5 : Sat w [] w_3.drew := hs_4.sub ((.cons _ (.cons _ .slnil)))
      rw [numN_get hx, if_neg (by simpa using hc_1)]
      exact ⟨rfl, hs_5⟩
    · refine CW.skip ?_
      refine CW.seq ?_
      refine CW.region ?_
      refine RT.ev rfl rfl (Ev.move rfl) ?_
      refine RT.ev rfl rfl (Ev.assign rfl) ?_
      refine RT.ev rfl rfl (Ev.assign rfl) ?_
      refine RT.nil ?_
      refine CW.ret ?_
      show PostK _ _ _ _ _ _
      refine post2 rfl rfl rfl ?_
      have hs_6 : Sat w [] w_3.drew := hs_4.sub ((.cons _ (.cons _ .slnil)))
      rw [numN_get hx, if_pos (by simpa using hc_1)]
      exact ⟨rfl, hs_6⟩
  · refine CW.draw (fun w' => Sat w [cObj b_1 46 [(Value.pointer (some ⟨g, 0, none⟩))], cObj b_2 9 [(Value.string s)]] w') (.free 0 (.free 1 (.free 2 (.free 3 (.free 4 (.free 5 (.free 6 (.free 7 (.free 8 (.free 9 (.free 10 (.free 11 (.free 12 (.free 13 (.free 14 (.free 15 (.free 16 (.free 17 .fin)))))))))))))))))) mixed (by kernel_rfl) ?_
    have hs_7 := hs_3.drew
    refine RP.ev rfl rfl rfl (fun w' hS' => Ev.move rfl) hs_7 ?_
    refine RP.ev rfl rfl rfl (fun w' hS' => Ev.load scal46 rfl (hS'.cell (i := 0) (j := 0) rfl rfl)) hs_7 ?_
    refine RP.ev rfl rfl rfl (fun w' hS' => Ev.nilCheck rfl) hs_7 ?_
    refine RP.ev rfl rfl rfl (fun w' hS' => Ev.fieldAddr fld92_0 rfl rfl) hs_7 ?_
    refine RP.ev rfl rfl rfl (fun w' hS' => Ev.load scal45 rfl (hS'.ext _ _ h.c0)) hs_7 ?_
    refine RP.ev rfl rfl rfl (fun w' hS' => Ev.lenL Try.underlying45 rfl (h.hW.ext hS'.ext)) hs_7 ?_
    refine RP.ev rfl rfl rfl (fun w' hS' => Ev.eqlN rfl rfl) hs_7 ?_
    refine RP.ev rfl rfl rfl (fun w' hS' => Ev.move rfl) hs_7 ?_
    refine RP.no rfl rfl rfl rfl (decide_eq_true (by have := lbR_le (R := SLt) W s; omega)) rfl hs_7 ?_
    refine RP.no rfl rfl rfl rfl (decide_eq_true (by have := lbR_le (R := SLt) W s; omega)) rfl hs_7 ?_
    refine RP.no rfl rfl rfl rfl (decide_eq_true (by have := lbR_le (R := SLt) W s; omega)) rfl hs_7 ?_
    refine RP.no rfl rfl rfl rfl (decide_eq_true (by have := lbR_le (R := SLt) W s; omega)) rfl hs_7 ?_
    refine RP.no rfl rfl rfl rfl (decide_eq_true (by have := lbR_le (R := SLt) W s; omega)) rfl hs_7 ?_
    refine RP.no rfl rfl rfl rfl (decide_eq_true (by have := lbR_le (R := SLt) W s; omega)) rfl hs_7 ?_
    refine RP.no rfl rfl rfl rfl (decide_eq_true (by have := lbR_le (R := SLt) W s; omega)) rfl hs_7 ?_
    refine RP.no rfl rfl rfl rfl (decide_eq_true (by have := lbR_le (R := SLt) W s; omega)) rfl hs_7 ?_
    refine RP.no rfl rfl rfl rfl (decide_eq_true (by have := lbR_le (R := SLt) W s; omega)) rfl hs_7 ?_
    refine RP.ev rfl rfl rfl (fun w' hS' => Ev.pickY rfl (decide_eq_true (by have := lbR_le (R := SLt) W s; omega)) rfl) hs_7 ?_
    refine RP.fin ?_
    refine CW.condT rfl (rfl) ?_
    refine CW.seq ?_
    refine CW.region ?_
    refine RT.ev rfl rfl (Ev.assign rfl) ?_
    refine RT.ev rfl rfl (Ev.assign rfl) ?_
    refine RT.nil ?_
    refine CW.ret ?_
    show PostK _ _ _ _ _ _
    refine post2 rfl rfl rfl ?_
    have hs_8 : Sat w [] w_3.drew := hs_7.sub ((.cons _ (.cons _ .slnil)))
    rw [numN_none hge]
    exact ⟨rfl, hs_8⟩

theorem prefix_ok (g : Nat) (vw vc vo : Value) (W : List ByteArray) (C O : List Nat) (s : ByteArray) (w : World) (h : LexAt w g vw vc vo W C O) (hasc : Asc W) (hn : W.length < 4611686018427387904) :
    CallsV Try.prog 41 [(Value.pointer (some ⟨g, 0, none⟩)), (Value.string s)] w fun r w' => r = .tuple #[.int .i64 (((prefN W s).1 : Nat) : Int), .int .i64 (((prefN W s).2 : Nat) : Int)] ∧ Sat w [] w' := by
  have hs0 := Sat.start w
  refine callsV_of Try.func41 rfl rfl ?_
  refine CW.seq ?_
  refine CW.region ?_
  refine RT.eff rfl rfl (OpE.box hs0 rfl fun b_1 w_1 hs_1 hch_1 hb_1 => ?_)
  have hs_1d : Sat w [cObj b_1 46 [(Value.pointer (some ⟨g, 0, none⟩))]] _ := hs_1
  refine RT.eff rfl rfl (OpE.box hs_1d rfl fun b_2 w_2 hs_2 hch_2 hb_2 => ?_)
  have hs_2d : Sat w [cObj b_1 46 [(Value.pointer (some ⟨g, 0, none⟩))], cObj b_2 9 [(Value.string s)]] _ := hs_2
  refine RT.ev rfl rfl (Ev.assign rfl) ?_
  refine RT.ev rfl rfl (Ev.assign rfl) ?_
  refine RT.nil ?_
  refine CW.seq ?_
  refine CW.region ?_
  refine RT.ev rfl rfl (Ev.load scal46 rfl (hs_2d.cell (i := 0) (j := 0) rfl rfl)) ?_
  refine RT.ev rfl rfl (Ev.nilCheck rfl) ?_
  refine RT.ev rfl rfl (Ev.fieldAddr fld92_0 rfl rfl) ?_
  refine RT.ev rfl rfl (Ev.load scal45 rfl (hs_2d.ext _ _ h.c0)) ?_
  refine RT.ev rfl rfl (Ev.lenL Try.underlying45 rfl (h.hW.ext hs_2d.ext)) ?_
  refine RT.ev rfl rfl (Ev.makeFunc2 rfl rfl) ?_
  refine RT.eff rfl rfl (OpE.call ent73 rfl ((search_ok 75 #[(Value.pointer (some ⟨b_1, 0, none⟩)), (Value.pointer (some ⟨b_2, 0, none⟩))] (W.length) (fun i => decide (¬ SLt (W.getD i ByteArray.empty) s)) _ ent75 (by omega) (fun i w3 hi hq => prefix1_ok _ _ g vw vc vo W C O s i w3 (hq.ext _ _ (hs_2d.cell (i := 0) (j := 0) rfl rfl)) (hq.ext _ _ (hs_2d.cell (i := 1) (j := 0) rfl rfl)) ((h.ext hs_2d.ext).ext hq.ext) hi) (fun a b hab hb hp => geq_mono hasc s hab hb hp)).mono fun r_1 w_3 h_1 => ?_))
  obtain ⟨sk_1, rfl, hk_11, hk_12, hk_13, hp_1⟩ := h_1
  have hs_3 : Sat w [cObj b_1 46 [(Value.pointer (some ⟨g, 0, none⟩))], cObj b_2 9 [(Value.string s)]] _ := hs_2d.adds hp_1
  obtain rfl : sk_1 = lbW W s := search_lb hk_11 hk_12 hk_13
  have hle := lbR_le (R := SLt) W s
  refine RT.eff rfl rfl (OpE.alloc hs_3 zero3 fun b_3 w_4 hs_4 hch_3 hb_3 => ?_)
  have hs_4d : Sat w [cObj b_1 46 [(Value.pointer (some ⟨g, 0, none⟩))], cObj b_2 9 [(Value.string s)], cObj b_3 3 [(Value.int .i64 ((0 : Nat) : Int))]] _ := hs_4
  refine RT.eff rfl rfl (OpE.storeObj one3 hs_4d (i := 2) rfl rfl rfl (rfl) rfl fun w_5 hs_5 hch_4 => ?_)
  have hs_5d : Sat w [cObj b_1 46 [(Value.pointer (some ⟨g, 0, none⟩))], cObj b_2 9 [(Value.string s)], cObj b_3 3 [(Value.int .i64 (((lbW W s) : Nat) : Int))]] _ := hs_5
  refine RT.nil ?_
  refine CW.seq ?_
  refine CW.draw (fun w' => Sat w [cObj b_1 46 [(Value.pointer (some ⟨g, 0, none⟩))], cObj b_2 9 [(Value.string s)], cObj b_3 3 [(Value.int .i64 (((lbW W s) : Nat) : Int))]] w') (.free 0 (.free 1 (.free 2 (.free 3 (.free 4 (.free 5 (.free 6 (.one 7 (.one 8 (.free 9 .fin)))))))))) mixed (by kernel_rfl) ?_
  have hs_6 := hs_5d.drew
  refine RP.ev rfl rfl rfl (fun w' hS' => Ev.load scal46 rfl (hS'.cell (i := 0) (j := 0) rfl rfl)) hs_6 ?_
  refine RP.ev rfl rfl rfl (fun w' hS' => Ev.nilCheck rfl) hs_6 ?_
  refine RP.ev rfl rfl rfl (fun w' hS' => Ev.fieldAddr fld92_0 rfl rfl) hs_6 ?_
  refine RP.ev rfl rfl rfl (fun w' hS' => Ev.load scal45 rfl (hS'.ext _ _ h.c0)) hs_6 ?_
  refine RP.ev rfl rfl rfl (fun w' hS' => Ev.lenL Try.underlying45 rfl (h.hW.ext hS'.ext)) hs_6 ?_
  refine RP.ev rfl rfl rfl (fun w' hS' => Ev.load scal3 rfl (hS'.cell (i := 2) (j := 0) rfl rfl)) hs_6 ?_
  refine RP.ev rfl rfl rfl (fun w' hS' => Ev.subI rfl rfl (by omega) (by omega)) hs_6 ?_
  refine RP.eff rfl rfl rfl (OpE.ev (Ev.makeFunc3 rfl rfl rfl) ⟨hs_6, ?_⟩)
  refine RP.eff rfl rfl rfl (OpE.call ent73 rfl ((search_ok 76 #[(Value.pointer (some ⟨b_1, 0, none⟩)), (Value.pointer (some ⟨b_3, 0, none⟩)), (Value.pointer (some ⟨b_2, 0, none⟩))] ((W.length - (lbW W s))) (fun i => !preB s (W.getD (lbW W s + i) ByteArray.empty)) _ ent76 (by omega) (fun i w3 hi hq => prefix2_ok _ _ _ g vw vc vo W C O s (lbW W s) i w3 (hq.ext _ _ (hs_6.cell (i := 0) (j := 0) rfl rfl)) (hq.ext _ _ (hs_6.cell (i := 2) (j := 0) rfl rfl)) (hq.ext _ _ (hs_6.cell (i := 1) (j := 0) rfl rfl)) ((h.ext hs_6.ext).ext hq.ext) (by omega) hn) (fun a b hab hb hp => pre_mono hasc s hab hb hp)).mono fun r_2 w_6 h_2 => ?_))
  obtain ⟨sk_2, rfl, hk_21, hk_22, hk_23, hp_2⟩ := h_2
  have hs_7 : Sat w [cObj b_1 46 [(Value.pointer (some ⟨g, 0, none⟩))], cObj b_2 9 [(Value.string s)], cObj b_3 3 [(Value.int .i64 (((lbW W s) : Nat) : Int))]] _ := hs_6.adds hp_2
  obtain rfl : sk_2 = preN W s := search_pre hasc hk_21 hk_22 hk_23
  have hpl := preN_le W s
  have hS_1 : Sat w [cObj b_1 46 [(Value.pointer (some ⟨g, 0, none⟩))], cObj b_2 9 [(Value.string s)], cObj b_3 3 [(Value.int .i64 (((lbW W s) : Nat) : Int))]] _ := hs_7.sub ((.cons_cons _ (.cons_cons _ (.cons_cons _ .slnil))))
  refine ⟨hS_1, ?_⟩
  refine RP.ev rfl rfl rfl (fun w' hS' => Ev.assign rfl) hS_1 ?_
  refine RP.fin ?_
  refine CW.seq ?_
  refine CW.seq ?_
  refine CW.region ?_
  refine RT.ev rfl rfl (Ev.move rfl) ?_
  refine RT.ev rfl rfl (Ev.eqlN (b := 0) rfl rfl) ?_
  refine RT.nil ?_
  refine CW.condD rfl (fun hc_1 => ?_) (fun hc_1 => ?_)
  · refine CW.seq ?_
    refine CW.region ?_
    refine RT.ev rfl rfl (Ev.assign rfl) ?_
    refine RT.ev rfl rfl (Ev.assign rfl) ?_
    refine RT.nil ?_
    refine CW.ret ?_
    show PostK _ _ _ _ _ _
    refine post2 rfl rfl rfl ?_
    have hs_8 : Sat w [] w_6 := hs_7.sub ((.cons _ (.cons _ (.cons _ .slnil))))
    have hq : prefN W s = (0, 0) := by unfold prefN; rw [if_pos (by omega)]
    rw [hq]
    exact ⟨rfl, hs_8⟩
  · refine CW.skip ?_
    refine CW.seq ?_
    refine CW.draw (fun w' => Sat w [cObj b_1 46 [(Value.pointer (some ⟨g, 0, none⟩))], cObj b_2 9 [(Value.string s)], cObj b_3 3 [(Value.int .i64 (((lbW W s) : Nat) : Int))]] w') (.free 0 (.free 1 (.free 2 (.free 3 (.free 4 (.free 5 .fin)))))) mixed (by kernel_rfl) ?_
    have hs_9 := hs_7.drew
    refine RP.ev rfl rfl rfl (fun w' hS' => Ev.load scal3 rfl (hS'.cell (i := 2) (j := 0) rfl rfl)) hs_9 ?_
    refine RP.ev rfl rfl rfl (fun w' hS' => Ev.load scal3 rfl (hS'.cell (i := 2) (j := 0) rfl rfl)) hs_9 ?_
    refine RP.ev rfl rfl rfl (fun w' hS' => Ev.move rfl) hs_9 ?_
    refine RP.ev rfl rfl rfl (fun w' hS' => Ev.addI rfl rfl (by omega)) hs_9 ?_
    refine RP.ev rfl rfl rfl (fun w' hS' => Ev.assign rfl) hs_9 ?_
    refine RP.ev rfl rfl rfl (fun w' hS' => Ev.assign rfl) hs_9 ?_
    refine RP.fin ?_
    refine CW.ret ?_
    show PostK _ _ _ _ _ _
    refine post2 rfl rfl rfl ?_
    have hs_10 : Sat w [] w_6.drew := hs_9.sub ((.cons _ (.cons _ (.cons _ .slnil))))
    have hq : prefN W s = (lbW W s, lbW W s + preN W s) := by unfold prefN; rw [if_neg (by omega)]
    rw [hq]
    exact ⟨rfl, hs_10⟩

theorem suffix_ok (g : Nat) (vw vc vo : Value) (W : List ByteArray) (C O : List Nat) (s : ByteArray) (w : World) (h : LexAt w g vw vc vo W C O) (hO : ∀ x ∈ O, x < W.length) (hsz : ∀ x ∈ W, x.size ≤ 1000000) (hol : O.length ≤ 1000000) :
    CallsV Try.prog 43 [(Value.pointer (some ⟨g, 0, none⟩)), (Value.string s)] w fun r w' => Sat w [cL r 3 (encN .i64) (sufN W O s)] w' := by
  have hs0 := Sat.start w
  refine callsV_of Try.func43 rfl rfl ?_
  refine CW.seq ?_
  refine CW.region ?_
  refine RT.ev rfl rfl (Ev.assign rfl) ?_
  refine RT.nil ?_
  refine CW.seq ?_
  refine CW.region ?_
  refine RT.ev rfl rfl (Ev.assign rfl) ?_
  refine RT.nil ?_
  refine CW.seq ?_
  refine CW.seq ?_
  have hs_1 : Sat w [cL (Value.slice none 0 0) 3 (encN .i64) ([])] _ := hs0.newNilL 3 (encN .i64)
  refine CW.region ?_
  refine RT.ev rfl rfl (Ev.move rfl) ?_
  refine RT.ev rfl rfl (Ev.nilCheck rfl) ?_
  refine RT.ev rfl rfl (Ev.fieldAddr fld92_2 rfl rfl) ?_
  refine RT.ev rfl rfl (Ev.load scal22 rfl (hs_1.ext _ _ h.c2)) ?_
  refine RT.ev rfl rfl (Ev.lenL Try.underlying22 rfl (h.hO.ext hs_1.ext)) ?_
  refine RT.ev rfl rfl (Ev.move rfl) ?_
  refine RT.nil ?_
  refine CW.block ?_
  refine CW.loop (α := Nat × Value × List Nat) (fun (k, v, acc) => [(0, (Value.pointer (some ⟨g, 0, none⟩))), (1, (Value.string s)), (5, v), (11, vo), (12, (Value.int .i64 ((O.length : Nat) : Int))), (13, (Value.int .i64 ((k : Nat) : Int)))]) (fun (k, v, acc) w' => Sat w [cL v 3 (encN .i64) (acc)] w' ∧ (k ≤ O.length) ∧ (acc = sufN W (O.take k) s) ∧ (acc.length ≤ k)) (fun (k, v, acc) => O.length - k) (0, (Value.slice none 0 0), []) ⟨rfl, rfl, rfl, rfl, rfl, rfl, trivial⟩ ⟨hs_1, Nat.zero_le _, rfl, Nat.le_refl _⟩ ?_
  rintro ⟨k, v, acc⟩ w_1 ⟨hs_2, hk, hacc, hal⟩
  show CW _ _ _ _ [(0, (Value.pointer (some ⟨g, 0, none⟩))), (1, (Value.string s)), (5, v), (11, vo), (12, (Value.int .i64 ((O.length : Nat) : Int))), (13, (Value.int .i64 ((k : Nat) : Int)))] _
  refine CW.seq ?_
  refine CW.region ?_
  refine RT.ev rfl rfl (Ev.lssN rfl rfl) ?_
  refine RT.nil ?_
  refine CW.seq ?_
  refine CW.condD rfl (fun hc_1 => ?_) (fun hc_1 => ?_)
  · refine CW.skip ?_
    refine CW.seq ?_
    refine CW.block ?_
    refine CW.seq ?_
    obtain ⟨n, hn⟩ : ∃ n, (O)[k]? = some n := ⟨_, List.getElem?_eq_getElem hc_1⟩
    refine CW.region ?_
    refine RT.ev rfl rfl (Ev.idxL (E := encN .i64) sl22 rfl rfl (h.hO.ext hs_2.ext) (by omega)) ?_
    refine RT.ev rfl rfl (Ev.ldL (E := encN .i64) scal3 rfl (h.hO.ext hs_2.ext) hn (by decide) rfl) ?_
    refine RT.ev rfl rfl (Ev.assign rfl) ?_
    refine RT.nil ?_
    refine CW.seq ?_
    have hnw := hO n (List.mem_of_getElem? hn)
    obtain ⟨x, hx⟩ : ∃ x, W[n]? = some x := ⟨_, List.getElem?_eq_getElem hnw⟩
    have hxs := hsz x (List.mem_of_getElem? hx)
    have hst := sufN_snoc (s := s) hn hx
    refine CW.region ?_
    refine RT.ev rfl rfl (Ev.move rfl) ?_
    refine RT.ev rfl rfl (Ev.nilCheck rfl) ?_
    refine RT.ev rfl rfl (Ev.fieldAddr fld92_0 rfl rfl) ?_
    refine RT.ev rfl rfl (Ev.load scal45 rfl (hs_2.ext _ _ h.c0)) ?_
    refine RT.ev rfl rfl (Ev.move rfl) ?_
    refine RT.ev rfl rfl (Ev.idxL (E := encTx) sl45 rfl rfl (h.hW.ext hs_2.ext) (by omega)) ?_
    refine RT.ev rfl rfl (Ev.ldL (E := encTx) scal9 rfl (h.hW.ext hs_2.ext) hx (by decide) rfl) ?_
    refine RT.ev rfl rfl (Ev.move rfl) ?_
    refine RT.eff rfl rfl (OpE.call ent78 rfl ((hasSuf_ok x s _ (by omega)).mono fun r_1 w_2 h_1 => ?_))
    obtain ⟨rfl, rfl⟩ := h_1
    refine RT.nil ?_
    refine CW.cond rfl (fun hc_2 => ?_) (fun hc_2 => ?_)
    · refine CW.region ?_
      refine RT.ev rfl rfl (Ev.move rfl) ?_
      refine RT.ev rfl rfl (Ev.move rfl) ?_
      refine RT.eff rfl rfl (OpE.lit1 (encN .i64) n sl22 rfl hs_2 rfl fun v_1 w_3 hs_3 hch_1 => ?_)
      have hs_3d : Sat w [cL v 3 (encN .i64) (acc), cL v_1 3 (encN .i64) ([n])] _ := hs_3
      refine RT.eff rfl rfl (OpE.appendL 0 sl22 hs_3d rfl rfl rfl Try.underlying22 (hs_3d.rdL 1 rfl) (by simp only [List.length_append, List.length_cons, List.length_nil]; omega) (by simp only [List.length_append, List.length_cons, List.length_nil]; omega) fun v_2 w_4 hs_4 hch_2 => ?_)
      have hs_4d : Sat w [cL v_2 3 (encN .i64) (acc ++ [n])] _ := hs_4.drop 1
      refine RT.ev rfl rfl (Ev.assign rfl) ?_
      refine RT.nil ?_
      refine CW.region ?_
      refine RT.ev rfl rfl (Ev.addI (b := 1) rfl rfl (by omega)) ?_
      refine RT.ev rfl rfl (Ev.move rfl) ?_
      refine RT.nil ?_
      exact ⟨(k + 1, v_2, acc ++ [n]), ⟨rfl, rfl, rfl, rfl, rfl, rfl, trivial⟩, ⟨hs_4d, by omega, by rw [hst, if_pos hc_2, hacc], by (try simp only [List.length_append, List.length_cons, List.length_nil]); omega⟩, (show (O.length - (k + 1)) < (O.length - k) from by omega)⟩
    · refine CW.skip ?_
      refine CW.region ?_
      refine RT.ev rfl rfl (Ev.addI (b := 1) rfl rfl (by omega)) ?_
      refine RT.ev rfl rfl (Ev.move rfl) ?_
      refine RT.nil ?_
      exact ⟨(k + 1, v, acc), ⟨rfl, rfl, rfl, rfl, rfl, rfl, trivial⟩, ⟨hs_2, by omega, by rw [hst, if_neg (by simpa using hc_2), hacc], by (try simp only [List.length_append, List.length_cons, List.length_nil]); omega⟩, (show (O.length - (k + 1)) < (O.length - k) from by omega)⟩
  · refine CW.exit0 ?_
    refine CW.seq ?_
    refine CW.region ?_
    refine RT.ev rfl rfl (Ev.move rfl) ?_
    refine RT.ev rfl rfl (Ev.assign rfl) ?_
    refine RT.nil ?_
    refine CW.ret ?_
    show PostK _ _ _ _ _ _
    refine post1 rfl rfl ?_
    rw [show k = O.length by omega, List.take_length] at hacc
    rw [← hacc]
    exact hs_2

theorem cloneI_ok (v : Value) (l : List Nat) (w : World) (hv : RdL w v (encN .i64) l) (hn : l.length ≤ 1000000) : CallsV Try.prog 79 [v] w fun r w' => Sat w [cL r 3 (encN .i64) l] w' := by
  obtain ⟨a, cap, rfl, hc, hcell⟩ := hv
  cases l with
  | nil =>
    cases a with
    | none =>
      refine Calls.mono (Try.slices_Clone_int_nil 0 cap w) ?_
      rintro e w' ⟨rfl, rfl⟩
      exact ⟨_, rfl, (Sat.start _).newNilL 3 (encN .i64)⟩
    | some a =>
      refine Calls.mono (Try.slices_Clone_int_zero a cap w) ?_
      rintro e w' h
      obtain ⟨v', rfl, ho, _, hb⟩ := h
      exact ⟨_, rfl, Sat.of_own ho hb⟩
  | cons x r =>
    obtain ⟨b, o, ha, _⟩ := hcell 0 (.int .i64 (x : Int)) (by rw [Enc.all_cons]; rfl)
    subst ha
    have hz : ∀ j, j < ((x :: r).map fun n : Nat => (n : Int)).length → w.cell? ⟨b, o + j, none⟩ = some (.int .i64 (((x :: r).map fun n : Nat => (n : Int)).getD j 0)) := fun j hj => by
      have hj' : j < (x :: r).length := by simpa using hj
      obtain ⟨b2, o2, h1, h2⟩ := hcell j (.int .i64 ((((x :: r)[j] : Nat)) : Int)) (by rw [allN_map, List.getElem?_map, List.getElem?_eq_getElem hj']; rfl)
      cases h1
      rw [h2, List.getD_eq_getElem?_getD, List.getElem?_map, List.getElem?_eq_getElem hj']; rfl
    have hc := Try.slices_Clone_int b o (x :: r).length cap ((x :: r).map fun n : Nat => (n : Int)) w (by simp) (by omega) hz
    refine Calls.mono hc ?_
    rintro e w' ⟨v', rfl, ho, _, hb⟩
    have e1 : ((((x :: r).map fun n : Nat => (n : Int)).take (x :: r).length).map (Value.int .i64)) = (encN .i64).all (x :: r) := by
      rw [List.take_of_length_le (by simp), List.map_map, allN_map]; rfl
    rw [e1] at ho
    exact ⟨_, rfl, Sat.of_own ho hb⟩

theorem byReverse_ok (g : Nat) (vw vc vo : Value) (W : List ByteArray) (C O : List Nat) (w : World) (h : LexAt w g vw vc vo W C O) (hol : O.length ≤ 1000000) :
    CallsV Try.prog 45 [(Value.pointer (some ⟨g, 0, none⟩))] w fun r w' => Sat w [cL r 3 (encN .i64) O] w' := by
  have hs0 := Sat.start w
  refine callsV_of Try.func45 rfl rfl ?_
  refine CW.seq ?_
  refine CW.region ?_
  refine RT.ev rfl rfl (Ev.assign rfl) ?_
  refine RT.nil ?_
  refine CW.seq ?_
  refine CW.region ?_
  refine RT.ev rfl rfl (Ev.move rfl) ?_
  refine RT.ev rfl rfl (Ev.nilCheck rfl) ?_
  refine RT.ev rfl rfl (Ev.fieldAddr fld92_2 rfl rfl) ?_
  refine RT.ev rfl rfl (Ev.load scal22 rfl (hs0.ext _ _ h.c2)) ?_
  refine RT.eff rfl rfl (OpE.call ent79 rfl ((cloneI_ok _ (O) _ (h.hO.ext hs0.ext) (hol)).mono fun r_1 w_1 h_1 => ?_))
  have hp_1 := h_1
  have hs_1 : Sat w [cL r_1 3 (encN .i64) (O)] _ := hs0.adds hp_1
  refine RT.ev rfl rfl (Ev.assign rfl) ?_
  refine RT.nil ?_
  refine CW.ret ?_
  show PostK _ _ _ _ _ _
  refine post1 rfl rfl ?_
  exact hs_1

end Go.Proofs.Ytfhbflhnelbkfaa
