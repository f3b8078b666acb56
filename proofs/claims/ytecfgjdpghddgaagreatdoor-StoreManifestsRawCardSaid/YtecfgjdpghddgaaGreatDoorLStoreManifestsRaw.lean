/- What is proved: for every input, StoreManifestsRaw returns true and leaves its arguments as they were: the text of any store, or its error, and the store of any text, or its error, are those of the reference. No condition beyond the card's own: the listed package variables start as the program's text lays them. -/
import Derived.Test.YtecfgjdpghddgaaGreatDoorCards
import Derived.Test.YtecfgjdpghddgaaGreatDoorTie
import Derived.Test.YtecfgjdpghddgaaGreatDoorLd
import Derived.Test.YtecfgjdpghddgaaGreatDoorJStoreManifestsRaw
import Derived.Test.YtecfgjdpghddgaaGreatDoorF42k
import Derived.Stop.Joined
import Derived.SevenTiedAt
import Derived.ChangeMaps5
set_option linter.unusedVariables false
set_option linter.unusedSimpArgs false
set_option linter.unusedSectionVars false
namespace Go.Proofs.YtecfgjdpghddgaaGreatDoor
open Go.ChangeShapes Go.WideShapes Go.ChangeAt Go.RowKit Go.Kw
set_option maxRecDepth 100000
theorem storeManifestsRaw_lifted (os : Os) (started : os.Started) (H : Type) (enc : TypeId × Value → H) :
    ReturnsInHanded {} Tryz.checked os 4 .any (fun w args => (Rows.storeManifestsRawSpec.pre enc Tryz.prog Tryz.f4 Rows.storeManifestsRawRow.domain false w args ∧ laidMetH Tryz.prog Rows.storeManifestsRawRow.laid w) ∧ sizedMet enc Tryz.prog Tryz.f4 (OpenSpec.ofChange Rows.storeManifestsRawSpec) false w args) (Rows.storeManifestsRawSpec.post enc Tryz.prog Tryz.f4 false true false false) := by
  refine handed_and_shaped (C := Tryz.checked) (X := fun w _ => laidMetH Tryz.prog Rows.storeManifestsRawRow.laid w) (fun _ _ _ hh h => h.of_heap hh) own_Tryz started (by kernel_rfl) Tryz.func4
    (ChangeSpec.witness_shaped (enc := enc) (C := Tryz.checked) (os := os) (X := fun w _ => laidMetH Tryz.prog Rows.storeManifestsRawRow.laid w) false (World.laidAll Tryz.prog os Rows.storeManifestsRawRow.laid) #[.agg #[.slice none 0 0, .int .i64 0, .int .i64 0, .slice none 0 0, .slice none 0 0], .string ByteArray.empty] 8 (World.laidAll_os _ _ _)
      (World.shaped_of_ZipB (by kernel_rfl) (by kernel_rfl)) (by kernel_rfl) (by kernel_rfl) (by kernel_rfl)
      (by rw [MakeChecks.laidMetH_plain _ _ _ (by kernel_rfl)]; exact laidMet_laidAll _ (by kernel_rfl) (by kernel_rfl))) ?_
  intro W base args ds gs before hval0 hW hL hsh
  have hval : ∀ (j : Nat) t v, Tryz.f4.params[j]? = some t → args[j]? = some v → Value.okWide Tryz.prog W .any base t v := hval0
  have hW' := hW
  obtain ⟨p, q, hA0, hV, rfl, hfz, hnd⟩ := hW
  have hA : DataW.TrodAll enc Tryz.prog W 0 (fun _ => true) true Tryz.f4.params.toList args.toList ds p := hA0
  rw [Tryz.params4] at hA hval
  obtain ⟨v0, v1, d0, d1, p0, p1, rfl, rfl, rfl, h0, h1⟩ := trodAll_two hA
  obtain ⟨rfl, rfl⟩ := trodVars_none hV
  have hlt : ∀ x ∈ p0 ++ p1, x.block < W.heap.size := fun x hx => by simpa using hW'.lt x (by simpa using hx)
  obtain ⟨cs0, rfl, _⟩ := okWide_struct Tryz.underlying27 (hval 0 27 v0 rfl rfl)
  obtain ⟨av, pv, rv, al, nx, jr, pl, rfl, ha, hp, hrow, hdl, hrv⟩ := rd_store h0
  obtain ⟨a1, rfl, _, _, wa1⟩ := Go.ChangeMaps.open_string Tryz.underlying9 (hval 1 9 v1 rfl rfl) h1
  simp only [List.append_nil] at hW'
  refine Calls.mono (storeManifestsRaw_ok av pv rv al nx jr pl a1 W ha hp hrow hdl hrv (gv_of hL hsh)) fun e W' he => ?_
  obtain ⟨r, rfl, rfl, hS⟩ := he
  have hbelow := hS.old
  exact ⟨_, rfl, _, _, _, [], _, [], hW', trodAll_mk1 (shut_bool Tryz.underlying4 true), trodAll_mk2 (Below.trod laid_Tryz (by kernel_rfl) (of_decide_eq_true (by kernel_rfl)) h0 hbelow (fun x hx => hlt x (by simp [hx]))) (Below.trod laid_Tryz (by kernel_rfl) (of_decide_eq_true (by kernel_rfl)) h1 hbelow (fun x hx => hlt x (by simp [hx]))), rfl, hbelow.frame _, fun h => by cases h⟩
theorem storeManifestsRaw_row : Rows.StoreManifestsRawSaid :=
  OpenClaim.holds_of_wide 4 Tryz.f4 rfl rfl rfl rfl rfl rfl rfl ⟨rfl, rfl, rfl, rfl, rfl⟩ rfl rfl rfl rfl rfl (by kernel_rfl) Tryz.func4 storeManifestsRaw_closed
    (of_decide_eq_true (by kernel_rfl)) (by unfold Func.isWrapper; first | (rw [if_pos (by decide +kernel)]; kernel_rfl) | (rw [if_neg (by decide +kernel)]; exact ⟨rfl, rfl⟩))
    (fun os started H enc _ => storeManifestsRaw_lifted os started H enc)
theorem storeManifestsRaw_holds : Rows.StoreManifestsRawCardSaid :=
  Claim7.holds_tied_plain_at .later [] [.data, .data, .data, .data, .sentinel, .sentinel, .pinned] true (true, "09dc18dfbbef71959a8795317679501d946141fea5af8e06c0c85a50aa377461") true storeManifestsRaw_row (fun _ h => by cases h) (by kernel_rfl) (fun _ h => by cases h) storeManifestsRaw_row_tie rfl ⟨rfl, rfl⟩ (by kernel_rfl) rfl
    (fun f fn hf hfn => by
      obtain rfl : f = 4 := Option.some.inj ((show Tryz.prog.funcNamed "corpora/corporalaw42.StoreManifestsRaw" = some 4 by kernel_rfl).symm.trans hf) |>.symm
      obtain rfl : fn = Tryz.f4 := (Option.some.inj (Tryz.func4.symm.trans hfn)).symm
      exact ⟨by kernel_rfl, fun j t ht => by
        rw [Tryz.params4] at ht
        have hm : t ∈ [27, 9] := by simpa using Array.mem_of_getElem? ht
        have hall : ([27, 9].all fun u => !Tryz.prog.wantsStandIn u) = true := by kernel_rfl
        exact (show Tryz.prog.wantsStandIn t = false by simpa using List.all_eq_true.1 hall t hm)⟩)
    (by kernel_rfl)
#print axioms storeManifestsRaw_holds
end Go.Proofs.YtecfgjdpghddgaaGreatDoor
