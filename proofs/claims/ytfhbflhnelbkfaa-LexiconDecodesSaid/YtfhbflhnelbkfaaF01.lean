/- The walks of the functions of F01, printed by our own program (kwgen.py) out of our descriptions (base.py). -/
import Derived.Test.YtfhbflhnelbkfaaKg
import Derived.Test.YtfhbflhnelbkfaaShelfL
import Derived.Test.YtfhbflhnelbkfaaTab
namespace Go.Proofs.Ytfhbflhnelbkfaa
open Go.RowKit Go.Kw
set_option maxRecDepth 100000
set_option linter.unusedVariables false
set_option linter.unusedSimpArgs false
theorem units_ok (s : ByteArray) (w : World) :
    CallsV Try.prog 111 [(Value.string s)] w fun r w' => ∃ b, r = .func (.func 151) #[] #[.pointer (some ⟨b, 0, none⟩)] ∧ Sat w [cObj b 9 [.string s]] w' := by
  have hs0 := Sat.start w
  refine callsV_of Try.func111 rfl rfl ?_
  refine CW.seq ?_
  refine CW.region ?_
  refine RT.eff rfl rfl (OpE.box hs0 rfl fun b_1 w_1 hs_1 hch_1 hb_1 => ?_)
  have hs_1d : Sat w [cObj b_1 9 [(Value.string s)]] _ := hs_1
  refine RT.ev rfl rfl (Ev.assign rfl) ?_
  refine RT.nil ?_
  refine CW.seq ?_
  refine CW.region ?_
  refine RT.ev rfl rfl (Ev.makeFunc1 rfl) ?_
  refine RT.ev rfl rfl (Ev.assign rfl) ?_
  refine RT.nil ?_
  refine CW.ret ?_
  show PostK _ _ _ _ _ _
  refine post1 rfl rfl ?_
  exact ⟨_, rfl, hs_1d⟩

theorem units1_ok (w0 w : World) (s : ByteArray) (bs : Nat) (hn : s.size ≤ 1000000) {G : Type} (l : Nat) (C X : List Un → G → List Chunk) (ds : List Chunk) (g0 : G) (hs0 : Sat w0 ([cObj bs 9 [.string s]] ++ (C [] g0 ++ ds)) w)
    (hr : ∀ done u rest w2 es g, uns s.data.toList = done ++ u :: rest → Sat w0 (C done g ++ es) w2 → YieldV Try.prog l [encU.ag u] w2 fun b w3 => (b = true ∧ ∃ g', Sat w0 (C (done ++ [u]) g' ++ es) w3) ∨ (b = false ∧ ∃ g', Sat w0 (X (done ++ [u]) g' ++ es) w3)) :
    CallsV Try.prog 151 [(Value.func (.yield l) #[] #[]), (Value.pointer (some ⟨bs, 0, none⟩))] w fun _ w' => (∃ g, Sat w0 ([cObj bs 9 [.string s]] ++ (C (uns s.data.toList) g ++ ds)) w') ∨ ∃ done u rest g, uns s.data.toList = done ++ u :: rest ∧ Sat w0 ([cObj bs 9 [.string s]] ++ (X (done ++ [u]) g ++ ds)) w' := by
  obtain ⟨tl, htl⟩ : ∃ tl, tl = C [] g0 ++ ds := ⟨_, rfl⟩
  rw [← htl] at hs0
  refine callsV_of Try.func151 rfl rfl ?_
  refine CW.seq ?_
  refine CW.region ?_
  refine RT.ev rfl rfl (Ev.build bt103 rfl ⟨rfl, trivial⟩ rfl) ?_
  refine RT.eff rfl rfl (OpE.alloc hs0 zero103 fun b_1 w_1 hs_1 hch_1 hb_1 => ?_)
  have hs_1d : Sat w0 ([cObj bs 9 [(Value.string s)], cObj b_1 103 [(Value.int .i32 ((0 : Nat) : Int)), (Value.int .i64 ((0 : Nat) : Int)), (Value.int .i64 ((0 : Nat) : Int))]] ++ tl) _ := (hs_1).mid
  refine RT.eff rfl rfl (OpE.storeObjA (vs := [(Value.int .i32 ((0 : Nat) : Int)), (Value.int .i64 (-1)), (Value.int .i64 ((0 : Nat) : Int))]) agg103 hs_1d (i := 1) rfl rfl rfl rfl (fun v h => by simp only [List.mem_cons, List.not_mem_nil, or_false] at h; rcases h with rfl | rfl | rfl; exact rfl; exact rfl; exact rfl) fun w_2 hs_2 hch_2 => ?_)
  have hs_2d : Sat w0 ([cObj bs 9 [(Value.string s)], cObj b_1 103 [(Value.int .i32 ((0 : Nat) : Int)), (Value.int .i64 (-1)), (Value.int .i64 ((0 : Nat) : Int))]] ++ tl) _ := hs_2
  refine RT.nil ?_
  refine CW.seq ?_
  refine CW.seq ?_
  refine CW.region ?_
  refine RT.ev rfl rfl (Ev.load scal9 rfl (hs_2d.cell (i := 0) (j := 0) rfl rfl)) ?_
  refine RT.eff rfl rfl (OpE.rangeStr Try.underlying9 hs_2d rfl fun it_1 w_3 hs_3 => ?_)
  have hs_3d : Sat w0 ([cObj bs 9 [(Value.string s)], cObj b_1 103 [(Value.int .i32 ((0 : Nat) : Int)), (Value.int .i64 (-1)), (Value.int .i64 ((0 : Nat) : Int))], cSIt it_1 s (0)] ++ tl) _ := (hs_3).mid
  refine RT.nil ?_
  refine CW.block ?_
  refine CW.loop (α := Nat × Nat × Int × Int × List Un × G × List Chunk) (fun (i, r, a, z, done, gg, tl) => [(0, (Value.func (.yield l) #[] #[])), (1, (Value.pointer (some ⟨bs, 0, none⟩))), (3, (Value.pointer (some ⟨b_1, 0, none⟩))), (8, (Value.pointer (some ⟨it_1, 0, none⟩)))]) (fun (i, r, a, z, done, gg, tl) w' => Sat w0 ([cObj bs 9 [(Value.string s)], cObj b_1 103 [(Value.int .i32 ((r : Nat) : Int)), (Value.int .i64 (a)), (Value.int .i64 (z))], cSIt it_1 s (i)] ++ tl) w' ∧ (i ≤ s.size) ∧ (tl = C done gg ++ ds) ∧ ((a = -1 ∧ i = 0 ∧ done = []) ∨ (∃ a' : Nat, a = (a' : Int) ∧ a' < i ∧ uns s.data.toList = done ++ ⟨r, a', i - a'⟩ :: unsFrom s.data.toList i))) (fun (i, r, a, z, done, gg, tl) => s.size - i) (0, 0, (-1), 0, [], g0, tl) ⟨rfl, rfl, rfl, rfl, trivial⟩ ⟨hs_3d, Nat.zero_le _, htl, .inl ⟨rfl, rfl, rfl⟩⟩ ?_
  rintro ⟨i, r, a, z, done, gg, tl⟩ w_4 ⟨hs_4, hi, htl, hp⟩
  show CW _ _ _ _ [(0, (Value.func (.yield l) #[] #[])), (1, (Value.pointer (some ⟨bs, 0, none⟩))), (3, (Value.pointer (some ⟨b_1, 0, none⟩))), (8, (Value.pointer (some ⟨it_1, 0, none⟩)))] _
  refine CW.seq ?_
  refine CW.region ?_
  refine RT.eff rfl rfl (OpE.nextStr (i := 2) hs_4 rfl rfl ?_ ?_)
  · intro hnx_1
    refine RT.ev rfl rfl (Ev.extract rfl rfl) ?_
    refine RT.nil ?_
    refine CW.seq ?_
    refine CW.condF rfl (rfl) ?_
    refine CW.exit0 ?_
    refine CW.seq ?_
    rcases hp with ⟨rfl, hi0, hd0⟩ | ⟨a', rfl, ha', hu⟩
    · refine CW.region ?_
      refine RT.ev rfl rfl (Ev.load scal9 rfl (hs_4.cell (i := 0) (j := 0) rfl rfl)) ?_
      refine RT.ev rfl rfl (Ev.lenStr Try.underlying9 rfl) ?_
      refine RT.ev rfl rfl (Ev.fieldAddr fld103_1 rfl rfl) ?_
      refine RT.ev rfl rfl (Ev.load scal3 rfl (hs_4.cell (i := 1) (j := 1) rfl rfl)) ?_
      refine RT.ev rfl rfl (Ev.sub rfl rfl (by unfold inI64; omega)) ?_
      refine RT.ev rfl rfl (Ev.fieldAddr fld103_2 rfl rfl) ?_
      refine RT.eff rfl rfl (OpE.storeObj one3 hs_4 (i := 1) rfl rfl rfl (rfl) rfl fun w_6 hs_6 hch_3 => ?_)
      have hs_6d : Sat w0 ([cObj bs 9 [(Value.string s)], cObj b_1 103 [(Value.int .i32 ((r : Nat) : Int)), (Value.int .i64 ((-1 : Int))), (Value.int .i64 ((((s.size : Nat) : Int) - (-1 : Int))))], cSIt it_1 s (i)] ++ tl) _ := hs_6
      refine RT.nil ?_
      refine CW.seq ?_
      refine CW.region ?_
      refine RT.ev rfl rfl (Ev.fieldAddr fld103_1 rfl rfl) ?_
      refine RT.ev rfl rfl (Ev.load scal3 rfl (hs_6d.cell (i := 1) (j := 1) rfl rfl)) ?_
      refine RT.ev rfl rfl (Ev.geq rfl rfl) ?_
      refine RT.nil ?_
      refine CW.condF rfl (decide_eq_false (by omega)) ?_
      refine CW.skip ?_
      show PostK _ _ _ _ _ _
      refine post0 rfl ?_
      have hus : uns s.data.toList = [] := by have := uns_end (s := s) (i := 0) (by omega); exact this
      rw [hd0] at htl
      subst htl
      rw [hus]
      exact .inl ⟨gg, hs_6d.sub ((.cons_cons _ (.cons _ (.cons _ (.refl _)))))⟩
    · have hie : i = s.size := by omega
      rw [hie, uns_end (Nat.le_refl _)] at hu
      refine CW.region ?_
      refine RT.ev rfl rfl (Ev.load scal9 rfl (hs_4.cell (i := 0) (j := 0) rfl rfl)) ?_
      refine RT.ev rfl rfl (Ev.lenStr Try.underlying9 rfl) ?_
      refine RT.ev rfl rfl (Ev.fieldAddr fld103_1 rfl rfl) ?_
      refine RT.ev rfl rfl (Ev.load scal3 rfl (hs_4.cell (i := 1) (j := 1) rfl rfl)) ?_
      refine RT.ev rfl rfl (Ev.subI rfl rfl (by omega) (by omega)) ?_
      refine RT.ev rfl rfl (Ev.fieldAddr fld103_2 rfl rfl) ?_
      refine RT.eff rfl rfl (OpE.storeObj one3 hs_4 (i := 1) rfl rfl rfl (rfl) rfl fun w_7 hs_7 hch_4 => ?_)
      have hs_7d : Sat w0 ([cObj bs 9 [(Value.string s)], cObj b_1 103 [(Value.int .i32 ((r : Nat) : Int)), (Value.int .i64 ((a' : Nat) : Int)), (Value.int .i64 (((s.size - a') : Nat) : Int))], cSIt it_1 s (i)] ++ tl) _ := hs_7
      refine RT.nil ?_
      refine CW.seq ?_
      refine CW.region ?_
      refine RT.ev rfl rfl (Ev.fieldAddr fld103_1 rfl rfl) ?_
      refine RT.ev rfl rfl (Ev.load scal3 rfl (hs_7d.cell (i := 1) (j := 1) rfl rfl)) ?_
      refine RT.ev rfl rfl (Ev.geqN (b := 0) rfl rfl) ?_
      refine RT.nil ?_
      refine CW.condT rfl (decide_eq_true (by omega)) ?_
      refine CW.regionI ?_
      refine RTI.ev rfl rfl (Ev.move rfl) ?_
      refine RTI.ev rfl rfl (Ev.ldObj agg103 rfl hs_7d (i := 1) rfl rfl) ?_
      have hy_1 : Sat w0 (C done gg ++ ([cObj bs 9 [(Value.string s)], cObj b_1 103 [(Value.int .i32 ((r : Nat) : Int)), (Value.int .i64 ((a' : Nat) : Int)), (Value.int .i64 (((s.size - a') : Nat) : Int))], cSIt it_1 s (i)] ++ ds)) w_7 := by rw [htl] at hs_7d; exact Sat.swap (A := [cObj bs 9 [(Value.string s)], cObj b_1 103 [(Value.int .i32 ((r : Nat) : Int)), (Value.int .i64 ((a' : Nat) : Int)), (Value.int .i64 (((s.size - a') : Nat) : Int))], cSIt it_1 s (i)]) hs_7d
      refine RTI.yield rfl rfl rfl rfl ((YieldV.mono (hr done ⟨r, a', (s.size - a')⟩ [] _ ([cObj bs 9 [(Value.string s)], cObj b_1 103 [(Value.int .i32 ((r : Nat) : Int)), (Value.int .i64 ((a' : Nat) : Int)), (Value.int .i64 (((s.size - a') : Nat) : Int))], cSIt it_1 s (i)] ++ ds) gg hu hy_1) ?_))
      rintro yb_1 w_8 (⟨rfl, g_1, hs_8⟩ | ⟨rfl, g_1, hs_8⟩)
      · have hs_8d := hs_8.swap
        obtain ⟨tl, htl⟩ : ∃ tl, tl = C (done ++ [⟨r, a', (s.size - a')⟩]) g_1 ++ ds := ⟨_, rfl⟩
        rw [← htl] at hs_8d
        refine RTI.nil ?_
        show PostK _ _ _ _ _ _
        refine post0 rfl ?_
        subst htl
        rw [hu]
        exact .inl ⟨g_1, hs_8d.sub ((.cons_cons _ (.cons _ (.cons _ (.refl _)))))⟩
      · have hs_8d := hs_8.swap
        refine RTI.nil ?_
        show PostK _ _ _ _ _ _
        refine post0 rfl ?_
        exact .inr ⟨done, ⟨r, a', (s.size - a')⟩, _, g_1, hu, hs_8d.sub ((.cons_cons _ (.cons _ (.cons _ (.refl _)))))⟩
  · intro w_5 hnx_1 hs_5
    have hs_5d : Sat w0 ([cObj bs 9 [(Value.string s)], cObj b_1 103 [(Value.int .i32 ((r : Nat) : Int)), (Value.int .i64 (a)), (Value.int .i64 (z))], cSIt it_1 s (i + (dec (s.data.toList.drop i)).2)] ++ tl) _ := hs_5
    refine RT.ev rfl rfl (Ev.extract rfl rfl) ?_
    refine RT.nil ?_
    refine CW.seq ?_
    refine CW.condT rfl (rfl) ?_
    refine CW.skip ?_
    refine CW.block ?_
    refine CW.seq ?_
    refine CW.region ?_
    refine RT.ev rfl rfl (Ev.extract rfl rfl) ?_
    refine RT.ev rfl rfl (Ev.extract rfl rfl) ?_
    refine RT.ev rfl rfl (Ev.assign rfl) ?_
    refine RT.ev rfl rfl (Ev.assign rfl) ?_
    refine RT.nil ?_
    refine CW.seq ?_
    rcases hp with ⟨rfl, hi0, hd0⟩ | ⟨a', rfl, ha', hu⟩
    · refine CW.region ?_
      refine RT.ev rfl rfl (Ev.move rfl) ?_
      refine RT.ev rfl rfl (Ev.fieldAddr fld103_1 rfl rfl) ?_
      refine RT.ev rfl rfl (Ev.load scal3 rfl (hs_5d.cell (i := 1) (j := 1) rfl rfl)) ?_
      refine RT.ev rfl rfl (Ev.sub rfl rfl (by unfold inI64; omega)) ?_
      refine RT.ev rfl rfl (Ev.fieldAddr fld103_2 rfl rfl) ?_
      refine RT.eff rfl rfl (OpE.storeObj one3 hs_5d (i := 1) rfl rfl rfl (rfl) rfl fun w_9 hs_9 hch_5 => ?_)
      have hs_9d : Sat w0 ([cObj bs 9 [(Value.string s)], cObj b_1 103 [(Value.int .i32 ((r : Nat) : Int)), (Value.int .i64 ((-1 : Int))), (Value.int .i64 ((((i : Nat) : Int) - (-1 : Int))))], cSIt it_1 s (i + (dec (s.data.toList.drop i)).2)] ++ tl) _ := hs_9
      refine RT.nil ?_
      refine CW.seq ?_
      refine CW.seq ?_
      refine CW.regionI ?_
      refine RTI.ev rfl rfl (Ev.fieldAddr fld103_1 rfl rfl) ?_
      refine RTI.ev rfl rfl (Ev.load scal3 rfl (hs_9d.cell (i := 1) (j := 1) rfl rfl)) ?_
      refine RTI.ev rfl rfl (Ev.geq rfl rfl) ?_
      refine RTI.ev rfl rfl (Ev.move rfl) ?_
      refine RTI.no rfl rfl rfl (decide_eq_false (by omega)) rfl ?_
      refine RTI.no rfl rfl rfl (decide_eq_false (by omega)) rfl ?_
      refine RTI.no rfl rfl rfl (decide_eq_false (by omega)) rfl ?_
      refine RTI.no rfl rfl rfl (decide_eq_false (by omega)) rfl ?_
      refine RTI.ev rfl rfl (Ev.pickN rfl (decide_eq_false (by omega)) rfl) ?_
      refine RTI.nil ?_
      refine CW.condF rfl (rfl) ?_
      refine CW.skip ?_
      refine CW.region ?_
      refine RT.ev rfl rfl (Ev.move rfl) ?_
      refine RT.ev rfl rfl (Ev.move rfl) ?_
      refine RT.ev rfl rfl (Ev.build bt103 rfl ⟨rfl, rfl, trivial⟩ rfl) ?_
      refine RT.eff rfl rfl (OpE.storeObjA (vs := [(Value.int .i32 (((dec (s.data.toList.drop i)).1 : Nat) : Int)), (Value.int .i64 ((i : Nat) : Int)), (Value.int .i64 ((0 : Nat) : Int))]) agg103 hs_9d (i := 1) rfl rfl rfl rfl (fun v h => by simp only [List.mem_cons, List.not_mem_nil, or_false] at h; rcases h with rfl | rfl | rfl; exact rfl; exact rfl; exact rfl) fun w_10 hs_10 hch_6 => ?_)
      have hs_10d : Sat w0 ([cObj bs 9 [(Value.string s)], cObj b_1 103 [(Value.int .i32 (((dec (s.data.toList.drop i)).1 : Nat) : Int)), (Value.int .i64 ((i : Nat) : Int)), (Value.int .i64 ((0 : Nat) : Int))], cSIt it_1 s (i + (dec (s.data.toList.drop i)).2)] ++ tl) _ := hs_10
      refine RT.nil ?_
      exact ⟨(i + (dec (s.data.toList.drop i)).2, (dec (s.data.toList.drop i)).1, ((i : Nat) : Int), 0, done, gg, tl), ⟨rfl, rfl, rfl, rfl, trivial⟩, ⟨hs_10d, dec_roomS hnx_1, htl, .inr ⟨i, rfl, by have := dec_pos (s.data.toList.drop i); omega, by subst hd0; subst hi0; exact uns_step hnx_1⟩⟩, (show (s.size - (i + (dec (s.data.toList.drop i)).2)) < (s.size - i) from by have := dec_pos (s.data.toList.drop i); have := dec_roomS hnx_1; omega)⟩
    · refine CW.region ?_
      refine RT.ev rfl rfl (Ev.move rfl) ?_
      refine RT.ev rfl rfl (Ev.fieldAddr fld103_1 rfl rfl) ?_
      refine RT.ev rfl rfl (Ev.load scal3 rfl (hs_5d.cell (i := 1) (j := 1) rfl rfl)) ?_
      refine RT.ev rfl rfl (Ev.subI rfl rfl (by omega) (by omega)) ?_
      refine RT.ev rfl rfl (Ev.fieldAddr fld103_2 rfl rfl) ?_
      refine RT.eff rfl rfl (OpE.storeObj one3 hs_5d (i := 1) rfl rfl rfl (rfl) rfl fun w_11 hs_11 hch_7 => ?_)
      have hs_11d : Sat w0 ([cObj bs 9 [(Value.string s)], cObj b_1 103 [(Value.int .i32 ((r : Nat) : Int)), (Value.int .i64 ((a' : Nat) : Int)), (Value.int .i64 (((i - a') : Nat) : Int))], cSIt it_1 s (i + (dec (s.data.toList.drop i)).2)] ++ tl) _ := hs_11
      refine RT.nil ?_
      refine CW.seq ?_
      refine CW.seq ?_
      refine CW.regionI ?_
      refine RTI.ev rfl rfl (Ev.fieldAddr fld103_1 rfl rfl) ?_
      refine RTI.ev rfl rfl (Ev.load scal3 rfl (hs_11d.cell (i := 1) (j := 1) rfl rfl)) ?_
      refine RTI.ev rfl rfl (Ev.geqN (b := 0) rfl rfl) ?_
      refine RTI.ev rfl rfl (Ev.move rfl) ?_
      refine RTI.yes rfl rfl rfl (decide_eq_true (by omega)) ?_
      refine RTI.ev rfl rfl (Ev.move rfl) ?_
      refine RTI.yes rfl rfl rfl (decide_eq_true (by omega)) ?_
      refine RTI.ev rfl rfl (Ev.ldObj agg103 rfl hs_11d (i := 1) rfl rfl) ?_
      refine RTI.yes rfl rfl rfl (decide_eq_true (by omega)) ?_
      have hy_2 : Sat w0 (C done gg ++ ([cObj bs 9 [(Value.string s)], cObj b_1 103 [(Value.int .i32 ((r : Nat) : Int)), (Value.int .i64 ((a' : Nat) : Int)), (Value.int .i64 (((i - a') : Nat) : Int))], cSIt it_1 s (i + (dec (s.data.toList.drop i)).2)] ++ ds)) w_11 := by rw [htl] at hs_11d; exact Sat.swap (A := [cObj bs 9 [(Value.string s)], cObj b_1 103 [(Value.int .i32 ((r : Nat) : Int)), (Value.int .i64 ((a' : Nat) : Int)), (Value.int .i64 (((i - a') : Nat) : Int))], cSIt it_1 s (i + (dec (s.data.toList.drop i)).2)]) hs_11d
      refine RTI.yield rfl rfl rfl rfl ((YieldV.mono (hr done ⟨r, a', (i - a')⟩ _ _ ([cObj bs 9 [(Value.string s)], cObj b_1 103 [(Value.int .i32 ((r : Nat) : Int)), (Value.int .i64 ((a' : Nat) : Int)), (Value.int .i64 (((i - a') : Nat) : Int))], cSIt it_1 s (i + (dec (s.data.toList.drop i)).2)] ++ ds) gg hu hy_2) ?_))
      rintro yb_2 w_12 (⟨rfl, g_2, hs_12⟩ | ⟨rfl, g_2, hs_12⟩)
      · have hs_12d := hs_12.swap
        obtain ⟨tl, htl⟩ : ∃ tl, tl = C (done ++ [⟨r, a', (i - a')⟩]) g_2 ++ ds := ⟨_, rfl⟩
        rw [← htl] at hs_12d
        refine RTI.yes rfl rfl rfl (decide_eq_true (by omega)) ?_
        refine RTI.ev rfl rfl (Ev.notB rfl) ?_
        refine RTI.ev rfl rfl (Ev.pickY rfl (decide_eq_true (by omega)) rfl) ?_
        refine RTI.nil ?_
        refine CW.condF rfl (rfl) ?_
        refine CW.skip ?_
        refine CW.region ?_
        refine RT.ev rfl rfl (Ev.move rfl) ?_
        refine RT.ev rfl rfl (Ev.move rfl) ?_
        refine RT.ev rfl rfl (Ev.build bt103 rfl ⟨rfl, rfl, trivial⟩ rfl) ?_
        refine RT.eff rfl rfl (OpE.storeObjA (vs := [(Value.int .i32 (((dec (s.data.toList.drop i)).1 : Nat) : Int)), (Value.int .i64 ((i : Nat) : Int)), (Value.int .i64 ((0 : Nat) : Int))]) agg103 hs_12d (i := 1) rfl rfl rfl rfl (fun v h => by simp only [List.mem_cons, List.not_mem_nil, or_false] at h; rcases h with rfl | rfl | rfl; exact rfl; exact rfl; exact rfl) fun w_13 hs_13 hch_8 => ?_)
        have hs_13d : Sat w0 ([cObj bs 9 [(Value.string s)], cObj b_1 103 [(Value.int .i32 (((dec (s.data.toList.drop i)).1 : Nat) : Int)), (Value.int .i64 ((i : Nat) : Int)), (Value.int .i64 ((0 : Nat) : Int))], cSIt it_1 s (i + (dec (s.data.toList.drop i)).2)] ++ tl) _ := hs_13
        refine RT.nil ?_
        exact ⟨(i + (dec (s.data.toList.drop i)).2, (dec (s.data.toList.drop i)).1, ((i : Nat) : Int), 0, done ++ [⟨r, a', (i - a')⟩], g_2, tl), ⟨rfl, rfl, rfl, rfl, trivial⟩, ⟨hs_13d, dec_roomS hnx_1, htl, .inr ⟨i, rfl, by have := dec_pos (s.data.toList.drop i); omega, by rw [hu, uns_step hnx_1]; simp⟩⟩, (show (s.size - (i + (dec (s.data.toList.drop i)).2)) < (s.size - i) from by have := dec_pos (s.data.toList.drop i); have := dec_roomS hnx_1; omega)⟩
      · have hs_12d := hs_12.swap
        refine RTI.yes rfl rfl rfl (decide_eq_true (by omega)) ?_
        refine RTI.ev rfl rfl (Ev.notB rfl) ?_
        refine RTI.ev rfl rfl (Ev.pickY rfl (decide_eq_true (by omega)) rfl) ?_
        refine RTI.nil ?_
        refine CW.condT rfl (rfl) ?_
        refine CW.ret ?_
        show PostK _ _ _ _ _ _
        refine post0 rfl ?_
        exact .inr ⟨done, ⟨r, a', (i - a')⟩, _, g_2, hu, hs_12d.sub ((.cons_cons _ (.cons _ (.cons _ (.refl _)))))⟩

theorem iter_units (w0 : World) (s : ByteArray) (bs : Nat) (hn : s.size ≤ 1000000) : IterOk Try.prog 151 [.pointer (some ⟨bs, 0, none⟩)] (fun u => [encU.ag u]) (uns s.data.toList) [cObj bs 9 [.string s]] w0 :=
  fun _ l C X ds w g0 hs hr => units1_ok w0 w s bs hn l C X ds g0 hs hr

theorem uvalid_ok (u : Un) (w : World) :
    CallsV Try.prog 112 [((encU).ag u)] w fun r w' => r = .bool u.ok ∧ Sat w [] w' := by
  have hs0 := Sat.start w
  refine callsV_of Try.func112 rfl rfl ?_
  refine CW.seq ?_
  refine CW.region ?_
  refine RT.eff rfl rfl (OpE.box hs0 rfl fun b_1 w_1 hs_1 hch_1 hb_1 => ?_)
  have hs_1d : Sat w [cObj b_1 103 [(Value.int .i32 ((u.r : Nat) : Int)), (Value.int .i64 ((u.at_ : Nat) : Int)), (Value.int .i64 ((u.size : Nat) : Int))]] _ := hs_1
  refine RT.ev rfl rfl (Ev.assign rfl) ?_
  refine RT.nil ?_
  refine CW.seq ?_
  refine CW.mid (fun L' w' => Weak [(0, ((encU).ag u)), (1, (Value.pointer (some ⟨b_1, 0, none⟩))), (2, (Value.bool (decide ((u.r ≠ 65533) ∨ (u.size = 3)))))] L' ∧ Sat w [cObj b_1 103 [(Value.int .i32 ((u.r : Nat) : Int)), (Value.int .i64 ((u.at_ : Nat) : Int)), (Value.int .i64 ((u.size : Nat) : Int))]] w') ?_ ?_
  · refine CW.region ?_
    refine RT.ev rfl rfl (Ev.fieldAddr fld103_0 rfl rfl) ?_
    refine RT.ev rfl rfl (Ev.load scal21 rfl (hs_1d.cell (i := 0) (j := 0) rfl rfl)) ?_
    refine RT.ev rfl rfl (Ev.neqN (b := 65533) rfl rfl) ?_
    refine RT.ev rfl rfl (Ev.move rfl) ?_
    by_cases hg_1 : u.r ≠ 65533
    · refine RT.no rfl rfl rfl (decide_eq_true hg_1) rfl ?_
      refine RT.no rfl rfl rfl (decide_eq_true hg_1) rfl ?_
      refine RT.no rfl rfl rfl (decide_eq_true hg_1) rfl ?_
      refine RT.ev rfl rfl (Ev.pickY rfl (decide_eq_true hg_1) rfl) ?_
      refine RT.ev rfl rfl (Ev.assign rfl) ?_
      refine RT.nil ?_
      exact ⟨⟨rfl, rfl, congrArg some (congrArg Value.bool (by simp [hg_1])), trivial⟩, hs_1d⟩
    · refine RT.yes rfl rfl rfl (decide_eq_false hg_1) ?_
      refine RT.ev rfl rfl (Ev.fieldAddr fld103_2 rfl rfl) ?_
      refine RT.yes rfl rfl rfl (decide_eq_false hg_1) ?_
      refine RT.ev rfl rfl (Ev.load scal3 rfl (hs_1d.cell (i := 0) (j := 2) rfl rfl)) ?_
      refine RT.yes rfl rfl rfl (decide_eq_false hg_1) ?_
      refine RT.ev rfl rfl (Ev.eqlN (b := 3) rfl rfl) ?_
      refine RT.ev rfl rfl (Ev.pickN rfl (decide_eq_false hg_1) rfl) ?_
      refine RT.ev rfl rfl (Ev.assign rfl) ?_
      refine RT.nil ?_
      exact ⟨⟨rfl, rfl, congrArg some (congrArg Value.bool (by simp [hg_1])), trivial⟩, hs_1d⟩
  · rintro L' w_2 ⟨hw_1, hs_2⟩
    refine CW.weaken _ hw_1 ?_
    refine CW.ret ?_
    show PostK _ _ _ _ _ _
    refine post1 rfl rfl ?_
    have hs_3 : Sat w [] w_2 := hs_2.sub ((.cons _ .slnil))
    have hq : u.ok = decide ((u.r ≠ 65533) ∨ (u.size = 3)) := by by_cases h1 : u.r = 65533 <;> by_cases h2 : u.size = 3 <;> simp [Un.ok, h1, h2]
    rw [hq]
    exact ⟨rfl, hs_3⟩

theorem list_ok (s : ByteArray) (w : World) (hn : s.size ≤ 1000000) :
    CallsV Try.prog 80 [(Value.string s)] w fun r w' => Sat w [cL r 103 encU (uns s.data.toList)] w' := by
  have hs0 := Sat.start w
  refine callsV_marks Try.func80 rfl rfl ?_
  refine CT.seq ?_
  refine CW.region ?_
  refine RT.ev rfl rfl (Ev.assign rfl) ?_
  refine RT.nil ?_
  refine CT.seq ?_
  refine CW.region ?_
  refine RT.eff rfl rfl (OpE.alloc hs0 zero100 fun b_1 w_1 hs_1 hch_1 hb_1 => ?_)
  have hs_1d : Sat w [cObj b_1 100 [(Value.slice none 0 0)]] _ := hs_1
  refine RT.nil ?_
  refine CT.seqB ?_
  have hs_2 : Sat w [cObj b_1 100 [(Value.slice none 0 0)], cL (Value.slice none 0 0) 103 (encU) ([])] _ := hs_1d.newNilL 103 (encU)
  refine CW.region ?_
  refine RT.ev rfl rfl (Ev.move rfl) ?_
  refine RT.eff rfl rfl (OpE.call ent111 rfl ((units_ok s _).mono fun r_1 w_2 h_1 => ?_))
  obtain ⟨ub_1, rfl, hp_1⟩ := h_1
  have hs_3 : Sat w [cObj b_1 100 [(Value.slice none 0 0)], cL (Value.slice none 0 0) 103 (encU) ([]), cObj ub_1 9 [(Value.string s)]] _ := hs_2.adds hp_1
  refine RT.nil ?_
  refine ct_range (own := [cObj ub_1 9 [(Value.string s)]]) (cs := []) (enc := fun u => encU.ag u) (us := uns s.data.toList) (fun done (gv : Value) => [cObj b_1 100 [gv], cL gv 103 (encU) (done)]) (fun done (gv : Value) => [cPure False])
    (fun u b => [(3, (Value.pointer (some ⟨b_1, 0, none⟩))), (4, (Value.pointer (some ⟨b, 0, none⟩)))]) (fun done (gv : Value) u b => [cObj b_1 100 [gv], cL gv 103 (encU) (done), cObj b 103 [(Value.int .i32 ((u.r : Nat) : Int)), (Value.int .i64 ((u.at_ : Nat) : Int)), (Value.int .i64 ((u.size : Nat) : Int))]]) (Value.slice none 0 0) rfl rfl ent151 hs_3 (iter_units _ _ _ (hn)) ?_ ?_ ?_ ?_
  · intro lp done u rest w2 ds gv hu hs2
    refine CWR.weaken [(3, (Value.pointer (some ⟨b_1, 0, none⟩))), (7, ((encU).ag u))] ⟨rfl, rfl, trivial⟩ ?_
    refine CWR.region (by rfl) ?_
    refine RT.eff rfl rfl (OpE.alloc hs2 zero103 fun b_2 w_3 hs_4 hch_2 hb_2 => ?_)
    have hs_4d : Sat w ([cObj b_1 100 [gv], cL gv 103 (encU) (done), cObj b_2 103 [(Value.int .i32 ((0 : Nat) : Int)), (Value.int .i64 ((0 : Nat) : Int)), (Value.int .i64 ((0 : Nat) : Int))]] ++ ds) _ := (hs_4).mid
    refine RT.eff rfl rfl (OpE.storeObjA (vs := (encU).enc u) agg103 hs_4d (i := 2) rfl rfl rfl rfl ((encU).one _) fun w_4 hs_5 hch_3 => ?_)
    have hs_5d : Sat w ([cObj b_1 100 [gv], cL gv 103 (encU) (done), cObj b_2 103 [(Value.int .i32 ((u.r : Nat) : Int)), (Value.int .i64 ((u.at_ : Nat) : Int)), (Value.int .i64 ((u.size : Nat) : Int))]] ++ ds) _ := hs_5
    refine RT.nil ?_
    exact ⟨b_2, ⟨rfl, rfl, trivial⟩, hs_5d⟩
  · intro lp done u rest b w2 ds gv hu hs2
    refine CWR.block ?_
    refine CWR.region (by rfl) ?_
    refine RT.ev rfl rfl (Ev.load scal100 rfl (hs2.cell (i := 0) (j := 0) rfl rfl)) ?_
    refine RT.ev rfl rfl (Ev.ldObj agg103 rfl hs2 (i := 2) rfl rfl) ?_
    refine RT.eff rfl rfl (OpE.lit1A (encU) u sl100 (by decide) (by decide) hs2 rfl fun v_1 w_5 hs_6 hch_4 => ?_)
    have hs_6d : Sat w ([cObj b_1 100 [gv], cL gv 103 (encU) (done), cObj b 103 [(Value.int .i32 ((u.r : Nat) : Int)), (Value.int .i64 ((u.at_ : Nat) : Int)), (Value.int .i64 ((u.size : Nat) : Int))], cL v_1 103 (encU) ([u])] ++ ds) _ := (hs_6).mid
    refine RT.eff rfl rfl (OpE.appendL 1 sl100 hs_6d rfl rfl rfl Try.underlying100 (hs_6d.rdL 3 rfl) (by have h1 := uns_length s.data.toList; have h2 := congrArg List.length hu; rw [bsz] at h1; simp only [List.length_append, List.length_cons, List.length_nil] at h2 ⊢; omega) (by have h1 := uns_length s.data.toList; have h2 := congrArg List.length hu; rw [bsz] at h1; simp only [List.length_append, List.length_cons, List.length_nil] at h2 ⊢; omega) fun v_2 w_6 hs_7 hch_5 => ?_)
    have hs_7d : Sat w ([cObj b_1 100 [gv], cL v_2 103 (encU) (done ++ [u]), cObj b 103 [(Value.int .i32 ((u.r : Nat) : Int)), (Value.int .i64 ((u.at_ : Nat) : Int)), (Value.int .i64 ((u.size : Nat) : Int))]] ++ ds) _ := hs_7.drop 3
    refine RT.eff rfl rfl (OpE.storeObj one100 hs_7d (i := 0) rfl rfl rfl ((hs_7d.rdL 1 rfl).oneCell) rfl fun w_7 hs_8 hch_6 => ?_)
    have hs_8d : Sat w ([cObj b_1 100 [v_2], cL v_2 103 (encU) (done ++ [u]), cObj b 103 [(Value.int .i32 ((u.r : Nat) : Int)), (Value.int .i64 ((u.at_ : Nat) : Int)), (Value.int .i64 ((u.size : Nat) : Int))]] ++ ds) _ := hs_8
    refine RT.nil ?_
    have hs_9 : Sat w ([cObj b_1 100 [v_2], cL v_2 103 (encU) (done ++ [u])] ++ ds) w_7 := hs_8d.sub ((.cons_cons _ (.cons_cons _ (.cons _ (.refl _)))))
    exact ⟨_, hs_9⟩
  · intro D w2 gv hs2
    have hs3 : Sat w [cObj b_1 100 [gv], cL gv 103 (encU) ((uns s.data.toList)), cObj ub_1 9 [(Value.string s)], cDef D (some [])] w2 := hs2
    refine RT.ev rfl rfl (Ev.load scal100 rfl (hs3.cell (i := 0) (j := 0) rfl rfl)) ?_
    refine RT.ev rfl rfl (Ev.assign rfl) ?_
    refine RT.nil ?_
    refine ⟨[cObj b_1 100 [gv], cL gv 103 (encU) ((uns s.data.toList)), cObj ub_1 9 [(Value.string s)]], hs3, fun w3 hs4 => ?_⟩
    exact post1 rfl rfl (hs4.sub (.cons _ (.cons_cons _ (.cons _ (.cons _ .slnil)))))
  · intro done u rest D w2 gv hu hs2
    exact hs2.pureGet.elim

theorem valid_ok (s : ByteArray) (w : World) (hn : s.size ≤ 1000000) :
    CallsV Try.prog 69 [(Value.string s)] w fun r w' => r = .bool (validN s) ∧ Sat w [] w' := by
  have hs0 := Sat.start w
  refine callsV_marks Try.func69 rfl rfl ?_
  refine CT.seq ?_
  refine CW.region ?_
  refine RT.eff rfl rfl (OpE.alloc hs0 zero4 fun b_1 w_1 hs_1 hch_1 hb_1 => ?_)
  have hs_1d : Sat w [cObj b_1 4 [(Value.bool false)]] _ := hs_1
  refine RT.nil ?_
  refine CT.seqB ?_
  have hs_2 : Sat w [cPure (∀ u ∈ ([] : List Un), u.ok = true), cObj b_1 4 [(Value.bool false)]] _ := hs_1d.pure (p := ∀ u ∈ ([] : List Un), u.ok = true) (by simp)
  refine CW.region ?_
  refine RT.ev rfl rfl (Ev.move rfl) ?_
  refine RT.eff rfl rfl (OpE.call ent111 rfl ((units_ok s _).mono fun r_1 w_2 h_1 => ?_))
  obtain ⟨ub_1, rfl, hp_1⟩ := h_1
  have hs_3 : Sat w [cPure (∀ u ∈ ([] : List Un), u.ok = true), cObj b_1 4 [(Value.bool false)], cObj ub_1 9 [(Value.string s)]] _ := hs_2.adds hp_1
  refine RT.nil ?_
  refine ct_range (own := [cObj ub_1 9 [(Value.string s)]]) (cs := []) (enc := fun u => encU.ag u) (us := uns s.data.toList) (fun done (gv : Unit) => [cPure (∀ u ∈ done, u.ok = true), cObj b_1 4 [(Value.bool false)]]) (fun done (gv : Unit) => [cPure (∃ u ∈ done, u.ok = false), cObj b_1 4 [(Value.bool false)]])
    (fun u b => [(2, (Value.pointer (some ⟨b_1, 0, none⟩))), (3, (Value.pointer (some ⟨b, 0, none⟩)))]) (fun done (gv : Unit) u b => [cPure (∀ u ∈ done, u.ok = true), cObj b_1 4 [(Value.bool false)], cObj b 103 [(Value.int .i32 ((u.r : Nat) : Int)), (Value.int .i64 ((u.at_ : Nat) : Int)), (Value.int .i64 ((u.size : Nat) : Int))]]) () rfl rfl ent151 hs_3 (iter_units _ _ _ (hn)) ?_ ?_ ?_ ?_
  · intro lp done u rest w2 ds gv hu hs2
    refine CWR.weaken [(2, (Value.pointer (some ⟨b_1, 0, none⟩))), (6, ((encU).ag u))] ⟨rfl, rfl, trivial⟩ ?_
    refine CWR.region (by rfl) ?_
    refine RT.eff rfl rfl (OpE.alloc hs2 zero103 fun b_2 w_3 hs_4 hch_2 hb_2 => ?_)
    have hs_4d : Sat w ([cPure (∀ u ∈ done, u.ok = true), cObj b_1 4 [(Value.bool false)], cObj b_2 103 [(Value.int .i32 ((0 : Nat) : Int)), (Value.int .i64 ((0 : Nat) : Int)), (Value.int .i64 ((0 : Nat) : Int))]] ++ ds) _ := (hs_4).mid
    refine RT.eff rfl rfl (OpE.storeObjA (vs := (encU).enc u) agg103 hs_4d (i := 2) rfl rfl rfl rfl ((encU).one _) fun w_4 hs_5 hch_3 => ?_)
    have hs_5d : Sat w ([cPure (∀ u ∈ done, u.ok = true), cObj b_1 4 [(Value.bool false)], cObj b_2 103 [(Value.int .i32 ((u.r : Nat) : Int)), (Value.int .i64 ((u.at_ : Nat) : Int)), (Value.int .i64 ((u.size : Nat) : Int))]] ++ ds) _ := hs_5
    refine RT.nil ?_
    exact ⟨b_2, ⟨rfl, rfl, trivial⟩, hs_5d⟩
  · intro lp done u rest b w2 ds gv hu hs2
    refine CWR.block ?_
    refine CWR.seq ?_
    refine CWR.region (by rfl) ?_
    refine RT.ev rfl rfl (Ev.ldObj agg103 rfl hs2 (i := 2) rfl rfl) ?_
    refine RT.eff rfl rfl (OpE.call ent112 rfl ((uvalid_ok u _).mono fun r_2 w_5 h_2 => ?_))
    obtain ⟨rfl, hp_2⟩ := h_2
    have hs_6 : Sat w ([cPure (∀ u ∈ done, u.ok = true), cObj b_1 4 [(Value.bool false)], cObj b 103 [(Value.int .i32 ((u.r : Nat) : Int)), (Value.int .i64 ((u.at_ : Nat) : Int)), (Value.int .i64 ((u.size : Nat) : Int))]] ++ ds) _ := (hs2.adds hp_2).mid
    refine RT.ev rfl rfl (Ev.notB rfl) ?_
    refine RT.nil ?_
    refine CWR.cond rfl (fun hc_1 => ?_) (fun hc_1 => ?_)
    · refine CWR.seq ?_
      refine CWR.region (by rfl) ?_
      refine RT.eff rfl rfl (OpE.storeObj one4 hs_6 (i := 1) rfl rfl rfl (rfl) rfl fun w_6 hs_7 hch_4 => ?_)
      have hs_7d : Sat w ([cPure (∀ u ∈ done, u.ok = true), cObj b_1 4 [(Value.bool false)], cObj b 103 [(Value.int .i32 ((u.r : Nat) : Int)), (Value.int .i64 ((u.at_ : Nat) : Int)), (Value.int .i64 ((u.size : Nat) : Int))]] ++ ds) _ := hs_7
      refine RT.nil ?_
      refine CWR.ret ?_
      have hs_8 : Sat w ([cPure (∀ u ∈ done, u.ok = true), cObj b_1 4 [(Value.bool false)]] ++ ds) w_6 := hs_7d.sub ((.cons_cons _ (.cons_cons _ (.cons _ (.refl _)))))
      exact ⟨(), hs_8.rePure (q := ∃ v ∈ done ++ [u], v.ok = false) (fun _ => ⟨u, by simp, by simpa using hc_1⟩)⟩
    · refine CWR.skip ?_
      have hs_9 : Sat w ([cPure (∀ u ∈ done, u.ok = true), cObj b_1 4 [(Value.bool false)]] ++ ds) w_5 := hs_6.sub ((.cons_cons _ (.cons_cons _ (.cons _ (.refl _)))))
      exact ⟨(), hs_9.rePure (q := ∀ v ∈ done ++ [u], v.ok = true) (fun hp v hv => by rcases List.mem_append.1 hv with hv | hv; exact hp v hv; rw [List.mem_singleton.1 hv]; simpa using hc_1)⟩
  · intro D w2 gv hs2
    have hs3 : Sat w [cPure (∀ u ∈ (uns s.data.toList), u.ok = true), cObj b_1 4 [(Value.bool false)], cObj ub_1 9 [(Value.string s)], cDef D (some [])] w2 := hs2
    refine RT.eff rfl rfl (OpE.storeObj one4 hs3 (i := 1) rfl rfl rfl (rfl) rfl fun w_7 hs_10 hch_5 => ?_)
    have hs_10d : Sat w [cPure (∀ u ∈ (uns s.data.toList), u.ok = true), cObj b_1 4 [(Value.bool true)], cObj ub_1 9 [(Value.string s)], cDef D (some [])] _ := hs_10
    refine RT.nil ?_
    refine ⟨[cPure (∀ u ∈ (uns s.data.toList), u.ok = true), cObj b_1 4 [(Value.bool true)], cObj ub_1 9 [(Value.string s)]], hs_10d, fun w3 hs4 => ?_⟩
    have hok : validN s = true := List.all_eq_true.2 (hs3.pureGet)
    refine post1s rfl rfl scal4 (hs4.cell (i := 1) (j := 0) rfl rfl) ?_
    exact ⟨by rw [hok], hs4.sub ((.cons _ (.cons _ (.cons _ (.cons _ .slnil)))))⟩
  · intro done u rest D w2 gv hu hs2
    obtain ⟨v, hv, hbad⟩ := hs2.pureGet
    have hok : validN s = false := by
      cases hq : validN s with
      | false => rfl
      | true =>
        have := List.all_eq_true.1 hq v (by rw [hu]; rw [show done ++ u :: rest = (done ++ [u]) ++ rest by simp]; exact List.mem_append_left _ hv)
        rw [hbad] at this; cases this
    refine post1s rfl rfl scal4 (hs2.cell (i := 1) (j := 0) rfl rfl) ?_
    exact ⟨by rw [hok], hs2.sub (.cons _ (.cons _ (.cons _ (.cons _ .slnil))))⟩

theorem reverse_ok (s : ByteArray) (w : World) (hn : s.size ≤ 1000000) :
    CallsV Try.prog 46 [(Value.string s)] w fun r w' => r = .string (revN s) ∧ Sat w [] w' := by
  have hs0 := Sat.start w
  refine callsV_of Try.func46 rfl rfl ?_
  refine CW.seq ?_
  refine CW.region ?_
  refine RT.ev rfl rfl (Ev.assign rfl) ?_
  refine RT.nil ?_
  refine CW.seq ?_
  refine CW.region ?_
  refine RT.ev rfl rfl (Ev.move rfl) ?_
  refine RT.eff rfl rfl (OpE.call ent80 rfl ((list_ok s _ (hn)).mono fun r_1 w_1 h_1 => ?_))
  have hp_1 := h_1
  have hs_1 : Sat w [cL r_1 103 (encU) (uns s.data.toList)] _ := hs0.adds hp_1
  refine RT.ev rfl rfl (Ev.assign rfl) ?_
  refine RT.nil ?_
  refine CW.seq ?_
  refine CW.region ?_
  refine RT.ev rfl rfl (Ev.move rfl) ?_
  refine RT.ev rfl rfl (Ev.lenStr Try.underlying9 rfl) ?_
  refine RT.eff rfl rfl (OpE.makeL (encN .u8) (0) (l := 0) sl40 rfl hs_1 rfl rfl (by omega) (by omega) (by omega) fun v_1 w_2 hs_2 hch_1 => ?_)
  have hs_2d : Sat w [cL r_1 103 (encU) (uns s.data.toList), cL v_1 5 (encN .u8) ([])] _ := hs_2
  refine RT.ev rfl rfl (Ev.assign rfl) ?_
  refine RT.nil ?_
  refine CW.seq ?_
  refine CW.seq ?_
  have hul := uns_length s.data.toList
  rw [bsz] at hul
  refine CW.region ?_
  refine RT.ev rfl rfl (Ev.move rfl) ?_
  refine RT.ev rfl rfl (Ev.lenL Try.underlying100 rfl (hs_2d.rdL 0 rfl)) ?_
  refine RT.ev rfl rfl (Ev.sub (b := (1 : Int)) rfl rfl (by unfold inI64; omega)) ?_
  refine RT.ev rfl rfl (Ev.assign rfl) ?_
  refine RT.nil ?_
  refine CW.block ?_
  refine CW.loop (α := Nat × Value × List Nat) (fun (m1, v, acc) => [(0, (Value.string s)), (3, r_1), (4, v), (5, (Value.int .i64 ((((m1 : Nat) : Int) - 1))))]) (fun (m1, v, acc) w' => Sat w [cL r_1 103 (encU) (uns s.data.toList), cL v 5 (encN .u8) (acc)] w' ∧ (m1 ≤ (uns s.data.toList).length) ∧ (acc = revB s ((uns s.data.toList).drop m1)) ∧ (acc.length ≤ ((uns s.data.toList).length - m1) * 1000000)) (fun (m1, v, acc) => m1) ((uns s.data.toList).length, v_1, []) ⟨rfl, rfl, rfl, rfl, trivial⟩ ⟨hs_2d, Nat.le_refl _, by rw [List.drop_length]; rfl, Nat.zero_le _⟩ ?_
  rintro ⟨m1, v, acc⟩ w_3 ⟨hs_3, hm, hacc, hlen⟩
  show CW _ _ _ _ [(0, (Value.string s)), (3, r_1), (4, v), (5, (Value.int .i64 ((((m1 : Nat) : Int) - 1))))] _
  refine CW.seq ?_
  refine CW.seq ?_
  refine CW.region ?_
  refine RT.ev rfl rfl (Ev.move rfl) ?_
  refine RT.ev rfl rfl (Ev.geq rfl rfl) ?_
  refine RT.nil ?_
  refine CW.condD rfl (fun hc_1 => ?_) (fun hc_1 => ?_)
  · refine CW.skip ?_
    refine CW.seq ?_
    refine CW.block ?_
    obtain ⟨j, rfl⟩ : ∃ j, m1 = j + 1 := ⟨m1 - 1, by omega⟩
    refine CW.weaken [(0, _), (3, _), (4, _), (5, (Value.int .i64 ((j : Nat) : Int))), (14, _), (15, _)] ⟨rfl, rfl, rfl, congrArg some (congrArg (Value.int .i64) (by omega)), rfl, rfl, trivial⟩ ?_
    obtain ⟨u, hu⟩ : ∃ u, (uns s.data.toList)[j]? = some u := ⟨_, List.getElem?_eq_getElem (by omega)⟩
    have hur := (uns_room s.data.toList u (List.mem_of_getElem? hu)).1
    rw [bsz] at hur
    have hdj := drop_at hu
    have hps : (strB (s.extract u.at_ (u.at_ + u.size))).length ≤ 1000000 := by rw [strB_length, ByteArray.size_extract]; omega
    have hshp_1 := (hs_3.rdL (E := encN .u8) 1 rfl).shp (by decide)
    refine CW.draw (fun w' => Sat w [cL r_1 103 (encU) (uns s.data.toList)] w') (.free 0 (.free 1 (.free 2 (.free 3 (.free 4 (.free 5 (.free 6 (.free 7 (.free 8 (.free 9 (.free 10 (.free 11 (.free 12 (.free 13 (.free 14 (.free 15 (.free 16 (.free 17 (.free 18 (.one 19 (.free 20 .fin))))))))))))))))))))) mixed (by kernel_rfl) ?_
    have hs_4 := hs_3.drew
    have hS_1 : Sat w [cL r_1 103 (encU) (uns s.data.toList)] _ := hs_4.sub ((.cons_cons _ (.cons _ .slnil)))
    refine RP.ev rfl rfl rfl (fun w' hS' => Ev.move rfl) hS_1 ?_
    refine RP.ev rfl rfl rfl (fun w' hS' => Ev.move rfl) hS_1 ?_
    refine RP.ev rfl rfl rfl (fun w' hS' => Ev.move rfl) hS_1 ?_
    refine RP.ev rfl rfl rfl (fun w' hS' => Ev.move rfl) hS_1 ?_
    refine RP.ev rfl rfl rfl (fun w' hS' => Ev.idxL (E := encU) sl100 rfl rfl (hS'.rdL 0 rfl) (by omega)) hS_1 ?_
    refine RP.ev rfl rfl rfl (fun w' hS' => Ev.fldL (E := encU) fld103_1 rfl (hS'.rdL 0 rfl) (by omega) (by decide)) hS_1 ?_
    refine RP.ev rfl rfl rfl (fun w' hS' => Ev.ldLF (E := encU) scal3 rfl (hS'.rdL 0 rfl) hu (by decide) rfl) hS_1 ?_
    refine RP.ev rfl rfl rfl (fun w' hS' => Ev.move rfl) hS_1 ?_
    refine RP.ev rfl rfl rfl (fun w' hS' => Ev.move rfl) hS_1 ?_
    refine RP.ev rfl rfl rfl (fun w' hS' => Ev.idxL (E := encU) sl100 rfl rfl (hS'.rdL 0 rfl) (by omega)) hS_1 ?_
    refine RP.ev rfl rfl rfl (fun w' hS' => Ev.fldL (E := encU) fld103_1 rfl (hS'.rdL 0 rfl) (by omega) (by decide)) hS_1 ?_
    refine RP.ev rfl rfl rfl (fun w' hS' => Ev.ldLF (E := encU) scal3 rfl (hS'.rdL 0 rfl) hu (by decide) rfl) hS_1 ?_
    refine RP.ev rfl rfl rfl (fun w' hS' => Ev.move rfl) hS_1 ?_
    refine RP.ev rfl rfl rfl (fun w' hS' => Ev.move rfl) hS_1 ?_
    refine RP.ev rfl rfl rfl (fun w' hS' => Ev.idxL (E := encU) sl100 rfl rfl (hS'.rdL 0 rfl) (by omega)) hS_1 ?_
    refine RP.ev rfl rfl rfl (fun w' hS' => Ev.fldL (E := encU) fld103_2 rfl (hS'.rdL 0 rfl) (by omega) (by decide)) hS_1 ?_
    refine RP.ev rfl rfl rfl (fun w' hS' => Ev.ldLF (E := encU) scal3 rfl (hS'.rdL 0 rfl) hu (by decide) rfl) hS_1 ?_
    refine RP.ev rfl rfl rfl (fun w' hS' => Ev.addI rfl rfl (by omega)) hS_1 ?_
    refine RP.ev rfl rfl rfl (fun w' hS' => Ev.sliceStr (l := u.at_) (h := (u.at_ + u.size)) Try.underlying9 rfl ⟨_, rfl⟩ ⟨_, rfl⟩ (by omega) (by omega)) hS_1 ?_
    refine RP.eff rfl rfl rfl (OpE.appendSrc 1 sl40 hs_4 rfl rfl rfl (srcStr Try.underlying9 _) (by omega) (by omega) fun v_2 w_4 hs_5 hch_2 => ?_)
    have hs_5d : Sat w [cL r_1 103 (encU) (uns s.data.toList), cL v_2 5 (encN .u8) (acc ++ strB (s.extract u.at_ (u.at_ + u.size)))] _ := hs_5
    have hS_2 : Sat w [cL r_1 103 (encU) (uns s.data.toList)] _ := hs_5d.sub ((.cons_cons _ (.cons _ .slnil)))
    refine ⟨hS_2, ?_⟩
    refine RP.ev rfl rfl rfl (fun w' hS' => Ev.assign rfl) hS_2 ?_
    refine RP.fin ?_
    refine CW.region ?_
    refine RT.ev rfl rfl (Ev.move rfl) ?_
    refine RT.ev rfl rfl (Ev.sub (b := (1 : Int)) rfl rfl (by unfold inI64; omega)) ?_
    refine RT.ev rfl rfl (Ev.assign rfl) ?_
    refine RT.nil ?_
    exact ⟨(j, v_2, acc ++ strB (s.extract u.at_ (u.at_ + u.size))), ⟨rfl, rfl, rfl, rfl, trivial⟩, ⟨hs_5d, by omega, by rw [hacc, hdj, revB_cons], by rw [List.length_append]; omega⟩, (show ((j)) < (j + 1) from by omega)⟩
  · refine CW.exit0 ?_
    refine CW.seq ?_
    refine CW.region ?_
    refine RT.ev rfl rfl (Ev.move rfl) ?_
    refine RT.ev rfl rfl (Ev.bytesStr Try.underlying40 Try.underlying9 Try.underlying5 rfl (hs_3.rdL 1 rfl)) ?_
    refine RT.ev rfl rfl (Ev.assign rfl) ?_
    refine RT.nil ?_
    refine CW.ret ?_
    show PostK _ _ _ _ _ _
    refine post1 rfl rfl ?_
    have hs_6 : Sat w [] w_3 := hs_3.sub ((.cons _ (.cons _ .slnil)))
    have h0 : m1 = 0 := by omega
    subst h0
    rw [hacc, List.drop_zero, revB_str, revP_uns]
    exact ⟨rfl, hs_6⟩

end Go.Proofs.Ytfhbflhnelbkfaa
