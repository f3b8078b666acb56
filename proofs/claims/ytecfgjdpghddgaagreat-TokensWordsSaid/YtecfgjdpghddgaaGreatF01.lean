/- The walks of the functions of F01, printed by our own program (kwgen.py) out of our descriptions (base.py). -/
import Derived.Test.YtecfgjdpghddgaaGreatKd
import Derived.Test.YtecfgjdpghddgaaGreatShelf
import Derived.Test.YtecfgjdpghddgaaGreatTab
set_option linter.unusedVariables false
set_option linter.unusedSimpArgs false
set_option linter.unusedSectionVars false
namespace Go.Proofs.YtecfgjdpghddgaaGreat
open Go.RowKit Go.Kw
set_option maxRecDepth 100000
theorem units_ok (s : ByteArray) (w : World) :
    CallsV Tryz.prog 56 [(.string s)] w fun r w' => ∃ b, r = .func (.func 86) #[] #[.pointer (some ⟨b, 0, none⟩)] ∧ Sat w [cObj b 9 [.string s]] w' := by
  have hs0 := Sat.start w
  refine callsV_of Tryz.func56 rfl rfl ?_
  refine .seq <| .region <| .f rfl (.box hs0 rfl fun b_1 w_1 hs_1 hch_1 hb_1 => ?_)
  refine .s rfl rfl <| .nil <| .seq <| .region <| .e rfl (.makeFunc1 rfl) <| .s rfl rfl <| .nil <| .ret ?_
  show PostK _ _ _ _ _ _
  refine post1 rfl rfl ?_
  exact ⟨_, rfl, hs_1⟩
theorem units1_ok (w0 w : World) (s : ByteArray) (bs : Nat) (hn : s.size ≤ 1000000) {G : Type} (l : Nat) (C X : List Un → G → List Chunk) (ds : List Chunk) (g0 : G) (hs0 : Sat w0 ([cObj bs 9 [.string s]] ++ (C [] g0 ++ ds)) w)
    (hr : ∀ done u rest w2 es g, uns s.data.toList = done ++ u :: rest → Sat w0 (C done g ++ es) w2 → YieldV Tryz.prog l [encU.ag u] w2 fun b w3 => (b = true ∧ ∃ g', Sat w0 (C (done ++ [u]) g' ++ es) w3) ∨ (b = false ∧ ∃ g', Sat w0 (X (done ++ [u]) g' ++ es) w3)) :
    CallsV Tryz.prog 86 [(.func (.yield l) #[] #[]), (.pointer (some ⟨bs, 0, none⟩))] w fun _ w' => (∃ g, Sat w0 ([cObj bs 9 [.string s]] ++ (C (uns s.data.toList) g ++ ds)) w') ∨ ∃ done u rest g, uns s.data.toList = done ++ u :: rest ∧ Sat w0 ([cObj bs 9 [.string s]] ++ (X (done ++ [u]) g ++ ds)) w' := by
  obtain ⟨tl, htl⟩ : ∃ tl, tl = C [] g0 ++ ds := ⟨_, rfl⟩
  rw [← htl] at hs0
  refine callsV_of Tryz.func86 rfl rfl ?_
  refine .seq <| .region <| .e rfl (.build bt101 rfl ⟨rfl, trivial⟩ rfl) <| .f rfl (.alloc hs0 zero101 fun b_1 w_1 hs_1 hch_1 hb_1 => ?_)
  have hs_1d : Sat w0 ([cObj bs 9 [(.string s)], cObj b_1 101 [(.int .i32 (0 : Nat)), (.int .i64 (0 : Nat)), (.int .i64 (0 : Nat))]] ++ tl) _ := (hs_1).mid
  refine .f rfl (.storeObjA (vs := [(.int .i32 (0 : Nat)), (.int .i64 (-1)), (.int .i64 (0 : Nat))]) agg101 hs_1d (i := 1) rfl rfl rfl rfl (fun v h => by simp only [List.mem_cons, List.not_mem_nil, or_false] at h; rcases h with rfl | rfl | rfl; exact rfl; exact rfl; exact rfl) fun w_2 hs_2 hch_2 => ?_)
  have hs_2d : Sat w0 ([cObj bs 9 [(.string s)], cObj b_1 101 [(.int .i32 (0 : Nat)), (.int .i64 (-1)), (.int .i64 (0 : Nat))]] ++ tl) _ := hs_2
  refine .nil <| .seq <| .seq <| .region <| .e rfl (.load scal9 rfl (hs_2d.cell (i := 0) (j := 0) rfl rfl)) <| .f rfl (.rangeStr Tryz.underlying9 hs_2d rfl fun it_1 w_3 hs_3 => ?_)
  have hs_3d : Sat w0 ([cObj bs 9 [(.string s)], cObj b_1 101 [(.int .i32 (0 : Nat)), (.int .i64 (-1)), (.int .i64 (0 : Nat))], cSIt it_1 s (0)] ++ tl) _ := (hs_3).mid
  refine .nil <| .block <| .loop (α := Nat × Nat × Int × Int × List Un × G × List Chunk) (fun (i, r, a, z, done, gg, tl) => [(0, (.func (.yield l) #[] #[])), (1, (.pointer (some ⟨bs, 0, none⟩))), (3, (.pointer (some ⟨b_1, 0, none⟩))), (8, (.pointer (some ⟨it_1, 0, none⟩)))]) (fun (i, r, a, z, done, gg, tl) w' => Sat w0 ([cObj bs 9 [(.string s)], cObj b_1 101 [(.int .i32 r), (.int .i64 (a)), (.int .i64 (z))], cSIt it_1 s (i)] ++ tl) w' ∧ (i ≤ s.size) ∧ (tl = C done gg ++ ds) ∧ ((a = -1 ∧ i = 0 ∧ done = []) ∨ (∃ a' : Nat, a = (a' : Int) ∧ a' < i ∧ uns s.data.toList = done ++ ⟨r, a', i - a'⟩ :: unsFrom s.data.toList i))) (fun (i, r, a, z, done, gg, tl) => s.size - i) (0, 0, (-1), 0, [], g0, tl) ⟨rfl, rfl, rfl, rfl, trivial⟩ ⟨hs_3d, Nat.zero_le _, htl, .inl ⟨rfl, rfl, rfl⟩⟩ ?_
  rintro ⟨i, r, a, z, done, gg, tl⟩ w_4 ⟨hs_4, hi, htl, hp⟩
  show CW _ _ _ _ [(0, (.func (.yield l) #[] #[])), (1, (.pointer (some ⟨bs, 0, none⟩))), (3, (.pointer (some ⟨b_1, 0, none⟩))), (8, (.pointer (some ⟨it_1, 0, none⟩)))] _
  refine .seq <| .region <| .f rfl (.nextStr (i := 2) hs_4 rfl rfl ?_ ?_)
  · intro hnx_1
    refine .e rfl (.extract rfl rfl) <| .nil <| .seq <| .condF rfl (rfl) <| .exit0 <| .seq ?_
    rcases hp with ⟨rfl, hi0, hd0⟩ | ⟨a', rfl, ha', hu⟩
    · refine .region <| .e rfl (.load scal9 rfl (hs_4.cell (i := 0) (j := 0) rfl rfl)) <| .e rfl (.lenStr Tryz.underlying9 rfl) <| .e rfl (.fieldAddr fld101_1 rfl rfl) <| .e rfl (.load scal3 rfl (hs_4.cell (i := 1) (j := 1) rfl rfl)) <| .e rfl (.sub rfl rfl (by unfold inI64; omega)) <| .e rfl (.fieldAddr fld101_2 rfl rfl) <| .f rfl (.storeObj one3 hs_4 (i := 1) rfl rfl rfl (rfl) rfl fun w_6 hs_6 hch_3 => ?_)
      have hs_6d : Sat w0 ([cObj bs 9 [(.string s)], cObj b_1 101 [(.int .i32 r), (.int .i64 ((-1 : Int))), (.int .i64 ((((s.size : Nat) : Int) - (-1 : Int))))], cSIt it_1 s (i)] ++ tl) _ := hs_6
      refine .nil <| .seq <| .region <| .e rfl (.fieldAddr fld101_1 rfl rfl) <| .e rfl (.load scal3 rfl (hs_6d.cell (i := 1) (j := 1) rfl rfl)) <| .e rfl (.geq rfl rfl) <| .nil <| .condF rfl (decide_eq_false (by omega)) <| .skip ?_
      show PostK _ _ _ _ _ _
      refine post0 rfl ?_
      have hus : uns s.data.toList = [] := by have := uns_end (s := s) (i := 0) (by omega); exact this
      rw [hd0] at htl
      subst htl
      rw [hus]
      exact .inl ⟨gg, hs_6d.sub ((.cons_cons _ (.cons _ (.cons _ (.refl _)))))⟩
    · have hie : i = s.size := by omega
      rw [hie, uns_end (Nat.le_refl _)] at hu
      refine .region <| .e rfl (.load scal9 rfl (hs_4.cell (i := 0) (j := 0) rfl rfl)) <| .e rfl (.lenStr Tryz.underlying9 rfl) <| .e rfl (.fieldAddr fld101_1 rfl rfl) <| .e rfl (.load scal3 rfl (hs_4.cell (i := 1) (j := 1) rfl rfl)) <| .e rfl (.subI rfl rfl (by omega) (by omega)) <| .e rfl (.fieldAddr fld101_2 rfl rfl) <| .f rfl (.storeObj one3 hs_4 (i := 1) rfl rfl rfl (rfl) rfl fun w_7 hs_7 hch_4 => ?_)
      have hs_7d : Sat w0 ([cObj bs 9 [(.string s)], cObj b_1 101 [(.int .i32 r), (.int .i64 a'), (.int .i64 ((s.size - a') : Nat))], cSIt it_1 s (i)] ++ tl) _ := hs_7
      refine .nil <| .seq <| .region <| .e rfl (.fieldAddr fld101_1 rfl rfl) <| .e rfl (.load scal3 rfl (hs_7d.cell (i := 1) (j := 1) rfl rfl)) <| .e rfl (.geqN (b := 0) rfl rfl) <| .nil <| .condT rfl (decide_eq_true (by omega)) <| .regionI ?_
      refine RTI.ev rfl rfl (Ev.move rfl) ?_
      refine RTI.ev rfl rfl (Ev.ldObj agg101 rfl hs_7d (i := 1) rfl rfl) ?_
      have hy_1 : Sat w0 (C done gg ++ ([cObj bs 9 [(.string s)], cObj b_1 101 [(.int .i32 r), (.int .i64 a'), (.int .i64 ((s.size - a') : Nat))], cSIt it_1 s (i)] ++ ds)) w_7 := by rw [htl] at hs_7d; exact Sat.swap (A := [cObj bs 9 [(.string s)], cObj b_1 101 [(.int .i32 r), (.int .i64 a'), (.int .i64 ((s.size - a') : Nat))], cSIt it_1 s (i)]) hs_7d
      refine RTI.yield rfl rfl rfl rfl ((YieldV.mono (hr done ⟨r, a', (s.size - a')⟩ [] _ ([cObj bs 9 [(.string s)], cObj b_1 101 [(.int .i32 r), (.int .i64 a'), (.int .i64 ((s.size - a') : Nat))], cSIt it_1 s (i)] ++ ds) gg hu hy_1) ?_))
      rintro yb_1 w_8 (⟨rfl, g_1, hs_8⟩ | ⟨rfl, g_1, hs_8⟩)
      · have hs_8d := hs_8.swap
        obtain ⟨tl, htl⟩ : ∃ tl, tl = C (done ++ [⟨r, a', (s.size - a')⟩]) g_1 ++ ds := ⟨_, rfl⟩
        rw [← htl] at hs_8d
        refine RTI.nil ?_
        show PostK _ _ _ _ _ _
        refine post0 rfl ?_
        subst htl
        rw [hu]
        exact .inl ⟨g_1, hs_8d.sub ((.cons_cons _ (.cons _ (.cons _ (.refl _)))))⟩
      · have hs_8d := hs_8.swap
        refine RTI.nil ?_
        show PostK _ _ _ _ _ _
        refine post0 rfl ?_
        exact .inr ⟨done, ⟨r, a', (s.size - a')⟩, _, g_1, hu, hs_8d.sub ((.cons_cons _ (.cons _ (.cons _ (.refl _)))))⟩
  · intro w_5 hnx_1 hs_5
    have hs_5d : Sat w0 ([cObj bs 9 [(.string s)], cObj b_1 101 [(.int .i32 r), (.int .i64 (a)), (.int .i64 (z))], cSIt it_1 s (i + (dec (s.data.toList.drop i)).2)] ++ tl) _ := hs_5
    refine .e rfl (.extract rfl rfl) <| .nil <| .seq <| .condT rfl (rfl) <| .skip <| .block <| .seq <| .region <| .e rfl (.extract rfl rfl) <| .e rfl (.extract rfl rfl) <| .s rfl rfl <| .s rfl rfl <| .nil <| .seq ?_
    rcases hp with ⟨rfl, hi0, hd0⟩ | ⟨a', rfl, ha', hu⟩
    · refine .region <| .m rfl rfl <| .e rfl (.fieldAddr fld101_1 rfl rfl) <| .e rfl (.load scal3 rfl (hs_5d.cell (i := 1) (j := 1) rfl rfl)) <| .e rfl (.sub rfl rfl (by unfold inI64; omega)) <| .e rfl (.fieldAddr fld101_2 rfl rfl) <| .f rfl (.storeObj one3 hs_5d (i := 1) rfl rfl rfl (rfl) rfl fun w_9 hs_9 hch_5 => ?_)
      have hs_9d : Sat w0 ([cObj bs 9 [(.string s)], cObj b_1 101 [(.int .i32 r), (.int .i64 ((-1 : Int))), (.int .i64 ((((i : Nat) : Int) - (-1 : Int))))], cSIt it_1 s (i + (dec (s.data.toList.drop i)).2)] ++ tl) _ := hs_9
      refine .nil <| .seq <| .seq <| .regionI ?_
      refine RTI.ev rfl rfl (Ev.fieldAddr fld101_1 rfl rfl) ?_
      refine RTI.ev rfl rfl (Ev.load scal3 rfl (hs_9d.cell (i := 1) (j := 1) rfl rfl)) ?_
      refine RTI.ev rfl rfl (Ev.geq rfl rfl) ?_
      refine RTI.ev rfl rfl (Ev.move rfl) ?_
      refine RTI.no rfl rfl rfl (decide_eq_false (by omega)) rfl ?_
      refine RTI.no rfl rfl rfl (decide_eq_false (by omega)) rfl ?_
      refine RTI.no rfl rfl rfl (decide_eq_false (by omega)) rfl ?_
      refine RTI.no rfl rfl rfl (decide_eq_false (by omega)) rfl ?_
      refine RTI.ev rfl rfl (Ev.pickN rfl (decide_eq_false (by omega)) rfl) ?_
      refine RTI.nil ?_
      refine .condF rfl (rfl) <| .skip <| .region <| .m rfl rfl <| .m rfl rfl <| .e rfl (.build bt101 rfl ⟨rfl, rfl, trivial⟩ rfl) <| .f rfl (.storeObjA (vs := [(.int .i32 ((dec (s.data.toList.drop i)).1 : Nat)), (.int .i64 i), (.int .i64 (0 : Nat))]) agg101 hs_9d (i := 1) rfl rfl rfl rfl (fun v h => by simp only [List.mem_cons, List.not_mem_nil, or_false] at h; rcases h with rfl | rfl | rfl; exact rfl; exact rfl; exact rfl) fun w_10 hs_10 hch_6 => ?_)
      have hs_10d : Sat w0 ([cObj bs 9 [(.string s)], cObj b_1 101 [(.int .i32 ((dec (s.data.toList.drop i)).1 : Nat)), (.int .i64 i), (.int .i64 (0 : Nat))], cSIt it_1 s (i + (dec (s.data.toList.drop i)).2)] ++ tl) _ := hs_10
      refine .nil ?_
      exact ⟨(i + (dec (s.data.toList.drop i)).2, (dec (s.data.toList.drop i)).1, ((i : Nat) : Int), 0, done, gg, tl), ⟨rfl, rfl, rfl, rfl, trivial⟩, ⟨hs_10d, dec_roomS hnx_1, htl, .inr ⟨i, rfl, by have := dec_pos (s.data.toList.drop i); omega, by subst hd0; subst hi0; exact uns_step hnx_1⟩⟩, (show (s.size - (i + (dec (s.data.toList.drop i)).2)) < (s.size - i) from by have := dec_pos (s.data.toList.drop i); have := dec_roomS hnx_1; omega)⟩
    · refine .region <| .m rfl rfl <| .e rfl (.fieldAddr fld101_1 rfl rfl) <| .e rfl (.load scal3 rfl (hs_5d.cell (i := 1) (j := 1) rfl rfl)) <| .e rfl (.subI rfl rfl (by omega) (by omega)) <| .e rfl (.fieldAddr fld101_2 rfl rfl) <| .f rfl (.storeObj one3 hs_5d (i := 1) rfl rfl rfl (rfl) rfl fun w_11 hs_11 hch_7 => ?_)
      have hs_11d : Sat w0 ([cObj bs 9 [(.string s)], cObj b_1 101 [(.int .i32 r), (.int .i64 a'), (.int .i64 ((i - a') : Nat))], cSIt it_1 s (i + (dec (s.data.toList.drop i)).2)] ++ tl) _ := hs_11
      refine .nil <| .seq <| .seq <| .regionI ?_
      refine RTI.ev rfl rfl (Ev.fieldAddr fld101_1 rfl rfl) ?_
      refine RTI.ev rfl rfl (Ev.load scal3 rfl (hs_11d.cell (i := 1) (j := 1) rfl rfl)) ?_
      refine RTI.ev rfl rfl (Ev.geqN (b := 0) rfl rfl) ?_
      refine RTI.ev rfl rfl (Ev.move rfl) ?_
      refine RTI.yes rfl rfl rfl (decide_eq_true (by omega)) ?_
      refine RTI.ev rfl rfl (Ev.move rfl) ?_
      refine RTI.yes rfl rfl rfl (decide_eq_true (by omega)) ?_
      refine RTI.ev rfl rfl (Ev.ldObj agg101 rfl hs_11d (i := 1) rfl rfl) ?_
      refine RTI.yes rfl rfl rfl (decide_eq_true (by omega)) ?_
      have hy_2 : Sat w0 (C done gg ++ ([cObj bs 9 [(.string s)], cObj b_1 101 [(.int .i32 r), (.int .i64 a'), (.int .i64 ((i - a') : Nat))], cSIt it_1 s (i + (dec (s.data.toList.drop i)).2)] ++ ds)) w_11 := by rw [htl] at hs_11d; exact Sat.swap (A := [cObj bs 9 [(.string s)], cObj b_1 101 [(.int .i32 r), (.int .i64 a'), (.int .i64 ((i - a') : Nat))], cSIt it_1 s (i + (dec (s.data.toList.drop i)).2)]) hs_11d
      refine RTI.yield rfl rfl rfl rfl ((YieldV.mono (hr done ⟨r, a', (i - a')⟩ _ _ ([cObj bs 9 [(.string s)], cObj b_1 101 [(.int .i32 r), (.int .i64 a'), (.int .i64 ((i - a') : Nat))], cSIt it_1 s (i + (dec (s.data.toList.drop i)).2)] ++ ds) gg hu hy_2) ?_))
      rintro yb_2 w_12 (⟨rfl, g_2, hs_12⟩ | ⟨rfl, g_2, hs_12⟩)
      · have hs_12d := hs_12.swap
        obtain ⟨tl, htl⟩ : ∃ tl, tl = C (done ++ [⟨r, a', (i - a')⟩]) g_2 ++ ds := ⟨_, rfl⟩
        rw [← htl] at hs_12d
        refine RTI.yes rfl rfl rfl (decide_eq_true (by omega)) ?_
        refine RTI.ev rfl rfl (Ev.notB rfl) ?_
        refine RTI.ev rfl rfl (Ev.pickY rfl (decide_eq_true (by omega)) rfl) ?_
        refine RTI.nil ?_
        refine .condF rfl (rfl) <| .skip <| .region <| .m rfl rfl <| .m rfl rfl <| .e rfl (.build bt101 rfl ⟨rfl, rfl, trivial⟩ rfl) <| .f rfl (.storeObjA (vs := [(.int .i32 ((dec (s.data.toList.drop i)).1 : Nat)), (.int .i64 i), (.int .i64 (0 : Nat))]) agg101 hs_12d (i := 1) rfl rfl rfl rfl (fun v h => by simp only [List.mem_cons, List.not_mem_nil, or_false] at h; rcases h with rfl | rfl | rfl; exact rfl; exact rfl; exact rfl) fun w_13 hs_13 hch_8 => ?_)
        have hs_13d : Sat w0 ([cObj bs 9 [(.string s)], cObj b_1 101 [(.int .i32 ((dec (s.data.toList.drop i)).1 : Nat)), (.int .i64 i), (.int .i64 (0 : Nat))], cSIt it_1 s (i + (dec (s.data.toList.drop i)).2)] ++ tl) _ := hs_13
        refine .nil ?_
        exact ⟨(i + (dec (s.data.toList.drop i)).2, (dec (s.data.toList.drop i)).1, ((i : Nat) : Int), 0, done ++ [⟨r, a', (i - a')⟩], g_2, tl), ⟨rfl, rfl, rfl, rfl, trivial⟩, ⟨hs_13d, dec_roomS hnx_1, htl, .inr ⟨i, rfl, by have := dec_pos (s.data.toList.drop i); omega, by rw [hu, uns_step hnx_1]; simp⟩⟩, (show (s.size - (i + (dec (s.data.toList.drop i)).2)) < (s.size - i) from by have := dec_pos (s.data.toList.drop i); have := dec_roomS hnx_1; omega)⟩
      · have hs_12d := hs_12.swap
        refine RTI.yes rfl rfl rfl (decide_eq_true (by omega)) ?_
        refine RTI.ev rfl rfl (Ev.notB rfl) ?_
        refine RTI.ev rfl rfl (Ev.pickY rfl (decide_eq_true (by omega)) rfl) ?_
        refine RTI.nil ?_
        refine .condT rfl (rfl) <| .ret ?_
        show PostK _ _ _ _ _ _
        refine post0 rfl ?_
        exact .inr ⟨done, ⟨r, a', (i - a')⟩, _, g_2, hu, hs_12d.sub ((.cons_cons _ (.cons _ (.cons _ (.refl _)))))⟩
theorem iter_units (w0 : World) (s : ByteArray) (bs : Nat) (hn : s.size ≤ 1000000) : IterOk Tryz.prog 86 [.pointer (some ⟨bs, 0, none⟩)] (fun u => [encU.ag u]) (uns s.data.toList) [cObj bs 9 [.string s]] w0 :=
  fun _ l C X ds w g0 hs hr => units1_ok w0 w s bs hn l C X ds g0 hs hr
theorem uvalid_ok (u : Un) (w : World) :
    CallsV Tryz.prog 57 [((encU).ag u)] w fun r w' => r = .bool u.ok ∧ Sat w [] w' := by
  have hs0 := Sat.start w
  refine callsV_of Tryz.func57 rfl rfl ?_
  refine .seq <| .region <| .f rfl (.box hs0 rfl fun b_1 w_1 hs_1 hch_1 hb_1 => ?_)
  refine .s rfl rfl <| .nil <| .seq <| .mid (fun L' w' => Weak [(0, ((encU).ag u)), (1, (.pointer (some ⟨b_1, 0, none⟩))), (2, (.bool (decide ((u.r ≠ 65533) ∨ (u.size = 3)))))] L' ∧ Sat w [cObj b_1 101 [(.int .i32 u.r), (.int .i64 u.at_), (.int .i64 u.size)]] w') ?_ ?_
  · refine .region <| .e rfl (.fieldAddr fld101_0 rfl rfl) <| .e rfl (.load scal21 rfl (hs_1.cell (i := 0) (j := 0) rfl rfl)) <| .e rfl (.neqN (b := 65533) rfl rfl) <| .m rfl rfl ?_
    by_cases hg_1 : u.r ≠ 65533
    · refine .no rfl rfl rfl (decide_eq_true hg_1) rfl <| .no rfl rfl rfl (decide_eq_true hg_1) rfl <| .no rfl rfl rfl (decide_eq_true hg_1) rfl <| .e rfl (.pickY rfl (decide_eq_true hg_1) rfl) <| .s rfl rfl <| .nil ?_
      exact ⟨⟨rfl, rfl, congrArg some (congrArg Value.bool (by simp [hg_1])), trivial⟩, hs_1⟩
    · refine .yes rfl rfl rfl (decide_eq_false hg_1) <| .e rfl (.fieldAddr fld101_2 rfl rfl) <| .yes rfl rfl rfl (decide_eq_false hg_1) <| .e rfl (.load scal3 rfl (hs_1.cell (i := 0) (j := 2) rfl rfl)) <| .yes rfl rfl rfl (decide_eq_false hg_1) <| .e rfl (.eqlN (b := 3) rfl rfl) <| .e rfl (.pickN rfl (decide_eq_false hg_1) rfl) <| .s rfl rfl <| .nil ?_
      exact ⟨⟨rfl, rfl, congrArg some (congrArg Value.bool (by simp [hg_1])), trivial⟩, hs_1⟩
  · rintro L' w_2 ⟨hw_1, hs_2⟩
    refine .weaken _ hw_1 <| .ret ?_
    show PostK _ _ _ _ _ _
    refine post1 rfl rfl ?_
    have hs_3 : Sat w [] w_2 := hs_2.sub ((.cons _ .slnil))
    have hq : u.ok = decide ((u.r ≠ 65533) ∨ (u.size = 3)) := by by_cases h1 : u.r = 65533 <;> by_cases h2 : u.size = 3 <;> simp [Un.ok, h1, h2]
    rw [hq]
    exact ⟨rfl, hs_3⟩
theorem list_ok (s : ByteArray) (w : World) (hn : s.size ≤ 1000000) :
    CallsV Tryz.prog 98 [(.string s)] w fun r w' => Sat w [cL r 101 encU (uns s.data.toList)] w' := by
  have hs0 := Sat.start w
  refine callsV_marks Tryz.func98 rfl rfl ?_
  refine CT.seq ?_
  refine .region <| .s rfl rfl <| .nil ?_
  refine CT.seq ?_
  refine .region <| .f rfl (.alloc hs0 zero142 fun b_1 w_1 hs_1 hch_1 hb_1 => ?_)
  refine .nil ?_
  refine CT.seqB ?_
  have hs_2 := hs_1.newNilL 101 (encU)
  refine .region <| .m rfl rfl <| .f rfl (.call ent56 rfl ((units_ok s _).mono fun r_1 w_2 h_1 => ?_))
  obtain ⟨ub_1, rfl, hp_1⟩ := h_1
  have hs_3 : Sat w [_, _, cObj ub_1 9 [(.string s)]] _ := hs_2.adds hp_1
  refine .nil ?_
  refine ct_range (own := [cObj ub_1 9 [(.string s)]]) (cs := []) (enc := fun u => encU.ag u) (us := uns s.data.toList) (fun done (gv : Value) => [cObj b_1 142 [gv], cL gv 101 (encU) (done)]) (fun done (gv : Value) => [cPure False])
    (fun u b => [(3, (.pointer (some ⟨b_1, 0, none⟩))), (4, (.pointer (some ⟨b, 0, none⟩)))]) (fun done (gv : Value) u b => [cObj b_1 142 [gv], cL gv 101 (encU) (done), cObj b 101 [(.int .i32 u.r), (.int .i64 u.at_), (.int .i64 u.size)]]) (Value.slice none 0 0) rfl rfl ent86 hs_3 (iter_units _ _ _ (hn)) ?_ ?_ ?_ ?_
  · intro lp done u rest w2 ds gv hu hs2
    refine CWR.weaken [(3, (.pointer (some ⟨b_1, 0, none⟩))), (7, ((encU).ag u))] ⟨rfl, rfl, trivial⟩ ?_
    refine CWR.region (by rfl) ?_
    refine .f rfl (.alloc hs2 zero101 fun b_2 w_3 hs_4 hch_2 hb_2 => ?_)
    have hs_4d : Sat w ([cObj b_1 142 [gv], cL gv 101 (encU) (done), cObj b_2 101 [(.int .i32 (0 : Nat)), (.int .i64 (0 : Nat)), (.int .i64 (0 : Nat))]] ++ ds) _ := (hs_4).mid
    refine .f rfl (.storeObjA (vs := (encU).enc u) agg101 hs_4d (i := 2) rfl rfl rfl rfl ((encU).one _) fun w_4 hs_5 hch_3 => ?_)
    have hs_5d : Sat w ([cObj b_1 142 [gv], cL gv 101 (encU) (done), cObj b_2 101 [(.int .i32 u.r), (.int .i64 u.at_), (.int .i64 u.size)]] ++ ds) _ := hs_5
    refine .nil ?_
    exact ⟨b_2, ⟨rfl, rfl, trivial⟩, hs_5d⟩
  · intro lp done u rest b w2 ds gv hu hs2
    refine CWR.block ?_
    refine CWR.region (by rfl) ?_
    refine .e rfl (.load scal142 rfl (hs2.cell (i := 0) (j := 0) rfl rfl)) <| .e rfl (.ldObj agg101 rfl hs2 (i := 2) rfl rfl) <| .f rfl (.lit1A (encU) u sl142 (by decide) (by decide) hs2 rfl fun v_1 w_5 hs_6 hch_4 => ?_)
    have hs_6d : Sat w ([cObj b_1 142 [gv], cL gv 101 (encU) (done), cObj b 101 [(.int .i32 u.r), (.int .i64 u.at_), (.int .i64 u.size)], cL v_1 101 (encU) ([u])] ++ ds) _ := (hs_6).mid
    refine .f rfl (.appendL 1 sl142 hs_6d rfl rfl rfl Tryz.underlying142 (hs_6d.rdL 3 rfl) (by have h1 := uns_length s.data.toList; have h2 := congrArg List.length hu; rw [bsz] at h1; simp only [List.length_append, List.length_cons, List.length_nil] at h2 ⊢; omega) (by have h1 := uns_length s.data.toList; have h2 := congrArg List.length hu; rw [bsz] at h1; simp only [List.length_append, List.length_cons, List.length_nil] at h2 ⊢; omega) fun v_2 w_6 hs_7 hch_5 => ?_)
    have hs_7d : Sat w ([cObj b_1 142 [gv], cL v_2 101 (encU) (done ++ [u]), cObj b 101 [(.int .i32 u.r), (.int .i64 u.at_), (.int .i64 u.size)]] ++ ds) _ := hs_7.drop 3
    refine .f rfl (.storeObj one142 hs_7d (i := 0) rfl rfl rfl ((hs_7d.rdL 1 rfl).oneCell) rfl fun w_7 hs_8 hch_6 => ?_)
    have hs_8d : Sat w ([cObj b_1 142 [v_2], cL v_2 101 (encU) (done ++ [u]), cObj b 101 [(.int .i32 u.r), (.int .i64 u.at_), (.int .i64 u.size)]] ++ ds) _ := hs_8
    refine .nil ?_
    have hs_9 : Sat w ([cObj b_1 142 [v_2], cL v_2 101 (encU) (done ++ [u])] ++ ds) w_7 := hs_8d.sub ((.cons_cons _ (.cons_cons _ (.cons _ (.refl _)))))
    exact ⟨_, hs_9⟩
  · intro D w2 gv hs2
    have hs3 : Sat w [cObj b_1 142 [gv], cL gv 101 (encU) ((uns s.data.toList)), _, cDef D (some [])] w2 := hs2
    refine .e rfl (.load scal142 rfl (hs3.cell (i := 0) (j := 0) rfl rfl)) <| .s rfl rfl <| .nil ?_
    refine ⟨[cObj b_1 142 [gv], cL gv 101 (encU) ((uns s.data.toList)), cObj ub_1 9 [(.string s)]], hs3, fun w3 hs4 => ?_⟩
    exact post1 rfl rfl (hs4.sub (.cons _ (.cons_cons _ (.cons _ (.cons _ .slnil)))))
  · intro done u rest D w2 gv hu hs2
    exact hs2.pureGet.elim
theorem lx_valid_ok (s : ByteArray) (w : World) (hn : s.size ≤ 1000000) :
    CallsV Tryz.prog 31 [(.string s)] w fun r w' => r = .bool (validN s) ∧ Sat w [] w' := by
  have hs0 := Sat.start w
  refine callsV_marks Tryz.func31 rfl rfl ?_
  refine CT.seq ?_
  refine .region <| .f rfl (.alloc hs0 zero4 fun b_1 w_1 hs_1 hch_1 hb_1 => ?_)
  refine .nil ?_
  refine CT.seqB ?_
  have hs_2 : Sat w [cPure (∀ u ∈ ([] : List Un), u.ok = true), cObj b_1 4 [(.bool false)]] _ := hs_1.pure (p := ∀ u ∈ ([] : List Un), u.ok = true) (by simp)
  refine .region <| .m rfl rfl <| .f rfl (.call ent56 rfl ((units_ok s _).mono fun r_1 w_2 h_1 => ?_))
  obtain ⟨ub_1, rfl, hp_1⟩ := h_1
  have hs_3 := hs_2.adds hp_1
  refine .nil ?_
  refine ct_range (own := [cObj ub_1 9 [(.string s)]]) (cs := []) (enc := fun u => encU.ag u) (us := uns s.data.toList) (fun done (gv : Unit) => [cPure (∀ u ∈ done, u.ok = true), cObj b_1 4 [(.bool false)]]) (fun done (gv : Unit) => [cPure (∃ u ∈ done, u.ok = false), cObj b_1 4 [(.bool false)]])
    (fun u b => [(2, (.pointer (some ⟨b_1, 0, none⟩))), (3, (.pointer (some ⟨b, 0, none⟩)))]) (fun done (gv : Unit) u b => [cPure (∀ u ∈ done, u.ok = true), cObj b_1 4 [(.bool false)], cObj b 101 [(.int .i32 u.r), (.int .i64 u.at_), (.int .i64 u.size)]]) () rfl rfl ent86 hs_3 (iter_units _ _ _ (hn)) ?_ ?_ ?_ ?_
  · intro lp done u rest w2 ds gv hu hs2
    refine CWR.weaken [(2, (.pointer (some ⟨b_1, 0, none⟩))), (6, ((encU).ag u))] ⟨rfl, rfl, trivial⟩ ?_
    refine CWR.region (by rfl) ?_
    refine .f rfl (.alloc hs2 zero101 fun b_2 w_3 hs_4 hch_2 hb_2 => ?_)
    have hs_4d : Sat w ([cPure (∀ u ∈ done, u.ok = true), cObj b_1 4 [(.bool false)], cObj b_2 101 [(.int .i32 (0 : Nat)), (.int .i64 (0 : Nat)), (.int .i64 (0 : Nat))]] ++ ds) _ := (hs_4).mid
    refine .f rfl (.storeObjA (vs := (encU).enc u) agg101 hs_4d (i := 2) rfl rfl rfl rfl ((encU).one _) fun w_4 hs_5 hch_3 => ?_)
    have hs_5d : Sat w ([cPure (∀ u ∈ done, u.ok = true), cObj b_1 4 [(.bool false)], cObj b_2 101 [(.int .i32 u.r), (.int .i64 u.at_), (.int .i64 u.size)]] ++ ds) _ := hs_5
    refine .nil ?_
    exact ⟨b_2, ⟨rfl, rfl, trivial⟩, hs_5d⟩
  · intro lp done u rest b w2 ds gv hu hs2
    refine CWR.block ?_
    refine CWR.seq ?_
    refine CWR.region (by rfl) ?_
    refine .e rfl (.ldObj agg101 rfl hs2 (i := 2) rfl rfl) <| .f rfl (.call ent57 rfl ((uvalid_ok u _).mono fun r_2 w_5 h_2 => ?_))
    obtain ⟨rfl, hp_2⟩ := h_2
    have hs_6 : Sat w ([cPure (∀ u ∈ done, u.ok = true), cObj b_1 4 [(.bool false)], cObj b 101 [(.int .i32 u.r), (.int .i64 u.at_), (.int .i64 u.size)]] ++ ds) _ := (hs2.adds hp_2).mid
    refine .e rfl (.notB rfl) <| .nil ?_
    refine CWR.cond rfl (fun hc_1 => ?_) (fun hc_1 => ?_)
    · refine CWR.seq ?_
      refine CWR.region (by rfl) ?_
      refine .f rfl (.storeObj one4 hs_6 (i := 1) rfl rfl rfl (rfl) rfl fun w_6 hs_7 hch_4 => ?_)
      have hs_7d : Sat w ([cPure (∀ u ∈ done, u.ok = true), cObj b_1 4 [(.bool false)], cObj b 101 [(.int .i32 u.r), (.int .i64 u.at_), (.int .i64 u.size)]] ++ ds) _ := hs_7
      refine .nil ?_
      refine CWR.ret ?_
      have hs_8 : Sat w ([cPure (∀ u ∈ done, u.ok = true), cObj b_1 4 [(.bool false)]] ++ ds) w_6 := hs_7d.sub ((.cons_cons _ (.cons_cons _ (.cons _ (.refl _)))))
      exact ⟨(), hs_8.rePure (q := ∃ v ∈ done ++ [u], v.ok = false) (fun _ => ⟨u, by simp, by simpa using hc_1⟩)⟩
    · refine CWR.skip ?_
      have hs_9 : Sat w ([cPure (∀ u ∈ done, u.ok = true), cObj b_1 4 [(.bool false)]] ++ ds) w_5 := hs_6.sub ((.cons_cons _ (.cons_cons _ (.cons _ (.refl _)))))
      exact ⟨(), hs_9.rePure (q := ∀ v ∈ done ++ [u], v.ok = true) (fun hp v hv => by rcases List.mem_append.1 hv with hv | hv; exact hp v hv; rw [List.mem_singleton.1 hv]; simpa using hc_1)⟩
  · intro D w2 gv hs2
    have hs3 : Sat w [cPure (∀ u ∈ (uns s.data.toList), u.ok = true), _, _, cDef D (some [])] w2 := hs2
    refine .f rfl (.storeObj one4 hs3 (i := 1) rfl rfl rfl (rfl) rfl fun w_7 hs_10 hch_5 => ?_)
    refine .nil ?_
    refine ⟨[cPure (∀ u ∈ (uns s.data.toList), u.ok = true), cObj b_1 4 [(.bool true)], cObj ub_1 9 [(.string s)]], hs_10, fun w3 hs4 => ?_⟩
    have hok : validN s = true := List.all_eq_true.2 (hs3.pureGet)
    refine post1s rfl rfl scal4 (hs4.cell (i := 1) (j := 0) rfl rfl) ?_
    exact ⟨by rw [hok], hs4.sub ((.cons _ (.cons _ (.cons _ (.cons _ .slnil)))))⟩
  · intro done u rest D w2 gv hu hs2
    obtain ⟨v, hv, hbad⟩ := hs2.pureGet
    have hok : validN s = false := by
      cases hq : validN s with
      | false => rfl
      | true =>
        have := List.all_eq_true.1 hq v (by rw [hu]; rw [show done ++ u :: rest = (done ++ [u]) ++ rest by simp]; exact List.mem_append_left _ hv)
        rw [hbad] at this; cases this
    refine post1s rfl rfl scal4 (hs2.cell (i := 1) (j := 0) rfl rfl) ?_
    exact ⟨by rw [hok], hs2.sub (.cons _ (.cons _ (.cons _ (.cons _ .slnil))))⟩
theorem reverse_ok (s : ByteArray) (w : World) (hn : s.size ≤ 1000000) :
    CallsV Tryz.prog 60 [(.string s)] w fun r w' => r = .string (revN s) ∧ Sat w [] w' := by
  have hs0 := Sat.start w
  refine callsV_of Tryz.func60 rfl rfl ?_
  refine .seq <| .region <| .s rfl rfl <| .nil <| .seq <| .region <| .m rfl rfl <| .f rfl (.call ent98 rfl ((list_ok s _ (hn)).mono fun r_1 w_1 h_1 => ?_))
  have hp_1 := h_1
  have hs_1 := hs0.adds hp_1
  refine .s rfl rfl <| .nil <| .seq <| .region <| .m rfl rfl <| .e rfl (.lenStr Tryz.underlying9 rfl) <| .f rfl (.makeL (encN .u8) (0) (l := 0) sl22 rfl hs_1 rfl rfl (by omega) (by omega) (by omega) fun v_1 w_2 hs_2 hch_1 => ?_)
  refine .s rfl rfl <| .nil <| .seq <| .seq ?_
  have hul := uns_length s.data.toList
  rw [bsz] at hul
  refine .region <| .m rfl rfl <| .e rfl (.lenL Tryz.underlying142 rfl (hs_2.rdL 0 rfl)) <| .e rfl (.sub (b := (1 : Int)) rfl rfl (by unfold inI64; omega)) <| .s rfl rfl <| .nil <| .block <| .loop (α := Nat × Value × List Nat) (fun (m1, v, acc) => [(0, (.string s)), (3, r_1), (4, v), (5, (.int .i64 ((((m1 : Nat) : Int) - 1))))]) (fun (m1, v, acc) w' => Sat w [cL r_1 101 (encU) (uns s.data.toList), cL v 5 (encN .u8) (acc)] w' ∧ (m1 ≤ (uns s.data.toList).length) ∧ (acc = revB s ((uns s.data.toList).drop m1)) ∧ (acc.length ≤ ((uns s.data.toList).length - m1) * 1000000)) (fun (m1, v, acc) => m1) ((uns s.data.toList).length, v_1, []) ⟨rfl, rfl, rfl, rfl, trivial⟩ ⟨hs_2, Nat.le_refl _, by rw [List.drop_length]; rfl, Nat.zero_le _⟩ ?_
  rintro ⟨m1, v, acc⟩ w_3 ⟨hs_3, hm, hacc, hlen⟩
  show CW _ _ _ _ [(0, (.string s)), (3, r_1), (4, v), (5, (.int .i64 ((((m1 : Nat) : Int) - 1))))] _
  refine .seq <| .seq <| .region <| .m rfl rfl <| .e rfl (.geq rfl rfl) <| .nil <| .condD rfl (fun hc_1 => ?_) (fun hc_1 => ?_)
  · refine .skip <| .seq <| .block ?_
    obtain ⟨j, rfl⟩ : ∃ j, m1 = j + 1 := ⟨m1 - 1, by omega⟩
    refine .weaken [(0, _), (3, _), (4, _), (5, (.int .i64 j)), (14, _), (15, _)] ⟨rfl, rfl, rfl, congrArg some (congrArg (Value.int .i64) (by omega)), rfl, rfl, trivial⟩ ?_
    obtain ⟨u, hu⟩ : ∃ u, (uns s.data.toList)[j]? = some u := ⟨_, List.getElem?_eq_getElem (by omega)⟩
    have hur := (uns_room s.data.toList u (List.mem_of_getElem? hu)).1
    rw [bsz] at hur
    have hdj := drop_at hu
    have hps : (strB (s.extract u.at_ (u.at_ + u.size))).length ≤ 1000000 := by rw [strB_length, ByteArray.size_extract]; omega
    have hshp_1 := (hs_3.rdL (E := encN .u8) 1 rfl).shp (by decide)
    refine .drawS hs_1 (.free 0 (.free 1 (.free 2 (.free 3 (.free 4 (.free 5 (.free 6 (.free 7 (.free 8 (.free 9 (.free 10 (.free 11 (.free 12 (.free 13 (.free 14 (.free 15 (.free 16 (.free 17 (.free 18 (.one 19 (.free 20 .fin))))))))))))))))))))) mixed (by kernel_rfl) ?_
    have hs_4 := hs_3.drew
    have hS_1 : Sat w [_] _ := hs_4.sub ((.cons_cons _ (.cons _ .slnil)))
    refine .m rfl rfl hS_1 <| .m rfl rfl hS_1 <| .m rfl rfl hS_1 <| .m rfl rfl hS_1 <| .e rfl (fun w' hS' => .idxL (E := encU) sl142 rfl rfl (hS'.rdL 0 rfl) (by omega)) hS_1 <| .e rfl (fun w' hS' => .fldL (E := encU) fld101_1 rfl (hS'.rdL 0 rfl) (by omega) (by decide)) hS_1 <| .e rfl (fun w' hS' => .ldLF (E := encU) scal3 rfl (hS'.rdL 0 rfl) hu (by decide) rfl) hS_1 <| .m rfl rfl hS_1 <| .m rfl rfl hS_1 <| .e rfl (fun w' hS' => .idxL (E := encU) sl142 rfl rfl (hS'.rdL 0 rfl) (by omega)) hS_1 <| .e rfl (fun w' hS' => .fldL (E := encU) fld101_1 rfl (hS'.rdL 0 rfl) (by omega) (by decide)) hS_1 <| .e rfl (fun w' hS' => .ldLF (E := encU) scal3 rfl (hS'.rdL 0 rfl) hu (by decide) rfl) hS_1 <| .m rfl rfl hS_1 <| .m rfl rfl hS_1 <| .e rfl (fun w' hS' => .idxL (E := encU) sl142 rfl rfl (hS'.rdL 0 rfl) (by omega)) hS_1 <| .e rfl (fun w' hS' => .fldL (E := encU) fld101_2 rfl (hS'.rdL 0 rfl) (by omega) (by decide)) hS_1 <| .e rfl (fun w' hS' => .ldLF (E := encU) scal3 rfl (hS'.rdL 0 rfl) hu (by decide) rfl) hS_1 <| .e rfl (fun w' hS' => .addI rfl rfl (by omega)) hS_1 <| .e rfl (fun w' hS' => .sliceStr (l := u.at_) (h := (u.at_ + u.size)) Tryz.underlying9 rfl ⟨_, rfl⟩ ⟨_, rfl⟩ (by omega) (by omega)) hS_1 <| .f rfl (.appendSrc 1 sl22 hs_4 rfl rfl rfl (srcStr Tryz.underlying9 _) (by omega) (by omega) fun v_2 w_4 hs_5 hch_2 => ?_)
    have hS_2 : Sat w [_] _ := hs_5.sub ((.cons_cons _ (.cons _ .slnil)))
    refine ⟨hS_2, ?_⟩
    refine .e rfl (fun w' hS' => .assign rfl) hS_2 <| .fin <| .region <| .m rfl rfl <| .e rfl (.sub (b := (1 : Int)) rfl rfl (by unfold inI64; omega)) <| .s rfl rfl <| .nil ?_
    exact ⟨(j, v_2, acc ++ strB (s.extract u.at_ (u.at_ + u.size))), ⟨rfl, rfl, rfl, rfl, trivial⟩, ⟨hs_5, by omega, by rw [hacc, hdj, revB_cons], by rw [List.length_append]; omega⟩, (show ((j)) < (j + 1) from by omega)⟩
  · refine .exit0 <| .seq <| .region <| .m rfl rfl <| .e rfl (.bytesStr Tryz.underlying22 Tryz.underlying9 Tryz.underlying5 rfl (hs_3.rdL 1 rfl)) <| .s rfl rfl <| .nil <| .ret ?_
    show PostK _ _ _ _ _ _
    refine post1 rfl rfl ?_
    have hs_6 : Sat w [] w_3 := hs_3.sub ((.cons _ (.cons _ .slnil)))
    have h0 : m1 = 0 := by omega
    subst h0
    rw [hacc, List.drop_zero, revB_str, revP_uns]
    exact ⟨rfl, hs_6⟩
end Go.Proofs.YtecfgjdpghddgaaGreat
namespace Go.Proofs.YtecfgjdpghddgaaGreat
open Go.RowKit Go.Kw
set_option maxRecDepth 100000
theorem sortS_ok (w0 w : World) (cs : List Chunk) (i : Nat) (v : Value) (l : List ByteArray) (hs : Sat w0 cs w) (hi : cs[i]? = some (cL v 9 encTx l)) (hn : l.length < 4611686018427387904) :
    CallsV Tryz.prog 32 [v] w fun r w' => r = .tuple #[] ∧ Sat w0 (cs.set i (cL v 9 encTx (sortB l))) w' := by
  have hi' : cs[i]? = some (cSl v 9 1 l.length ((l.map fun s => s.data.toList).map Go.Proofs.encStr)) := by rw [← allS_map]; exact hi
  rcases hs.slCases hi' with ⟨h0, rfl⟩ | ⟨g, cap, rfl⟩
  · have hl : l = [] := List.eq_nil_of_length_eq_zero h0
    subst hl
    refine Calls.mono (Go.Proofs.Any.slices_Sort_string_none Tryz.lays190 none 0 w) ?_
    rintro e w' ⟨rfl, rfl⟩
    have e1 : cs.set i (cL (.slice none 0 0) 9 encTx (sortB [])) = cs := by
      obtain ⟨hil, hci⟩ := List.getElem?_eq_some_iff.1 hi
      have : sortB [] = [] := by simp [sortB]
      rw [this, ← hci]; exact List.set_getElem_self hil
    exact ⟨_, rfl, rfl, by rw [e1]; exact hs⟩
  · have hlen : (l.map fun s => s.data.toList).length = l.length := List.length_map ..
    obtain ⟨hH, hg⟩ := hs.holds1 hlen hi'
    have hc := Tryz.slices_Sort_string g 0 cap (l.map fun s => s.data.toList) w hH hg (by rw [hlen]; exact hn)
    rw [hlen] at hc
    refine Calls.mono hc ?_
    rintro e w' ⟨rfl, n, os, rfl⟩
    have h2 := hs.sortW hlen hi' ((l.map fun s => s.data.toList).mergeSort fun x y => decide (x ≤ y)) (by simp) n os
    have e2 : cSl (.slice (some ⟨g, 0, none⟩) l.length cap) 9 1 l.length (((l.map fun s => s.data.toList).mergeSort fun x y => decide (x ≤ y)).map Go.Proofs.encStr) = cL (.slice (some ⟨g, 0, none⟩) l.length cap) 9 encTx (sortB l) := by
      unfold cL
      rw [allS_map, sortB_length]
      have : (sortB l).map (fun s => s.data.toList) = (l.map fun s => s.data.toList).mergeSort fun x y => decide (x ≤ y) := by
        unfold sortB; rw [List.map_map]; exact List.map_id' _
      rw [this]; rfl
    rw [e2] at h2
    exact ⟨_, rfl, rfl, h2⟩
theorem sortF_ok (w0 w : World) (cs : List Chunk) (i m : Nat) (v : Value) (l : List Nat) (g : FuncId) (cap : Array Value) (R : Nat → Nat → Prop) [DecidableRel R] (hs : Sat w0 cs w) (hi : cs[i]? = some (cL v 3 (encN .i64) l)) (hn : l.length < 4611686018427387904)
    (hm : ∀ x ∈ l, x < m) (hent : Enters Tryz.prog g) (cf : Nat → Nat → Int) (hcf : ∀ x y, cf x y < 0 ↔ R x y) (irr : ∀ a, ¬ R a a) (tr : ∀ {a b c}, R a b → R b c → R a c) (ntr : ∀ {a b c}, ¬ R a b → ¬ R b c → ¬ R a c)
    (hcmp : ∀ x y l' W, x < m → y < m → l'.length = l.length → Sat w0 (cs.set i (cL v 3 (encN .i64) l')) W → CallsV Tryz.prog g ([.int .i64 (x : Int), .int .i64 (y : Int)] ++ cap.toList) W fun r W' => r = .int .i64 (cf x y) ∧ Sat W [] W' ∧ W.drawn ≤ W'.drawn) :
    CallsV Tryz.prog 61 [v, .func (.func g) #[] cap] w fun r w' => r = .tuple #[] ∧ ∃ l', l'.Perm l ∧ l'.Pairwise (fun a b => ¬ R b a) ∧ Sat w0 (cs.set i (cL v 3 (encN .i64) l')) w' := by
  have hi' : cs[i]? = some (cSl v 3 1 l.length (l.map fun (x : Nat) => Value.int .i64 (x : Int))) := by rw [← allN_map]; exact hi
  obtain ⟨hil, hci⟩ := List.getElem?_eq_some_iff.1 hi
  rcases hs.slCases hi' with ⟨h0, rfl⟩ | ⟨b, c, rfl⟩
  · have hl : l = [] := List.eq_nil_of_length_eq_zero h0
    subst hl
    refine Calls.mono (Tryz.slices_SortFunc_none (α := Nat) none 0 _ w) ?_
    rintro e w' ⟨rfl, rfl⟩
    exact ⟨_, rfl, rfl, [], List.Perm.refl _, List.Pairwise.nil, by rw [← hci, List.set_getElem_self hil]; exact hs⟩
  · by_cases h0 : l = []
    · subst h0
      refine Calls.mono (Tryz.slices_SortFunc_none (α := Nat) _ c _ w) ?_
      rintro e w' ⟨rfl, rfl⟩
      exact ⟨_, rfl, rfl, [], List.Perm.refl _, List.Pairwise.nil, by rw [← hci, List.set_getElem_self hil]; exact hs⟩
    · have hm0 : 0 < m := by
        cases l with
        | nil => exact absurd rfl h0
        | cons x r => have := hm x (List.mem_cons_self ..); omega
      haveI : Inhabited (Fin m) := ⟨⟨0, hm0⟩⟩
      obtain ⟨ds, hds⟩ : ∃ ds : List (Fin m), ds.map Fin.val = l := ⟨l.pmap (fun x hx => (⟨x, hx⟩ : Fin m)) hm, by rw [List.map_pmap]; simp⟩
      have hlen : ds.length = l.length := by rw [← hds, List.length_map]
      have henc : l.map (fun (x : Nat) => Value.int .i64 (x : Int)) = ds.map (fun x : Fin m => Value.int .i64 ((x.val : Nat) : Int)) := by rw [← hds, List.map_map]; rfl
      rw [henc] at hi'
      obtain ⟨hH, hg⟩ := hs.holds1 hlen hi'
      have eL : ∀ ts : List (Fin m), ts.length = l.length → cSl (.slice (some ⟨b, 0, none⟩) l.length c) 3 1 l.length (ts.map (fun x : Fin m => Value.int .i64 ((x.val : Nat) : Int))) = cL (.slice (some ⟨b, 0, none⟩) l.length c) 3 (encN .i64) (ts.map Fin.val) := fun ts ht => by
        unfold cL
        rw [allN_map, List.length_map, List.map_map, ht]; rfl
      have hcm : Go.Proofs.CmpLays1 Tryz.prog g cap (fun x : Fin m => Value.int .i64 ((x.val : Nat) : Int)) (fun x y => cf x.val y.val) b 0 ds.toArray.size w := by
        intro k os dk hk x y
        have hdk : dk.toList.length = l.length := by rw [Array.length_toList, hk]; simpa using hlen
        have h2 := hs.sortW hlen hi' dk.toList hdk k os
        rw [eL _ hdk] at h2
        have hc := hcmp x.val y.val (dk.toList.map Fin.val) _ x.isLt y.isLt (by rw [List.length_map, hdk]) h2
        rw [show dk.toList.toArray = dk by simp] at hc
        have e3 : ([Value.int .i64 ((x.val : Nat) : Int), Value.int .i64 ((y.val : Nat) : Int)] ++ cap.toList).toArray = #[Value.int .i64 ((x.val : Nat) : Int), Value.int .i64 ((y.val : Nat) : Int)] ++ cap := by simp
        unfold CallsV at hc
        rw [e3] at hc
        refine Calls.mono hc ?_
        rintro e w' ⟨r, rfl, rfl, hS, hd⟩
        exact ⟨rfl, Go.Kw.Below.grown_of hS.old hd⟩
      have hO : Go.Sort.SWO (Go.Proofs.ltOf fun x y : Fin m => cf x.val y.val) := by
        refine ⟨fun x => decide_eq_false fun h => irr _ ((hcf _ _).1 h), fun x y z h1 h2 => decide_eq_true ((hcf _ _).2 (tr ((hcf _ _).1 (of_decide_eq_true h1)) ((hcf _ _).1 (of_decide_eq_true h2)))), fun x y z h1 h2 => decide_eq_false fun h => ?_⟩
        exact ntr (fun h' => of_decide_eq_false h1 ((hcf _ _).2 h')) (fun h' => of_decide_eq_false h2 ((hcf _ _).2 h')) ((hcf _ _).1 h)
      have hc := Tryz.slices_SortFunc (fun x : Fin m => Value.int .i64 ((x.val : Nat) : Int)) (fun _ => rfl) (fun x y : Fin m => cf x.val y.val) hO g cap b 0 c ds.toArray w hent hcm hH hg (by simpa [hlen] using hn)
      have hsz : ds.toArray.size = l.length := by simpa using hlen
      rw [hsz] at hc
      refine Calls.mono hc ?_
      rintro e w' ⟨rfl, d', n, os, hP, hS, rfl⟩
      have hd' : d'.toList.length = l.length := by rw [Array.length_toList, hP.1, hsz]
      have h2 := hs.sortW hlen hi' d'.toList hd' n os
      rw [eL _ hd', show d'.toList.toArray = d' by simp] at h2
      refine ⟨_, rfl, rfl, d'.toList.map Fin.val, ?_, ?_, h2⟩
      · rw [← hds]
        refine List.Perm.map _ ?_
        have h3 := hP.2.2
        rw [show d'.extract 0 l.length = d' by rw [show l.length = d'.size by rw [hP.1, hsz]]; simp, show ds.toArray.extract 0 l.length = ds.toArray by rw [show l.length = ds.toArray.size by rw [hsz]]; simp] at h3
        exact h3
      · rw [List.pairwise_map, List.pairwise_iff_getElem]
        intro p q hp hq hpq hR
        have h4 := hS p q (Nat.zero_le _) hpq (by rw [← hd']; exact hq)
        have e5 : ∀ k (hk : k < d'.toList.length), d'[k]! = d'.toList[k] := fun k hk => by
          rw [getElem!_pos d' k (by simpa using hk)]; rfl
        rw [e5 p hp, e5 q hq] at h4
        exact of_decide_eq_false h4 ((hcf _ _).2 hR)
theorem compare_ok (a b : ByteArray) (w : World) : CallsV Tryz.prog 63 [.string a, .string b] w fun r w' => r = .int .i64 (Lib.compareBytes a.data.toList b.data.toList) ∧ w' = w := by
  refine Calls.mono (Tryz.strings_Compare a b w) ?_
  rintro e w' ⟨rfl, rfl⟩; exact ⟨_, rfl, rfl, rfl⟩
theorem search_ok (f : FuncId) (cap : Array Value) (n : Nat) (p : Nat → Bool) (w : World) (ent : Enters Tryz.prog f) (hn : n < 4611686018427387904)
    (hf : ∀ i w', i < n → Sat w [] w' → CallsV Tryz.prog f ([.int .i64 (i : Int)] ++ cap.toList) w' fun r w'' => r = .bool (p i) ∧ Sat w' [] w'') (hmono : ∀ a b, a ≤ b → b < n → p a = true → p b = true) :
    CallsV Tryz.prog 64 [(.int .i64 n), (.func (.func f) #[] cap)] w fun r w' => ∃ k, r = .int .i64 ((k : Nat) : Int) ∧ k ≤ n ∧ (∀ i, i < k → p i = false) ∧ (∀ i, k ≤ i → i < n → p i = true) ∧ Sat w [] w' := by
  have hs0 := Sat.start w
  refine callsV_of Tryz.func64 rfl rfl ?_
  refine .seq <| .region <| .s rfl rfl <| .nil <| .seq <| .region <| .m rfl rfl <| .s rfl rfl <| .s rfl rfl <| .nil <| .seq <| .block <| .loop (α := Nat × Nat) (fun (i, j) => [(1, (.func (.func f) #[] cap)), (5, (.int .i64 i)), (6, (.int .i64 j))]) (fun (i, j) w' => Sat w [] w' ∧ (i ≤ j) ∧ (j ≤ n) ∧ (∀ q, q < i → p q = false) ∧ (∀ q, j ≤ q → q < n → p q = true)) (fun (i, j) => j - i) (0, n) ⟨rfl, rfl, rfl, trivial⟩ ⟨hs0, Nat.zero_le _, Nat.le_refl _, fun q hq => absurd hq (Nat.not_lt_zero q), fun q hq hn => absurd hn (by omega)⟩ ?_
  rintro ⟨i, j⟩ w_1 ⟨hs_1, hij, hjn, h1, h2⟩
  show CW _ _ _ _ [(1, (.func (.func f) #[] cap)), (5, (.int .i64 i)), (6, (.int .i64 j))] _
  refine .seq <| .seq <| .region <| .m rfl rfl <| .m rfl rfl <| .e rfl (.lssN rfl rfl) <| .nil <| .condD rfl (fun hc_1 => ?_) (fun hc_1 => ?_)
  · refine .skip <| .block <| .seq <| .region <| .m rfl rfl <| .m rfl rfl <| .e rfl (.addI rfl rfl (by omega)) <| .e rfl (.convK (by rw [Tryz.underlying3]; rfl) Tryz.underlying88 rfl (wrap_u rfl (by (try simp only [IntKind.bits]); omega))) <| .e rfl (.shrN (b := 1) rfl rfl (by (try simp only [IntKind.bits]); omega)) <| .e rfl (.convK (by rw [Tryz.underlying88]; rfl) Tryz.underlying3 rfl (wrap_i (by omega))) <| .s rfl rfl <| .nil <| .seq <| .region <| .m rfl rfl <| .m rfl rfl <| .f rfl (.callv ent rfl rfl ((hf (((i + j) / 2 ^ 1)) _ (by omega) hs_1).mono fun r_1 w_2 h_1 => ?_))
    obtain ⟨rfl, hp_1⟩ := h_1
    have hs_2 := hs_1.adds hp_1
    refine .e rfl (.notB rfl) <| .nil <| .cond rfl (fun hc_2 => ?_) (fun hc_2 => ?_)
    · refine .region <| .m rfl rfl <| .e rfl (.addI (b := 1) rfl rfl (by omega)) <| .s rfl rfl <| .nil ?_
      exact ⟨((((i + j) / 2 ^ 1) + 1), j), ⟨rfl, rfl, rfl, trivial⟩, ⟨hs_2, by omega, by omega, fun q hq => by
      rcases Bool.eq_false_or_eq_true (p q) with hp | hp
      · have := hmono q _ (show q ≤ (i + j) / 2 ^ 1 by omega) (by omega) hp
        rw [this] at hc_2; simp at hc_2
      · exact hp, h2⟩, (show ((j) - ((((i + j) / 2 ^ 1) + 1))) < (j - i) from by omega)⟩
    · refine .region <| .m rfl rfl <| .s rfl rfl <| .nil ?_
      exact ⟨(i, ((i + j) / 2 ^ 1)), ⟨rfl, rfl, rfl, trivial⟩, ⟨hs_2, by omega, by omega, h1, fun q hq hqn => hmono _ q hq hqn (by simpa using hc_2)⟩, (show ((((i + j) / 2 ^ 1)) - (i)) < (j - i) from by omega)⟩
  · refine .exit0 <| .seq <| .region <| .m rfl rfl <| .s rfl rfl <| .nil <| .ret ?_
    show PostK _ _ _ _ _ _
    refine post1 rfl rfl ?_
    have hij2 : i = j := by omega
    subst hij2
    exact ⟨i, rfl, by omega, h1, h2, hs_1⟩
theorem number1_ok (B1 B2 : Nat) (g : Nat) (vw vc vo : Value) (W : List ByteArray) (C O : List Nat) (s : ByteArray) (i : Nat) (w : World) (h1 : w.cell? ⟨B1, 0, none⟩ = some (.pointer (some ⟨g, 0, none⟩))) (h2 : w.cell? ⟨B2, 0, none⟩ = some (.string s)) (h : LexAt w g vw vc vo W C O) (hi : i < W.length) :
    CallsV Tryz.prog 65 [(.int .i64 i), (.pointer (some ⟨B1, 0, none⟩)), (.pointer (some ⟨B2, 0, none⟩))] w fun r w' => r = .bool (decide (¬ SLt (W.getD i ByteArray.empty) s)) ∧ Sat w [] w' := by
  have hs0 := Sat.start w
  refine callsV_of Tryz.func65 rfl rfl ?_
  refine .seq <| .region <| .s rfl rfl <| .nil <| .seq ?_
  obtain ⟨x, hx⟩ : ∃ x, W[i]? = some x := ⟨_, List.getElem?_eq_getElem (by omega)⟩
  refine .draw (fun w' => Sat w [] w') (.free 0 (.free 1 (.free 2 (.free 3 (.free 4 (.free 5 (.free 6 (.free 7 (.free 8 (.free 9 .fin)))))))))) mixed (by kernel_rfl) ?_
  have hs_1 := hs0.drew
  refine .e rfl (fun w' hS' => .load scal37 rfl (hS'.ext _ _ h1)) hs_1 <| .e rfl (fun w' hS' => .nilCheck rfl) hs_1 <| .e rfl (fun w' hS' => .fieldAddr fld71_0 rfl rfl) hs_1 <| .e rfl (fun w' hS' => .load scal36 rfl (hS'.ext _ _ h.c0)) hs_1 <| .m rfl rfl hs_1 <| .e rfl (fun w' hS' => .idxL (E := encTx) sl36 rfl rfl (h.hW.ext hS'.ext) (by omega)) hs_1 <| .e rfl (fun w' hS' => .ldL (E := encTx) scal9 rfl (h.hW.ext hS'.ext) hx (by decide) rfl) hs_1 <| .e rfl (fun w' hS' => .load scal9 rfl (hS'.ext _ _ h2)) hs_1 <| .e rfl (fun w' hS' => .strGeq rfl rfl) hs_1 <| .e rfl (fun w' hS' => .assign rfl) hs_1 <| .fin <| .ret ?_
  show PostK _ _ _ _ _ _
  refine post1 rfl rfl ?_
  rw [getD_of hx]
  exact ⟨rfl, hs_1⟩
theorem word_ok (g : Nat) (vw vc vo : Value) (W : List ByteArray) (C O : List Nat) (n : Int) (w : World) (h : LexAt w g vw vc vo W C O) :
    CallsV Tryz.prog 17 [(.pointer (some ⟨g, 0, none⟩)), (.int .i64 (n))] w fun r w' => r = .tuple #[.string (wordAt W n).1, .bool (wordAt W n).2] ∧ Sat w [] w' := by
  have hs0 := Sat.start w
  refine callsV_of Tryz.func17 rfl rfl ?_
  refine .seq <| .region <| .s rfl rfl <| .s rfl rfl <| .nil <| .seq <| .seq <| .mid (fun L' w' => Weak [(0, (.pointer (some ⟨g, 0, none⟩))), (1, (.int .i64 (n))), (4, (.string (ByteArray.mk #[]))), (5, (.bool false)), (16, (.bool (decide (((n : Int) < (0 : Int)) ∨ (((W.length : Nat) : Int) ≤ (n : Int))))))] L' ∧ Sat w [] w') ?_ ?_
  · refine .region <| .m rfl rfl <| .e rfl (.lss rfl rfl) <| .m rfl rfl ?_
    by_cases hg_1 : (n : Int) < (0 : Int)
    · refine .no rfl rfl rfl (decide_eq_true hg_1) rfl <| .no rfl rfl rfl (decide_eq_true hg_1) rfl <| .no rfl rfl rfl (decide_eq_true hg_1) rfl <| .no rfl rfl rfl (decide_eq_true hg_1) rfl <| .no rfl rfl rfl (decide_eq_true hg_1) rfl <| .no rfl rfl rfl (decide_eq_true hg_1) rfl <| .no rfl rfl rfl (decide_eq_true hg_1) rfl <| .e rfl (.pickY rfl (decide_eq_true hg_1) rfl) <| .nil ?_
      exact ⟨⟨rfl, rfl, rfl, rfl, congrArg some (congrArg Value.bool (by simp [hg_1])), trivial⟩, hs0⟩
    · refine .yes rfl rfl rfl (decide_eq_false hg_1) <| .m rfl rfl <| .yes rfl rfl rfl (decide_eq_false hg_1) <| .m rfl rfl <| .yes rfl rfl rfl (decide_eq_false hg_1) <| .e rfl (.nilCheck rfl) <| .yes rfl rfl rfl (decide_eq_false hg_1) <| .e rfl (.fieldAddr fld71_0 rfl rfl) <| .yes rfl rfl rfl (decide_eq_false hg_1) <| .e rfl (.load scal36 rfl (hs0.ext _ _ h.c0)) <| .yes rfl rfl rfl (decide_eq_false hg_1) <| .e rfl (.lenL Tryz.underlying36 rfl (h.hW.ext hs0.ext)) <| .yes rfl rfl rfl (decide_eq_false hg_1) <| .e rfl (.geq rfl rfl) <| .e rfl (.pickN rfl (decide_eq_false hg_1) rfl) <| .nil ?_
      exact ⟨⟨rfl, rfl, rfl, rfl, congrArg some (congrArg Value.bool (by simp [hg_1])), trivial⟩, hs0⟩
  · rintro L' w_1 ⟨hw_1, hs_1⟩
    refine .weaken _ hw_1 <| .condD rfl (fun hc_1 => ?_) (fun hc_1 => ?_)
    · refine .seq <| .region <| .s rfl rfl <| .s rfl rfl <| .nil <| .ret ?_
      show PostK _ _ _ _ _ _
      refine post2 rfl rfl rfl ?_
      have hq : wordAt W n = (ByteArray.empty, false) := by unfold wordAt; rw [if_neg (by omega)]
      rw [hq]
      exact ⟨rfl, hs_1⟩
    · refine .skip <| .seq ?_
      obtain ⟨m, rfl⟩ : ∃ m : Nat, n = m := ⟨n.toNat, by omega⟩
      obtain ⟨x, hx⟩ : ∃ x, W[m]? = some x := ⟨_, List.getElem?_eq_getElem (by omega)⟩
      refine .region <| .m rfl rfl <| .e rfl (.nilCheck rfl) <| .e rfl (.fieldAddr fld71_0 rfl rfl) <| .e rfl (.load scal36 rfl (hs_1.ext _ _ h.c0)) <| .m rfl rfl <| .e rfl (.idxL (E := encTx) sl36 rfl rfl (h.hW.ext hs_1.ext) (by omega)) <| .e rfl (.ldL (E := encTx) scal9 rfl (h.hW.ext hs_1.ext) hx (by decide) rfl) <| .s rfl rfl <| .s rfl rfl <| .nil <| .ret ?_
      show PostK _ _ _ _ _ _
      refine post2 rfl rfl rfl ?_
      have hq : wordAt W (m : Int) = (x, true) := by unfold wordAt; rw [if_pos (by omega), Int.toNat_natCast, getD_of hx]
      rw [hq]
      exact ⟨rfl, hs_1⟩
theorem number_ok (g : Nat) (vw vc vo : Value) (W : List ByteArray) (C O : List Nat) (s : ByteArray) (w : World) (h : LexAt w g vw vc vo W C O) (hasc : Asc W) (hn : W.length < 4611686018427387904) :
    CallsV Tryz.prog 34 [(.pointer (some ⟨g, 0, none⟩)), (.string s)] w fun r w' => r = .tuple #[.int .i64 (((nmW W s).1 : Nat) : Int), .bool (nmW W s).2] ∧ Sat w [] w' := by
  have hs0 := Sat.start w
  refine callsV_of Tryz.func34 rfl rfl ?_
  refine .seq <| .region <| .f rfl (.box hs0 rfl fun b_1 w_1 hs_1 hch_1 hb_1 => ?_)
  refine .f rfl (.box hs_1 rfl fun b_2 w_2 hs_2 hch_2 hb_2 => ?_)
  refine .s rfl rfl <| .s rfl rfl <| .nil <| .seq <| .region <| .e rfl (.load scal37 rfl (hs_2.cell (i := 0) (j := 0) rfl rfl)) <| .e rfl (.nilCheck rfl) <| .e rfl (.fieldAddr fld71_0 rfl rfl) <| .e rfl (.load scal36 rfl (hs_2.ext _ _ h.c0)) <| .e rfl (.lenL Tryz.underlying36 rfl (h.hW.ext hs_2.ext)) <| .e rfl (.makeFunc2 rfl rfl) <| .f rfl (.call ent64 rfl ((search_ok 65 #[(.pointer (some ⟨b_1, 0, none⟩)), (.pointer (some ⟨b_2, 0, none⟩))] (W.length) (fun i => decide (¬ SLt (W.getD i ByteArray.empty) s)) _ ent65 (by omega) (fun i w3 hi hq => number1_ok _ _ g vw vc vo W C O s i w3 (hq.ext _ _ (hs_2.cell (i := 0) (j := 0) rfl rfl)) (hq.ext _ _ (hs_2.cell (i := 1) (j := 0) rfl rfl)) ((h.ext hs_2.ext).ext hq.ext) hi) (fun a b hab hb hp => geq_mono hasc s hab hb hp)).mono fun r_1 w_3 h_1 => ?_))
  obtain ⟨sk_1, rfl, hk_11, hk_12, hk_13, hp_1⟩ := h_1
  have hs_3 : Sat w [_, _] _ := hs_2.adds hp_1
  obtain rfl : sk_1 = lbW W s := search_lb hk_11 hk_12 hk_13
  refine .s rfl rfl <| .nil <| .seq <| .seq ?_
  rcases Nat.lt_or_ge (lbW W s) W.length with hlt | hge
  · obtain ⟨x, hx⟩ : ∃ x, W[lbW W s]? = some x := ⟨_, List.getElem?_eq_getElem hlt⟩
    refine .draw (fun w' => Sat w [cObj b_1 37 [(.pointer (some ⟨g, 0, none⟩))], cObj b_2 9 [(.string s)]] w') (.free 0 (.free 1 (.free 2 (.free 3 (.free 4 (.free 5 (.free 6 (.free 7 (.free 8 (.free 9 (.free 10 (.free 11 (.free 12 (.free 13 (.free 14 (.free 15 (.free 16 (.free 17 .fin)))))))))))))))))) mixed (by kernel_rfl) ?_
    have hs_4 := hs_3.drew
    refine .m rfl rfl hs_4 <| .e rfl (fun w' hS' => .load scal37 rfl (hS'.cell (i := 0) (j := 0) rfl rfl)) hs_4 <| .e rfl (fun w' hS' => .nilCheck rfl) hs_4 <| .e rfl (fun w' hS' => .fieldAddr fld71_0 rfl rfl) hs_4 <| .e rfl (fun w' hS' => .load scal36 rfl (hS'.ext _ _ h.c0)) hs_4 <| .e rfl (fun w' hS' => .lenL Tryz.underlying36 rfl (h.hW.ext hS'.ext)) hs_4 <| .e rfl (fun w' hS' => .eqlN rfl rfl) hs_4 <| .m rfl rfl hs_4 <| .evYes rfl rfl rfl rfl (decide_eq_false (by omega)) rfl (fun w' hS' => .load scal37 rfl (hS'.cell (i := 0) (j := 0) rfl rfl)) hs_4 <| .evYes rfl rfl rfl rfl (decide_eq_false (by omega)) rfl (fun w' hS' => .nilCheck rfl) hs_4 <| .evYes rfl rfl rfl rfl (decide_eq_false (by omega)) rfl (fun w' hS' => .fieldAddr fld71_0 rfl rfl) hs_4 <| .evYes rfl rfl rfl rfl (decide_eq_false (by omega)) rfl (fun w' hS' => .load scal36 rfl (hS'.ext _ _ h.c0)) hs_4 <| .evYes rfl rfl rfl rfl (decide_eq_false (by omega)) rfl (fun w' hS' => .move rfl) hs_4 <| .evYes rfl rfl rfl rfl (decide_eq_false (by omega)) rfl (fun w' hS' => .idxL (E := encTx) sl36 rfl rfl (h.hW.ext hS'.ext) (by omega)) hs_4 <| .evYes rfl rfl rfl rfl (decide_eq_false (by omega)) rfl (fun w' hS' => .ldL (E := encTx) scal9 rfl (h.hW.ext hS'.ext) hx (by decide) rfl) hs_4 <| .evYes rfl rfl rfl rfl (decide_eq_false (by omega)) rfl (fun w' hS' => .load scal9 rfl (hS'.cell (i := 1) (j := 0) rfl rfl)) hs_4 <| .evYes rfl rfl rfl rfl (decide_eq_false (by omega)) rfl (fun w' hS' => .strNeq rfl rfl) hs_4 <| .e rfl (fun w' hS' => .pickN rfl (decide_eq_false (by omega)) rfl) hs_4 <| .fin <| .condD rfl (fun hc_1 => ?_) (fun hc_1 => ?_)
    · refine .seq <| .region <| .s rfl rfl <| .s rfl rfl <| .nil <| .ret ?_
      show PostK _ _ _ _ _ _
      refine post2 rfl rfl rfl ?_
      have hs_5 : Sat w [] w_3.drew := hs_4.sub ((.cons _ (.cons _ .slnil)))
      rw [nmW_get hx, if_neg (by simpa using hc_1)]
      exact ⟨rfl, hs_5⟩
    · refine .skip <| .seq <| .region <| .m rfl rfl <| .s rfl rfl <| .s rfl rfl <| .nil <| .ret ?_
      show PostK _ _ _ _ _ _
      refine post2 rfl rfl rfl ?_
      have hs_6 : Sat w [] w_3.drew := hs_4.sub ((.cons _ (.cons _ .slnil)))
      rw [nmW_get hx, if_pos (by simpa using hc_1)]
      exact ⟨rfl, hs_6⟩
  · refine .draw (fun w' => Sat w [cObj b_1 37 [(.pointer (some ⟨g, 0, none⟩))], cObj b_2 9 [(.string s)]] w') (.free 0 (.free 1 (.free 2 (.free 3 (.free 4 (.free 5 (.free 6 (.free 7 (.free 8 (.free 9 (.free 10 (.free 11 (.free 12 (.free 13 (.free 14 (.free 15 (.free 16 (.free 17 .fin)))))))))))))))))) mixed (by kernel_rfl) ?_
    have hs_7 := hs_3.drew
    refine .m rfl rfl hs_7 <| .e rfl (fun w' hS' => .load scal37 rfl (hS'.cell (i := 0) (j := 0) rfl rfl)) hs_7 <| .e rfl (fun w' hS' => .nilCheck rfl) hs_7 <| .e rfl (fun w' hS' => .fieldAddr fld71_0 rfl rfl) hs_7 <| .e rfl (fun w' hS' => .load scal36 rfl (hS'.ext _ _ h.c0)) hs_7 <| .e rfl (fun w' hS' => .lenL Tryz.underlying36 rfl (h.hW.ext hS'.ext)) hs_7 <| .e rfl (fun w' hS' => .eqlN rfl rfl) hs_7 <| .m rfl rfl hs_7 <| .no rfl rfl rfl rfl (decide_eq_true (by have := lbR_le (R := SLt) W s; omega)) rfl hs_7 <| .no rfl rfl rfl rfl (decide_eq_true (by have := lbR_le (R := SLt) W s; omega)) rfl hs_7 <| .no rfl rfl rfl rfl (decide_eq_true (by have := lbR_le (R := SLt) W s; omega)) rfl hs_7 <| .no rfl rfl rfl rfl (decide_eq_true (by have := lbR_le (R := SLt) W s; omega)) rfl hs_7 <| .no rfl rfl rfl rfl (decide_eq_true (by have := lbR_le (R := SLt) W s; omega)) rfl hs_7 <| .no rfl rfl rfl rfl (decide_eq_true (by have := lbR_le (R := SLt) W s; omega)) rfl hs_7 <| .no rfl rfl rfl rfl (decide_eq_true (by have := lbR_le (R := SLt) W s; omega)) rfl hs_7 <| .no rfl rfl rfl rfl (decide_eq_true (by have := lbR_le (R := SLt) W s; omega)) rfl hs_7 <| .no rfl rfl rfl rfl (decide_eq_true (by have := lbR_le (R := SLt) W s; omega)) rfl hs_7 <| .e rfl (fun w' hS' => .pickY rfl (decide_eq_true (by have := lbR_le (R := SLt) W s; omega)) rfl) hs_7 <| .fin <| .condT rfl (rfl) <| .seq <| .region <| .s rfl rfl <| .s rfl rfl <| .nil <| .ret ?_
    show PostK _ _ _ _ _ _
    refine post2 rfl rfl rfl ?_
    have hs_8 : Sat w [] w_3.drew := hs_7.sub ((.cons _ (.cons _ .slnil)))
    rw [nmW_none hge]
    exact ⟨rfl, hs_8⟩
end Go.Proofs.YtecfgjdpghddgaaGreat
namespace Go.Proofs.YtecfgjdpghddgaaGreat
open Go.RowKit Go.Kw
set_option maxRecDepth 100000
theorem fcmp_ok (bR : Nat) (vr : Value) (rs : List ByteArray) (x y : Nat) (w : World) (hc : w.cell? ⟨bR, 0, none⟩ = some vr) (hv : RdL w vr encTx rs) (hx : x < rs.length) (hy : y < rs.length) :
    CallsV Tryz.prog 62 [(.int .i64 x), (.int .i64 y), (.pointer (some ⟨bR, 0, none⟩))] w fun r w' => r = .int .i64 (Lib.compareBytes (rs.getD x ByteArray.empty).data.toList (rs.getD y ByteArray.empty).data.toList) ∧ Sat w [] w' ∧ w.drawn ≤ w'.drawn := by
  have hs0 := Sat.start w
  refine callsV_of Tryz.func62 rfl rfl ?_
  refine .seq <| .region <| .s rfl rfl <| .nil <| .seq ?_
  obtain ⟨a, ha⟩ : ∃ a, rs[x]? = some a := ⟨_, List.getElem?_eq_getElem hx⟩
  obtain ⟨b, hb⟩ : ∃ b, rs[y]? = some b := ⟨_, List.getElem?_eq_getElem hy⟩
  refine .draw (fun w' => Sat w [] w') (.free 0 (.free 1 (.free 2 (.free 3 (.free 4 (.free 5 (.free 6 (.free 7 (.one 8 (.free 9 .fin)))))))))) mixed (by kernel_rfl) ?_
  have hs_1 := hs0.drew
  refine .e rfl (fun w' hS' => .load scal36 rfl (hS'.ext _ _ hc)) hs_1 <| .m rfl rfl hs_1 <| .e rfl (fun w' hS' => .idxL (E := encTx) sl36 rfl rfl (hv.ext hS'.ext) (by omega)) hs_1 <| .e rfl (fun w' hS' => .ldL (E := encTx) scal9 rfl (hv.ext hS'.ext) ha (by decide) rfl) hs_1 <| .e rfl (fun w' hS' => .load scal36 rfl (hS'.ext _ _ hc)) hs_1 <| .m rfl rfl hs_1 <| .e rfl (fun w' hS' => .idxL (E := encTx) sl36 rfl rfl (hv.ext hS'.ext) (by omega)) hs_1 <| .e rfl (fun w' hS' => .ldL (E := encTx) scal9 rfl (hv.ext hS'.ext) hb (by decide) rfl) hs_1 <| .f rfl (.call ent63 rfl ((compare_ok a b _).mono fun r_1 w_1 h_1 => ?_))
  obtain ⟨rfl, rfl⟩ := h_1
  have hS_1 : Sat w [] _ := hs_1.sub (.slnil)
  refine ⟨hS_1, ?_⟩
  refine .e rfl (fun w' hS' => .assign rfl) hS_1 <| .fin <| .ret ?_
  show PostK _ _ _ _ _ _
  refine post1 rfl rfl ?_
  rw [getD_of ha, getD_of hb]
  exact ⟨rfl, hs_1, Nat.le_succ _⟩
theorem finish_ok (w0 w : World) (cs : List Chunk) (g : Nat) (vw vc : Value) (W : List ByteArray) (hs : Sat w0 ([cObj g 71 [vw, vc, .slice none 0 0], cL vw 9 encTx W] ++ cs) w) (hok : okW W) (hsz : ∀ x ∈ W, x.size ≤ 1000000) (hn : W.length ≤ 1000000) (hvc : vc.oneCell' = true) :
    CallsV Tryz.prog 33 [(.pointer (some ⟨g, 0, none⟩))] w fun r w' => r = .tuple #[] ∧ ∃ vo, Sat w0 ([cObj g 71 [vw, vc, vo], cL vw 9 encTx W, cL vo 3 (encN .i64) (ordN W)] ++ cs) w' := by
  refine callsV_of Tryz.func33 rfl rfl ?_
  refine .seq <| .region <| .m rfl rfl <| .e rfl (.nilCheck rfl) <| .e rfl (.fieldAddr fld71_0 rfl rfl) <| .e rfl (.load scal36 rfl (hs.cell (i := 0) (j := 0) rfl rfl)) <| .e rfl (.lenL Tryz.underlying36 rfl (hs.rdL 1 rfl)) <| .f rfl (.makeL (encTx) (ByteArray.empty) sl36 rfl hs rfl rfl (by omega) (by omega) (by omega) fun v_1 w_1 hs_1 hch_1 => ?_)
  have hs_1d : Sat w0 ([cObj g 71 [vw, vc, (.slice none 0 0)], cL vw 9 (encTx) (W), cL v_1 9 (encTx) (List.replicate (W.length) ByteArray.empty)] ++ cs) _ := (hs_1).mid
  refine .f rfl (.alloc hs_1d zero36 fun b_1 w_2 hs_2 hch_2 hb_1 => ?_)
  have hs_2d : Sat w0 ([cObj g 71 [vw, vc, (.slice none 0 0)], cL vw 9 (encTx) (W), cL v_1 9 (encTx) (List.replicate (W.length) ByteArray.empty), cObj b_1 36 [(.slice none 0 0)]] ++ cs) _ := (hs_2).mid
  refine .f rfl (.storeObj one36 hs_2d (i := 3) rfl rfl rfl ((hs_2d.rdL 2 rfl).oneCell) rfl fun w_3 hs_3 hch_3 => ?_)
  have hs_3d : Sat w0 ([cObj g 71 [vw, vc, (.slice none 0 0)], cL vw 9 (encTx) (W), cL v_1 9 (encTx) (List.replicate (W.length) ByteArray.empty), cObj b_1 36 [v_1]] ++ cs) _ := hs_3
  refine .nil <| .seq <| .seq <| .region <| .m rfl rfl <| .e rfl (.nilCheck rfl) <| .e rfl (.fieldAddr fld71_0 rfl rfl) <| .e rfl (.load scal36 rfl (hs_3d.cell (i := 0) (j := 0) rfl rfl)) <| .e rfl (.lenL Tryz.underlying36 rfl (hs_3d.rdL 1 rfl)) <| .m rfl rfl <| .nil <| .block ?_
  have hs_4 : Sat w0 ([_, _, _, _, cL (Value.slice none 0 0) 3 (encN .i64) ([])] ++ cs) _ := (hs_3d.newNilL 3 (encN .i64)).mid
  have hs_5 : Sat w0 ([cObj g 71 [vw, vc, (.slice none 0 0)], cL vw 9 (encTx) (W), cL v_1 9 (encTx) ((List.range 0).map (rvN W) ++ List.replicate (W.length - 0) ByteArray.empty), cObj b_1 36 [v_1], cL (Value.slice none 0 0) 3 (encN .i64) ([])] ++ cs) w_3 := by
    have hq : List.replicate (W.length) ByteArray.empty = (List.range 0).map (rvN W) ++ List.replicate (W.length - 0) ByteArray.empty := by simp
    rw [← hq]; exact hs_4
  have hs_6 : Sat w0 ([cObj g 71 [vw, vc, (.slice none 0 0)], cL vw 9 (encTx) (W), cL v_1 9 (encTx) ((List.range 0).map (rvN W) ++ List.replicate (W.length - 0) ByteArray.empty), cObj b_1 36 [v_1], cL (Value.slice none 0 0) 3 (encN .i64) (List.range 0)] ++ cs) w_3 := by
    have hq : [] = List.range 0 := rfl
    rw [← hq]; exact hs_5
  refine .loop (α := Nat × Value) (fun (k, vo) => [(0, (.pointer (some ⟨g, 0, none⟩))), (2, (.pointer (some ⟨b_1, 0, none⟩))), (14, vw), (15, (.int .i64 W.length)), (16, (.int .i64 k))]) (fun (k, vo) w' => Sat w0 ([cObj g 71 [vw, vc, vo], cL vw 9 (encTx) (W), cL v_1 9 (encTx) ((List.range k).map (rvN W) ++ List.replicate (W.length - k) ByteArray.empty), cObj b_1 36 [v_1], cL vo 3 (encN .i64) (List.range k)] ++ cs) w' ∧ (k ≤ W.length)) (fun (k, vo) => W.length - k) (0, (.slice none 0 0)) ⟨rfl, rfl, rfl, rfl, rfl, trivial⟩ ⟨hs_6, Nat.zero_le _⟩ ?_
  rintro ⟨k, vo⟩ w_4 ⟨hs_7, hk⟩
  show CW _ _ _ _ [(0, (.pointer (some ⟨g, 0, none⟩))), (2, (.pointer (some ⟨b_1, 0, none⟩))), (14, vw), (15, (.int .i64 W.length)), (16, (.int .i64 k))] _
  refine .seq <| .region <| .e rfl (.lssN rfl rfl) <| .nil <| .seq <| .condD rfl (fun hc_1 => ?_) (fun hc_1 => ?_)
  · refine .skip <| .seq <| .block <| .seq ?_
    obtain ⟨x, hx⟩ : ∃ x, (W)[k]? = some x := ⟨_, List.getElem?_eq_getElem hc_1⟩
    refine .region <| .m rfl rfl <| .e rfl (.idxL (E := encTx) sl36 rfl rfl (hs_7.rdL 1 rfl) (by omega)) <| .e rfl (.ldL (E := encTx) scal9 rfl (hs_7.rdL 1 rfl) hx (by decide) rfl) <| .s rfl rfl <| .s rfl rfl <| .nil <| .seq ?_
    have hxs := hsz x (mem_get hx)
    have hshp_1 := (hs_7.rdL (E := encTx) 2 rfl).shp (by decide)
    refine .draw (fun w' => Sat w0 ([cObj g 71 [vw, vc, vo], cL vw 9 (encTx) (W), cObj b_1 36 [v_1], cL vo 3 (encN .i64) (List.range k)] ++ cs) w') (.free 0 (.free 1 (.free 2 (.one 3 (.free 4 (.one 5 .fin)))))) mixed (by kernel_rfl) ?_
    have hs_8 := hs_7.drew
    have hS_1 : Sat w0 ([cObj g 71 [vw, vc, vo], _, _, cL vo 3 (encN .i64) (List.range k)] ++ cs) _ := hs_8.sub ((.cons_cons _ (.cons_cons _ (.cons _ (.cons_cons _ (.cons_cons _ (.refl _)))))))
    refine .e rfl (fun w' hS' => .load scal36 rfl (hS'.cell (i := 2) (j := 0) rfl rfl)) hS_1 <| .m rfl rfl hS_1 <| .m rfl rfl hS_1 <| .f rfl (.call ent60 rfl ((reverse_ok x _ (by omega)).mono fun r_1 w_5 h_1 => ?_))
    obtain ⟨rfl, hp_1⟩ := h_1
    have hs_9 : Sat w0 ([_, _, cL v_1 9 (encTx) ((List.range k).map (rvN W) ++ List.replicate (W.length - k) ByteArray.empty), _, _] ++ cs) _ := (hs_8.adds hp_1).mid
    have hS_2 : Sat w0 ([_, _, _, _] ++ cs) _ := hs_9.sub ((.cons_cons _ (.cons_cons _ (.cons _ (.cons_cons _ (.cons_cons _ (.refl _)))))))
    refine ⟨hS_2, ?_⟩
    refine .e rfl (fun w' hS' => .idxS sl36 rfl rfl hshp_1 (by simp; omega)) hS_2 <| .f rfl (.setL (a := (revN x)) 2 one9 hs_9 rfl rfl rfl rfl (by simp; omega) fun w_6 hs_10 hch_4 => ?_)
    have hS_3 : Sat w0 ([_, _, _, _] ++ cs) _ := hs_10.sub ((.cons_cons _ (.cons_cons _ (.cons _ (.cons_cons _ (.cons_cons _ (.refl _)))))))
    refine ⟨hS_3, ?_⟩
    refine .fin ?_
    have hs_11 : Sat w0 ([cObj g 71 [vw, vc, vo], cL vw 9 (encTx) (W), cL v_1 9 (encTx) ((List.range (k + 1)).map (rvN W) ++ List.replicate (W.length - (k + 1)) ByteArray.empty), cObj b_1 36 [v_1], cL vo 3 (encN .i64) (List.range k)] ++ cs) w_6 := by
      have hq : ((List.range k).map (rvN W) ++ List.replicate (W.length - k) ByteArray.empty).set k (revN x) = (List.range (k + 1)).map (rvN W) ++ List.replicate (W.length - (k + 1)) ByteArray.empty := rvs_step hx
      rw [← hq]; exact hs_10
    refine .region <| .m rfl rfl <| .m rfl rfl <| .e rfl (.nilCheck rfl) <| .e rfl (.fieldAddr fld71_2 rfl rfl) <| .e rfl (.load scal27 rfl (hs_11.cell (i := 0) (j := 2) rfl rfl)) <| .m rfl rfl <| .f rfl (.lit1 (encN .i64) k sl27 rfl hs_11 rfl fun v_2 w_7 hs_12 hch_5 => ?_)
    have hs_12d : Sat w0 ([cObj g 71 [vw, vc, vo], cL vw 9 (encTx) (W), cL v_1 9 (encTx) ((List.range (k + 1)).map (rvN W) ++ List.replicate (W.length - (k + 1)) ByteArray.empty), cObj b_1 36 [v_1], cL vo 3 (encN .i64) (List.range k), cL v_2 3 (encN .i64) ([k])] ++ cs) _ := (hs_12).mid
    refine .f rfl (.appendL 4 sl27 hs_12d rfl rfl rfl Tryz.underlying27 (hs_12d.rdL 5 rfl) (by simp; omega) (by simp; omega) fun v_3 w_8 hs_13 hch_6 => ?_)
    have hs_13d : Sat w0 ([_, _, _, _, cL v_3 3 (encN .i64) (List.range k ++ [k])] ++ cs) _ := hs_13.drop 5
    refine .e rfl (.nilCheck rfl) <| .e rfl (.fieldAddr fld71_2 rfl rfl) <| .f rfl (.storeObj one27 hs_13d (i := 0) rfl rfl rfl ((hs_13d.rdL 4 rfl).oneCell) rfl fun w_9 hs_14 hch_7 => ?_)
    refine .nil <| .region <| .e rfl (.addI (b := 1) rfl rfl (by omega)) <| .m rfl rfl <| .nil ?_
    have hs_15 : Sat w0 ([_, _, _, _, cL v_3 3 (encN .i64) (List.range (k + 1))] ++ cs) w_9 := hs_14.reL 4 rfl (show List.range k ++ [k] = List.range (k + 1) from List.range_succ.symm)
    exact ⟨(k + 1, v_3), ⟨rfl, rfl, rfl, rfl, rfl, trivial⟩, ⟨hs_15, by omega⟩, (show (W.length - (k + 1)) < (W.length - k) from by omega)⟩
  · refine .exit0 ?_
    have hkW : k = W.length := by omega
    have hs_16 : Sat w0 ([cObj g 71 [vw, vc, vo], _, cL v_1 9 (encTx) ((List.range W.length).map (rvN W)), _, cL vo 3 (encN .i64) (List.range k)] ++ cs) w_4 := hs_7.reL 2 rfl (show (List.range k).map (rvN W) ++ List.replicate (W.length - k) ByteArray.empty = (List.range W.length).map (rvN W) from by rw [hkW]; simp)
    have hs_17 : Sat w0 ([_, _, _, _, cL vo 3 (encN .i64) (List.range W.length)] ++ cs) w_4 := hs_16.reL 4 rfl (show List.range k = List.range W.length from by rw [hkW])
    refine .region <| .m rfl rfl <| .e rfl (.nilCheck rfl) <| .e rfl (.fieldAddr fld71_2 rfl rfl) <| .e rfl (.load scal27 rfl (hs_17.cell (i := 0) (j := 2) rfl rfl)) <| .e rfl (.makeFunc1 rfl) ?_
    have hcall := sortF_ok w0 _ _ 4 W.length _ (List.range W.length) 62 #[.pointer (some ⟨b_1, 0, none⟩)] (RLt W) hs_17 rfl (by simp; omega) (fun x hx => List.mem_range.1 hx) ent62 (fun x y => Lib.compareBytes (rvN W x).data.toList (rvN W y).data.toList) (fun x y => compare_lt _ _) (fun a => SLt.irr _) (fun h1 h2 => SLt.tr h1 h2) (fun h1 h2 => SLt.ntr h1 h2)
      (fun x y l2 W2 hx hy hl hS => by
      have hlen : ((List.range W.length).map (rvN W)).length = W.length := by simp
      have hc := fcmp_ok b_1 v_1 ((List.range W.length).map (rvN W)) x y W2 (hS.cell (i := 3) (j := 0) rfl rfl) (hS.rdL 2 rfl) (by omega) (by omega)
      rw [rvs_get hx, rvs_get hy] at hc
      exact hc)
    refine .f rfl (.call ent61 rfl ((hcall).mono fun r_2 w_10 h_2 => ?_))
    obtain ⟨rfl, sl_1, hpm, hpw, h_2S⟩ := h_2
    have hlo : sl_1 = ordN W := ordN_unique hok hpm hpw
    subst hlo
    have h_2d : Sat w0 ([cObj g 71 [vw, vc, vo], cL vw 9 (encTx) (W), cL v_1 9 (encTx) ((List.range W.length).map (rvN W)), cObj b_1 36 [v_1], cL vo 3 (encN .i64) (ordN W)] ++ cs) _ := h_2S
    refine .nil ?_
    show PostK _ _ _ _ _ _
    refine post0 rfl ?_
    have hs_18 : Sat w0 ([cObj g 71 [vw, vc, vo], cL vw 9 (encTx) (W), cL vo 3 (encN .i64) (ordN W)] ++ cs) w_10 := h_2d.sub ((.cons_cons _ (.cons_cons _ (.cons _ (.cons _ (.cons_cons _ (.refl _)))))))
    exact ⟨rfl, _, hs_18⟩
theorem lbuild_ok (v : Value) (vs : List ByteArray) (w : World) (hv : RdL w v encTx vs) :
    CallsV Tryz.prog 12 [v] w fun r w' => (bldE vs ≠ 0 ∧ r = .tuple #[.pointer none, .slice none 0 0, .int .i64 ((bldE vs : Nat) : Int)] ∧ Sat w [] w') ∨ (bldE vs = 0 ∧ ∃ g vw vc vo vn, r = .tuple #[.pointer (some ⟨g, 0, none⟩), vn, .int .i64 0] ∧ Sat w [cObj g 71 [vw, vc, vo], cL vw 9 encTx (wordsN vs), cL vc 3 (encN .i64) (countsN vs), cL vo 3 (encN .i64) (ordN (wordsN vs)), cL vn 3 (encN .i64) (vs.map (lbW (wordsN vs)))] w') := by
  have hs0 := Sat.start w
  refine callsV_of Tryz.func12 rfl rfl ?_
  refine .seq <| .region <| .s rfl rfl <| .s rfl rfl <| .s rfl rfl <| .nil <| .seq <| .seq <| .region <| .m rfl rfl <| .e rfl (.lenL Tryz.underlying36 rfl (hv.ext hs0.ext)) <| .e rfl (.gtrN (b := 4096) rfl rfl) <| .nil <| .condD rfl (fun hc_1 => ?_) (fun hc_1 => ?_)
  · refine .seq <| .region <| .s rfl rfl <| .s rfl rfl <| .s rfl rfl <| .nil <| .ret ?_
    show PostK _ _ _ _ _ _
    refine post3 rfl rfl rfl rfl ?_
    have hs_1 : Sat w [] w := hs0.sub (.slnil)
    have hq : bldE vs = 2 := by
      unfold bldE
      rw [if_pos hc_1]
    rw [hq]
    exact .inl ⟨by decide, rfl, hs_1⟩
  · refine .skip <| .seq <| .region <| .f rfl (.makeMap hs0 fun mb_1 w_1 hs_2 => ?_)
    refine .s rfl rfl <| .nil <| .seq <| .seq <| .region <| .m rfl rfl <| .e rfl (.lenL Tryz.underlying36 rfl (hv.ext hs_2.ext)) <| .m rfl rfl <| .nil <| .block <| .loop (α := Nat × MapL) (fun (k, m) => [(0, v), (5, (Value.map (some mb_1))), (19, v), (20, (.int .i64 vs.length)), (21, (.int .i64 k))]) (fun (k, m) w' => Sat w [cMap mb_1 (m)] w' ∧ (k ≤ vs.length) ∧ (∀ t, t ∈ mkeys m ↔ t ∈ vs.take k) ∧ (∀ t, mget m t = cnt (vs.take k) t) ∧ (m.length ≤ k) ∧ (chkN vs = chkN (vs.drop k))) (fun (k, m) => vs.length - k) (0, []) ⟨rfl, rfl, rfl, rfl, rfl, trivial⟩ ⟨hs_2, Nat.zero_le _, fun t => by simp [mkeys], fun t => by simp [mget, cnt], Nat.le_refl _, rfl⟩ ?_
    rintro ⟨k, m⟩ w_2 ⟨hs_3, hk, hkeys, hget, hml, hchk⟩
    show CW _ _ _ _ [(0, v), (5, (Value.map (some mb_1))), (19, v), (20, (.int .i64 vs.length)), (21, (.int .i64 k))] _
    refine .seq <| .region <| .e rfl (.lssN rfl rfl) <| .nil <| .seq <| .condD rfl (fun hc_2 => ?_) (fun hc_2 => ?_)
    · refine .skip <| .seq <| .block <| .seq ?_
      obtain ⟨x, hx⟩ : ∃ x, (vs)[k]? = some x := ⟨_, List.getElem?_eq_getElem hc_2⟩
      refine .region <| .e rfl (.idxL (E := encTx) sl36 rfl rfl (hv.ext hs_3.ext) (by omega)) <| .e rfl (.ldL (E := encTx) scal9 rfl (hv.ext hs_3.ext) hx (by decide) rfl) <| .s rfl rfl <| .nil <| .seq <| .block <| .seq <| .region <| .m rfl rfl <| .e rfl (.lenStr Tryz.underlying9 rfl) <| .e rfl (.gtrN (b := 120) rfl rfl) <| .s rfl rfl <| .nil <| .condD rfl (fun hc_3 => ?_) (fun hc_3 => ?_)
      · refine .seq <| .region <| .s rfl rfl <| .s rfl rfl <| .s rfl rfl <| .nil <| .ret ?_
        show PostK _ _ _ _ _ _
        refine post3 rfl rfl rfl rfl ?_
        have hs_4 : Sat w [] w_2 := hs_3.sub ((.cons _ .slnil))
        have hq : bldE vs = 2 := by
          unfold bldE
          have h9 : chkN vs = 2 := by rw [hchk, drop_at hx, chkN, if_pos hc_3]
          rw [if_neg hc_1, h9]; rfl
        rw [hq]
        exact .inl ⟨by decide, rfl, hs_4⟩
      · refine .seq <| .region <| .m rfl rfl <| .f rfl (.call ent31 rfl ((lx_valid_ok x _ (by omega)).mono fun r_1 w_3 h_1 => ?_))
        obtain ⟨rfl, hp_1⟩ := h_1
        have hs_5 := hs_3.adds hp_1
        refine .e rfl (.notB rfl) <| .s rfl rfl <| .nil <| .cond rfl (fun hc_4 => ?_) (fun hc_4 => ?_)
        · refine .seq <| .region <| .s rfl rfl <| .s rfl rfl <| .s rfl rfl <| .nil <| .ret ?_
          show PostK _ _ _ _ _ _
          refine post3 rfl rfl rfl rfl ?_
          have hs_6 : Sat w [] w_3 := hs_5.sub ((.cons _ .slnil))
          have hq : bldE vs = 7 := by
            unfold bldE
            have h9 : chkN vs = 7 := by rw [hchk, drop_at hx, chkN, if_neg (by omega), if_pos (by simpa using hc_4)]
            rw [if_neg hc_1, h9]; rfl
          rw [hq]
          exact .inl ⟨by decide, rfl, hs_6⟩
        · refine .skip <| .region <| .m rfl rfl <| .m rfl rfl <| .e rfl (.lookup (i := 0) Tryz.underlying68 Tryz.underlying9 Tryz.zeroValue3 hs_5 rfl rfl rfl) <| .e rfl (.addI (b := 1) rfl rfl (by have h1 := hget x; have h2 := cnt_le (vs.take k) x; have h3 := List.length_take_le k vs; omega)) <| .f rfl (.mapUpdate (i := 0) (c := ((mget (m) x) + 1)) Tryz.underlying68 Tryz.underlying9 hs_5 rfl rfl rfl rfl fun w_4 hs_7 => ?_)
          refine .nil <| .region <| .e rfl (.addI (b := 1) rfl rfl (by omega)) <| .m rfl rfl <| .nil ?_
          exact ⟨(k + 1, mput (m) x ((mget (m) x) + 1)), ⟨rfl, rfl, rfl, rfl, rfl, trivial⟩, ⟨hs_7, by omega, fun t => by rw [mput_keys, hkeys, take_snoc hx, List.mem_append, List.mem_singleton]; exact Or.comm, fun t => by rw [mput_get, take_snoc hx, cnt_snoc, hget, hget]; by_cases e : t = x <;> simp [e, eq_comm]; (first | done | (intro h; exact absurd h.symm e) | skip), Nat.le_trans (mput_length _ _ _) (by omega), by rw [hchk, drop_at hx, chkN, if_neg (by omega), if_neg (by simpa using hc_4)]⟩, (show (vs.length - (k + 1)) < (vs.length - k) from by omega)⟩
    · refine .exit0 <| .seq <| .seq ?_
      have hkl : k = vs.length := by omega
      rw [hkl, List.take_length] at hkeys hget
      rw [hkl, List.drop_length] at hchk
      have hmn := hs_3.mapNodup 0 rfl
      have hmlen : m.length = (wordsN vs).length := by rw [← mkeys_length]; exact words_len hmn hkeys
      have hokw := chk_okW hchk
      have hws : ∀ x ∈ wordsN vs, x.size ≤ 120 := fun x hx => (chk_all hchk x (wordsN_mem.1 hx)).1
      have hwl := wordsN_length vs
      refine .region <| .m rfl rfl <| .e rfl (.lenMap (i := 0) Tryz.underlying68 hs_3 rfl rfl) <| .e rfl (.gtrN (b := 1024) rfl rfl) <| .nil <| .condD rfl (fun hc_5 => ?_) (fun hc_5 => ?_)
      · refine .seq <| .region <| .s rfl rfl <| .s rfl rfl <| .s rfl rfl <| .nil <| .ret ?_
        show PostK _ _ _ _ _ _
        refine post3 rfl rfl rfl rfl ?_
        have hs_8 : Sat w [] w_2 := hs_3.sub ((.cons _ .slnil))
        have hq : bldE vs = 2 := by
          unfold bldE
          have h9 : chkN vs = 0 := hchk
          rw [if_neg hc_1, if_neg (by rw [h9]; decide), if_pos (by omega)]
        rw [hq]
        exact .inl ⟨by decide, rfl, hs_8⟩
      · refine .skip <| .seq <| .region <| .e rfl (.build bt71 rfl trivial rfl) <| .f rfl (.box hs_3 rfl fun b_1 w_5 hs_9 hch_1 hb_1 => ?_)
        refine .s rfl rfl <| .nil <| .seq <| .seq <| .region <| .m rfl rfl <| .f rfl (.rangeMap (i := 0) Tryz.underlying68 hs_9 rfl rfl fun it_1 w_6 hs_10 => ?_)
        refine .nil <| .block ?_
        have hs_11 : Sat w [_, _, cL (Value.slice none 0 0) 9 (encTx) ([])] _ := hs_10.newNilL 9 (encTx)
        have hs_12 : Sat w [_, _, cL (Value.slice none 0 0) 9 (encTx) (mkeys [])] w_6 := hs_11.reL 2 rfl (show [] = mkeys [] from rfl)
        refine .loop (α := MapL × Value) (fun (done, vw) => [(0, v), (5, (Value.map (some mb_1))), (8, (.pointer (some ⟨b_1, 0, none⟩))), (44, (.pointer (some ⟨it_1, 0, none⟩)))]) (fun (done, vw) w' => Sat w [cRng mb_1 it_1 (m) (done), cObj b_1 71 [vw, (.slice none 0 0), (.slice none 0 0)], cL vw 9 (encTx) (mkeys done)] w') (fun (done, vw) => m.length - done.length) ([], (.slice none 0 0)) ⟨rfl, rfl, rfl, rfl, trivial⟩ hs_12 ?_
        rintro ⟨done, vw⟩ w_7 hs_13
        show CW _ _ _ _ [(0, v), (5, (Value.map (some mb_1))), (8, (.pointer (some ⟨b_1, 0, none⟩))), (44, (.pointer (some ⟨it_1, 0, none⟩)))] _
        refine .seq <| .region <| .f rfl (.nextMap (i := 0) hs_13 rfl rfl ?_ ?_)
        · intro hnx_1
          refine .e rfl (.extract rfl rfl) <| .nil <| .seq <| .condF rfl (rfl) <| .exit0 <| .seq ?_
          have hdp : (mkeys done).Perm (mkeys m) := mkeys_perm hnx_1
          have hdl : (mkeys done).length = (wordsN vs).length := by rw [hdp.length_eq, mkeys_length, hmlen]
          have hsw : sortB (mkeys done) = wordsN vs := sortB_words (hdp.nodup_iff.2 hmn) (fun x => by rw [hdp.mem_iff]; exact hkeys x)
          have hs_15 : Sat w [cMap mb_1 (m), cObj b_1 71 [vw, (.slice none 0 0), (.slice none 0 0)], cL vw 9 (encTx) (mkeys done)] w_7 := hs_13.rngDone 0 rfl
          refine .region <| .m rfl rfl <| .e rfl (.nilCheck rfl) <| .e rfl (.fieldAddr fld71_0 rfl rfl) <| .e rfl (.load scal36 rfl (hs_15.cell (i := 1) (j := 0) rfl rfl)) <| .f rfl (.call ent32 rfl ((sortS_ok w _ _ 2 _ _ hs_15 rfl (by omega)).mono fun r_2 w_9 h_2 => ?_))
          obtain ⟨rfl, h_2S⟩ := h_2
          have h_2d : Sat w [cMap mb_1 (m), cObj b_1 71 [vw, (.slice none 0 0), (.slice none 0 0)], cL vw 9 (encTx) (sortB (mkeys done))] _ := h_2S
          refine .nil <| .seq <| .seq ?_
          have hs_16 : Sat w [cMap mb_1 (m), cObj b_1 71 [vw, (.slice none 0 0), (.slice none 0 0)], cL vw 9 (encTx) (wordsN vs)] w_9 := h_2d.reL 2 rfl (show sortB (mkeys done) = wordsN vs from hsw)
          refine .region <| .m rfl rfl <| .e rfl (.nilCheck rfl) <| .e rfl (.fieldAddr fld71_0 rfl rfl) <| .e rfl (.load scal36 rfl (hs_16.cell (i := 1) (j := 0) rfl rfl)) <| .e rfl (.lenL Tryz.underlying36 rfl (hs_16.rdL 2 rfl)) <| .m rfl rfl <| .nil <| .block ?_
          have hs_17 := hs_16.newNilL 3 (encN .i64)
          have hs_18 : Sat w [_, _, _, cL (Value.slice none 0 0) 3 (encN .i64) (((wordsN vs).take 0).map (cnt vs))] w_9 := hs_17.reL 3 rfl (show [] = ((wordsN vs).take 0).map (cnt vs) from rfl)
          refine .loop (α := Nat × Value) (fun (k, vc) => [(0, v), (5, (Value.map (some mb_1))), (8, (.pointer (some ⟨b_1, 0, none⟩))), (67, vw), (68, (.int .i64 ((wordsN vs).length : Nat))), (69, (.int .i64 k))]) (fun (k, vc) w' => Sat w [cMap mb_1 (m), cObj b_1 71 [vw, vc, (.slice none 0 0)], cL vw 9 (encTx) (wordsN vs), cL vc 3 (encN .i64) (((wordsN vs).take k).map (cnt vs))] w' ∧ (k ≤ (wordsN vs).length)) (fun (k, vc) => (wordsN vs).length - k) (0, (.slice none 0 0)) ⟨rfl, rfl, rfl, rfl, rfl, rfl, trivial⟩ ⟨hs_18, Nat.zero_le _⟩ ?_
          rintro ⟨k, vc⟩ w_10 ⟨hs_19, hk⟩
          show CW _ _ _ _ [(0, v), (5, (Value.map (some mb_1))), (8, (.pointer (some ⟨b_1, 0, none⟩))), (67, vw), (68, (.int .i64 ((wordsN vs).length : Nat))), (69, (.int .i64 k))] _
          refine .seq <| .region <| .e rfl (.lssN rfl rfl) <| .nil <| .seq <| .condD rfl (fun hc_6 => ?_) (fun hc_6 => ?_)
          · refine .skip <| .seq <| .block <| .seq ?_
            obtain ⟨x, hx⟩ : ∃ x, (wordsN vs)[k]? = some x := ⟨_, List.getElem?_eq_getElem hc_6⟩
            refine .region <| .e rfl (.idxL (E := encTx) sl36 rfl rfl (hs_19.rdL 2 rfl) (by omega)) <| .e rfl (.ldL (E := encTx) scal9 rfl (hs_19.rdL 2 rfl) hx (by decide) rfl) <| .s rfl rfl <| .nil ?_
            have hshp_1 := (hs_19.rdL (E := encN .i64) 3 rfl).shp (by decide)
            refine .draw2 (fun w' => Sat w [cMap mb_1 (m), cObj b_1 71 [vw, vc, (.slice none 0 0)], cL vw 9 (encTx) (wordsN vs)] w') (fun w' => Sat w [cMap mb_1 (m), cL vw 9 (encTx) (wordsN vs)] w') 12 (.free 0 (.free 1 (.free 2 (.free 3 (.free 4 (.free 5 (.free 6 (.free 7 (.one 8 (.one 9 (.loose 10 (.free 11 (.bar 12 .fin))))))))))))) (fun w' h => h.sub ((.cons_cons _ (.cons _ (.cons_cons _ .slnil))))) mixed (by kernel_rfl) ?_
            have hs_20 := hs_19.drew
            have hS_1 : Sat w [_, cObj b_1 71 [vw, vc, (.slice none 0 0)], _] _ := hs_20.sub ((.cons_cons _ (.cons_cons _ (.cons_cons _ (.cons _ .slnil)))))
            refine .m rfl rfl hS_1 <| .m rfl rfl hS_1 <| .e rfl (fun w' hS' => .nilCheck rfl) hS_1 <| .e rfl (fun w' hS' => .fieldAddr fld71_1 rfl rfl) hS_1 <| .e rfl (fun w' hS' => .load scal27 rfl (hS'.cell (i := 1) (j := 1) rfl rfl)) hS_1 <| .m rfl rfl hS_1 <| .m rfl rfl hS_1 <| .e rfl (fun w' hS' => .lookup (i := 0) Tryz.underlying68 Tryz.underlying9 Tryz.zeroValue3 hS' rfl rfl rfl) hS_1 <| .f rfl (.lit1 (encN .i64) (mget (m) x) sl27 rfl hs_20 rfl fun v_1 w_11 hs_21 hch_2 => ?_)
            have hS_2 : Sat w [_, _, _] _ := hs_21.sub ((.cons_cons _ (.cons_cons _ (.cons_cons _ (.cons _ (.cons _ .slnil))))))
            refine ⟨hS_2, ?_⟩
            refine .f rfl (.appendL 3 sl27 hs_21 rfl rfl rfl Tryz.underlying27 (hs_21.rdL 4 rfl) (by simp only [List.length_append, List.length_singleton, List.length_map, List.length_take]; omega) (by simp only [List.length_append, List.length_singleton, List.length_map, List.length_take]; omega) fun v_2 w_12 hs_22 hch_3 => ?_)
            have hs_22d : Sat w [_, _, _, cL v_2 3 (encN .i64) (((wordsN vs).take k).map (cnt vs) ++ [(mget (m) x)])] _ := hs_22.drop 4
            have hS_3 : Sat w [_, _, _] _ := hs_22d.sub ((.cons_cons _ (.cons_cons _ (.cons_cons _ (.cons _ .slnil)))))
            refine ⟨hS_3, ?_⟩
            refine .loose rfl rfl rfl (fun w' hS' => .nilCheck rfl) hS_3 <| .e rfl (fun w' hS' => .fieldAddr fld71_1 rfl rfl) hS_3 <| .bar rfl rfl rfl (OpE.storeObj one27 hs_22d (i := 1) rfl rfl rfl ((hs_22d.rdL 3 rfl).oneCell) rfl fun w_13 hs_23 hch_4 => ?_)
            have hS_4 : Sat w [_, _] _ := hs_23.sub ((.cons_cons _ (.cons _ (.cons_cons _ (.cons _ .slnil)))))
            refine ⟨hS_4, ?_⟩
            refine .fin <| .region <| .e rfl (.addI (b := 1) rfl rfl (by omega)) <| .m rfl rfl <| .nil ?_
            have hs_24 : Sat w [_, cObj b_1 71 [vw, v_2, (.slice none 0 0)], _, cL v_2 3 (encN .i64) (((wordsN vs).take (k + 1)).map (cnt vs))] w_13 := hs_23.reL 3 rfl (show ((wordsN vs).take k).map (cnt vs) ++ [(mget (m) x)] = ((wordsN vs).take (k + 1)).map (cnt vs) from by rw [take_snoc hx, List.map_append]; simp [hget])
            exact ⟨(k + 1, v_2), ⟨rfl, rfl, rfl, rfl, rfl, rfl, trivial⟩, ⟨hs_24, by omega⟩, (show ((wordsN vs).length - (k + 1)) < ((wordsN vs).length - k) from by omega)⟩
          · refine .exit0 <| .seq ?_
            have hs_25 : Sat w [cMap mb_1 (m), cObj b_1 71 [vw, vc, (.slice none 0 0)], cL vw 9 (encTx) (wordsN vs), cL vc 3 (encN .i64) (countsN vs)] w_10 := hs_19.reL 3 rfl (show ((wordsN vs).take k).map (cnt vs) = countsN vs from by rw [show k = (wordsN vs).length by omega, List.take_length]; rfl)
            refine .region <| .m rfl rfl ?_
            have hA_1 : Sat w ([cObj b_1 71 [vw, vc, (.slice none 0 0)], cL vw 9 (encTx) (wordsN vs)] ++ ([cMap mb_1 (m), cL vc 3 (encN .i64) (countsN vs)] ++ [])) _ := (Sat.order [1, 2, 0, 3] (by decide) hs_25.tail).cut 2
            refine .f rfl (.call ent33 rfl ((finish_ok _ _ _ _ _ _ (wordsN vs) hA_1 (hokw) (fun x hx => Nat.le_trans (hws x hx) (by decide)) (by omega) ((hs_25.rdL 3 rfl).oneCell)).mono fun r_3 w_14 h_3 => ?_))
            obtain ⟨rfl, vo_1, hp_2⟩ := h_3
            have hs_26 : Sat w [cMap mb_1 (m), cObj b_1 71 [vw, vc, vo_1], cL vw 9 (encTx) (wordsN vs), cL vc 3 (encN .i64) (countsN vs), cL vo_1 3 (encN .i64) (ordN (wordsN vs))] _ := (Sat.order [3, 0, 1, 4, 2] (by decide) hp_2.join).untail
            refine .nil <| .seq <| .region <| .m rfl rfl <| .e rfl (.lenL Tryz.underlying36 rfl (hv.ext hs_26.ext)) <| .f rfl (.makeL (encN .i64) (0) sl27 rfl hs_26 rfl rfl (by omega) (by omega) (by omega) fun v_3 w_15 hs_27 hch_5 => ?_)
            refine .s rfl rfl <| .nil <| .seq <| .seq <| .region <| .m rfl rfl <| .e rfl (.lenL Tryz.underlying36 rfl (hv.ext hs_27.ext)) <| .m rfl rfl <| .nil <| .block ?_
            have hs_28 : Sat w [_, _, _, _, _, cL v_3 3 (encN .i64) (((vs.take 0).map (lbW (wordsN vs)) ++ List.replicate (vs.length - 0) 0))] w_15 := hs_27.reL 5 rfl (show List.replicate (vs.length) 0 = ((vs.take 0).map (lbW (wordsN vs)) ++ List.replicate (vs.length - 0) 0) from by simp)
            refine .loop (α := Nat) (fun k => [(8, (.pointer (some ⟨b_1, 0, none⟩))), (12, v_3), (91, v), (92, (.int .i64 vs.length)), (93, (.int .i64 k))]) (fun k w' => Sat w [cMap mb_1 (m), cObj b_1 71 [vw, vc, vo_1], cL vw 9 (encTx) (wordsN vs), cL vc 3 (encN .i64) (countsN vs), cL vo_1 3 (encN .i64) (ordN (wordsN vs)), cL v_3 3 (encN .i64) (((vs.take k).map (lbW (wordsN vs)) ++ List.replicate (vs.length - k) 0))] w' ∧ (k ≤ vs.length)) (fun k => vs.length - k) 0 ⟨rfl, rfl, rfl, rfl, rfl, trivial⟩ ⟨hs_28, Nat.zero_le _⟩ ?_
            rintro k w_16 ⟨hs_29, hk⟩
            show CW _ _ _ _ [(8, (.pointer (some ⟨b_1, 0, none⟩))), (12, v_3), (91, v), (92, (.int .i64 vs.length)), (93, (.int .i64 k))] _
            refine .seq <| .region <| .e rfl (.lssN rfl rfl) <| .nil <| .seq <| .condD rfl (fun hc_7 => ?_) (fun hc_7 => ?_)
            · refine .skip <| .seq <| .block <| .seq ?_
              obtain ⟨x, hx⟩ : ∃ x, (vs)[k]? = some x := ⟨_, List.getElem?_eq_getElem hc_7⟩
              refine .region <| .m rfl rfl <| .e rfl (.idxL (E := encTx) sl36 rfl rfl (hv.ext hs_29.ext) (by omega)) <| .e rfl (.ldL (E := encTx) scal9 rfl (hv.ext hs_29.ext) hx (by decide) rfl) <| .s rfl rfl <| .s rfl rfl <| .nil <| .region <| .m rfl rfl <| .m rfl rfl <| .m rfl rfl <| .m rfl rfl <| .f rfl (.call ent34 rfl ((number_ok _ _ _ _ _ _ _ x _ (hs_29.lexAt 1 2 3 4 rfl rfl rfl rfl) (hokw.1) (by omega)).mono fun r_4 w_17 h_4 => ?_))
              obtain ⟨rfl, hp_3⟩ := h_4
              have hs_30 := hs_29.adds hp_3
              refine .m rfl rfl <| .e rfl (.extract rfl rfl) <| .e rfl (.extract rfl rfl) <| .e rfl (.idxL (E := encN .i64) sl27 rfl rfl (hs_30.rdL 5 rfl) (by simp; omega)) <| .f rfl (.setL (a := (nmW (wordsN vs) x).1) 5 one3 hs_30 rfl rfl rfl rfl (by simp; omega) fun w_18 hs_31 hch_6 => ?_)
              refine .nil <| .region <| .e rfl (.addI (b := 1) rfl rfl (by omega)) <| .m rfl rfl <| .nil ?_
              have hs_32 : Sat w [_, _, _, _, _, cL v_3 3 (encN .i64) (((vs.take (k + 1)).map (lbW (wordsN vs)) ++ List.replicate (vs.length - (k + 1)) 0))] w_18 := hs_31.reL 5 rfl (show ((vs.take k).map (lbW (wordsN vs)) ++ List.replicate (vs.length - k) 0).set k ((nmW (wordsN vs) x).1) = ((vs.take (k + 1)).map (lbW (wordsN vs)) ++ List.replicate (vs.length - (k + 1)) 0) from nums_step hx (by rw [nmW_mem hokw.1 (wordsN_mem.2 (mem_get hx))]))
              exact ⟨k + 1, ⟨rfl, rfl, rfl, rfl, rfl, trivial⟩, ⟨hs_32, by omega⟩, (show (vs.length - (k + 1)) < (vs.length - k) from by omega)⟩
            · refine .exit0 <| .seq <| .region <| .m rfl rfl <| .m rfl rfl <| .s rfl rfl <| .s rfl rfl <| .s rfl rfl <| .nil <| .ret ?_
              show PostK _ _ _ _ _ _
              refine post3 rfl rfl rfl rfl ?_
              have hs_33 : Sat w [_, _, _, _, _, cL v_3 3 (encN .i64) (vs.map (lbW (wordsN vs)))] w_16 := hs_29.reL 5 rfl (show ((vs.take k).map (lbW (wordsN vs)) ++ List.replicate (vs.length - k) 0) = vs.map (lbW (wordsN vs)) from by rw [show k = vs.length by omega, List.take_length, Nat.sub_self]; simp)
              have hs_34 : Sat w [_, _, _, _, _] w_16 := hs_33.sub ((.cons _ (.cons_cons _ (.cons_cons _ (.cons_cons _ (.cons_cons _ (.cons_cons _ .slnil)))))))
              have hq : bldE vs = 0 := by
                unfold bldE
                have h9 : chkN vs = 0 := hchk
                rw [if_neg hc_1, if_neg (by rw [h9]; decide), if_neg (by omega)]
              exact .inr ⟨hq, _, _, _, _, _, rfl, hs_34⟩
        · intro mk_1 mv_1 w_8 hnx_1 hs_14
          refine .e rfl (.extract rfl rfl) <| .nil <| .seq <| .condT rfl (rfl) <| .skip <| .block <| .seq ?_
          have hrl := hs_14.rng_le 0 rfl
          refine .region <| .e rfl (.entry (i := 0) (done := done) (s := mk_1) (c := mv_1) hs_14 rfl rfl) <| .e rfl (.extract rfl rfl) <| .s rfl rfl <| .nil <| .region <| .m rfl rfl <| .m rfl rfl <| .e rfl (.nilCheck rfl) <| .e rfl (.fieldAddr fld71_0 rfl rfl) <| .e rfl (.load scal36 rfl (hs_14.cell (i := 1) (j := 0) rfl rfl)) <| .m rfl rfl <| .f rfl (.lit1 (encTx) mk_1 sl36 rfl hs_14 rfl fun v_4 w_19 hs_35 hch_7 => ?_)
          refine .f rfl (.appendL 2 sl36 hs_35 rfl rfl rfl Tryz.underlying36 (hs_35.rdL 3 rfl) (by simp only [List.length_append, List.length_singleton, mkeys_length] at *; omega) (by simp only [List.length_append, List.length_singleton, mkeys_length] at *; omega) fun v_5 w_20 hs_36 hch_8 => ?_)
          have hs_36d : Sat w [_, _, cL v_5 9 (encTx) (mkeys done ++ [mk_1])] _ := hs_36.drop 3
          refine .e rfl (.nilCheck rfl) <| .e rfl (.fieldAddr fld71_0 rfl rfl) <| .f rfl (.storeObj one36 hs_36d (i := 1) rfl rfl rfl ((hs_36d.rdL 2 rfl).oneCell) rfl fun w_21 hs_37 hch_9 => ?_)
          refine .nil ?_
          have hs_38 : Sat w [_, _, cL v_5 9 (encTx) (mkeys (done ++ [(mk_1, mv_1)]))] w_21 := hs_37.reL 2 rfl (show mkeys done ++ [mk_1] = mkeys (done ++ [(mk_1, mv_1)]) from (mkeys_snoc _ _ _).symm)
          exact ⟨(done ++ [(mk_1, mv_1)], v_5), ⟨rfl, rfl, rfl, rfl, trivial⟩, hs_38, (show (m.length - (done ++ [(mk_1, mv_1)]).length) < (m.length - done.length) from by rw [List.length_append, List.length_singleton] at hrl ⊢; omega)⟩
end Go.Proofs.YtecfgjdpghddgaaGreat
namespace Go.Proofs.YtecfgjdpghddgaaGreat
open Go.RowKit Go.Kw
set_option maxRecDepth 100000
theorem wordAt_get {W : List ByteArray} {k : Nat} {x : ByteArray} (h : W[k]? = some x) : wordAt W (k : Int) = (x, true) := by
  have := (List.getElem?_eq_some_iff.1 h).1
  unfold wordAt; rw [if_pos (by omega), Int.toNat_natCast, getD_of h]
theorem lbuild_err {v : Value} {vs : List ByteArray} {w : World} (hv : RdL w v encTx vs) (h : bldE vs ≠ 0) : CallsV Tryz.prog 12 [v] w fun r w' => r = .tuple #[.pointer none, .slice none 0 0, .int .i64 ((bldE vs : Nat) : Int)] ∧ Sat w [] w' :=
  (lbuild_ok v vs w hv).mono fun r w' hq => by rcases hq with ⟨_, h1, h2⟩ | ⟨h0, _⟩; exact ⟨h1, h2⟩; exact absurd h0 h
theorem lbuild_good {v : Value} {vs : List ByteArray} {w : World} (hv : RdL w v encTx vs) (h : bldE vs = 0) : CallsV Tryz.prog 12 [v] w fun r w' => ∃ g vw vc vo vn, r = .tuple #[.pointer (some ⟨g, 0, none⟩), vn, .int .i64 0] ∧ Sat w [cObj g 71 [vw, vc, vo], cL vw 9 encTx (wordsN vs), cL vc 3 (encN .i64) (countsN vs), cL vo 3 (encN .i64) (ordN (wordsN vs)), cL vn 3 (encN .i64) (vs.map (lbW (wordsN vs)))] w' :=
  (lbuild_ok v vs w hv).mono fun r w' hq => by rcases hq with ⟨h0, _⟩ | ⟨_, h1⟩; exact absurd h h0; exact h1
theorem bld_vlen {vs : List ByteArray} (h : bldE vs = 0) : vs.length ≤ 4096 := by
  unfold bldE at h
  split at h
  · cases h
  · omega
theorem counts_pos {l : List ByteArray} {i c : Nat} (h : (countsN l)[i]? = some c) : 1 ≤ c := by
  unfold countsN at h
  rw [List.getElem?_map] at h
  obtain ⟨y, hy, rfl⟩ := Option.map_eq_some_iff.1 h
  exact cnt_pos (wordsN_mem.1 (List.mem_of_getElem? hy))
theorem sum_set {l : List Nat} {i c : Nat} (h : l[i]? = some c) : (l.set i (c + 1)).sum = l.sum + 1 := by
  induction l generalizing i with
  | nil => simp at h
  | cons x r ih =>
    cases i with
    | zero => simp at h; subst h; simp; omega
    | succ i => simp at h; simp [ih h]; omega
theorem counts_sum (vs : List ByteArray) : (countsN vs).sum = vs.length := by
  induction vs using snoc_ind with
  | h0 => rfl
  | h1 vs v ih =>
    rcases Decidable.em ((wordsN vs)[lbW (wordsN vs) v]? = some v) with h | h
    · obtain ⟨c, h1, h2⟩ := counts_found h
      rw [h2, sum_set h1, ih]; simp
    · rw [counts_new h, List.sum_append, List.sum_cons, List.length_append, ← ih]
      have := congrArg List.sum (List.take_append_drop (lbW (wordsN vs) v) (countsN vs))
      rw [List.sum_append] at this
      simp; omega
theorem sum_take_le (l : List Nat) (k : Nat) : (l.take k).sum ≤ l.sum := by
  have := congrArg List.sum (List.take_append_drop k l)
  rw [List.sum_append] at this; omega
theorem sum_take_snoc {l : List Nat} {k c : Nat} (h : l[k]? = some c) : (l.take (k + 1)).sum = (l.take k).sum + c := by
  rw [take_snoc h, List.sum_append]; simp
theorem bld_chk {vs : List ByteArray} (h : bldE vs = 0) : chkN vs = 0 := by
  unfold bldE at h
  split at h
  · cases h
  · split at h
    · rename_i h1 h2; exact absurd h h2
    · rename_i h1 h2; exact Decidable.not_not.1 h2
end Go.Proofs.YtecfgjdpghddgaaGreat
