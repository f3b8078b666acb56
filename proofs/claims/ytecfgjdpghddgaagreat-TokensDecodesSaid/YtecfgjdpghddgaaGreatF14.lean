/- The walks of the functions of F14, printed by our own program (kwgen.py) out of our descriptions (base.py). -/
import Derived.Test.YtecfgjdpghddgaaGreatMst
import Derived.Test.YtecfgjdpghddgaaGreatKp
import Derived.Test.YtecfgjdpghddgaaGreatF02
import Derived.Test.YtecfgjdpghddgaaGreatTab
set_option linter.unusedVariables false
set_option linter.unusedSimpArgs false
set_option linter.unusedSectionVars false
namespace Go.Proofs.YtecfgjdpghddgaaGreat
open Go.RowKit Go.Kw
set_option maxRecDepth 100000
def encIt : Enc It := ⟨4, fun x => [.int .i64 (x.w : Int), .int .i64 x.sym, .int .i64 (x.lf : Int), .int .i64 (x.rt : Int)], fun _ => rfl, fun x u h => by simp at h; rcases h with rfl | rfl | rfl | rfl <;> rfl⟩
theorem mem_sets {α : Type} {l : List α} {i j : Nat} {x y z : α} (hx : l[i]? = some x) (hy : l[j]? = some y) (h : z ∈ (l.set i y).set j x) : z ∈ l := by
  rcases List.mem_or_eq_of_mem_set h with h | rfl
  · rcases List.mem_or_eq_of_mem_set h with h | rfl
    · exact h
    · exact List.mem_of_getElem? hy
  · exact List.mem_of_getElem? hx
def CmpOk {α : Type} (P : Program) (fi : FuncId) (cap : Array Value) (val : α → Value) (key : α → Nat) (D : α → Prop) (w0 : World) (cs : List Chunk) : Prop :=
  ∀ c w, Sat w0 ([c] ++ cs) w → ∀ a b, D a → D b → CallsV P fi ([val a, val b] ++ cap.toList) w fun r w' => ∃ z : Int, r = .int .i64 z ∧ (z < 0 ↔ key a < key b) ∧ Sat w [] w'
theorem swrIt (w0 w : World) (cs : List Chunk) (v : Value) (f : Value) (l : List It) (a b n : Nat) (hs : Sat w0 ([cL v 149 (encIt) (l)] ++ cs) w) (ha : a + n ≤ l.length) (hb : b + n ≤ l.length) (hn : l.length ≤ 1000000000000) :
    CallsV Tryz.prog 160 [v, (.int .i64 a), (.int .i64 b), (.int .i64 n), f] w fun r w' => r = .tuple #[] ∧ Sat w0 ([cL v 149 (encIt) (swapN l a b n)] ++ cs) w' := by
  refine callsV_of Tryz.func160 rfl rfl ?_
  refine .seq <| .region <| .s rfl rfl <| .nil <| .block <| .loop (α := Nat) (fun k => [(0, v), (1, (.int .i64 a)), (2, (.int .i64 b)), (3, (.int .i64 n)), (10, (.int .i64 k))]) (fun k w' => Sat w0 ([cL v 149 (encIt) (swapN l a b k)] ++ cs) w' ∧ (k ≤ n)) (fun k => n - k) 0 ⟨rfl, rfl, rfl, rfl, rfl, trivial⟩ ⟨hs, Nat.zero_le _⟩ ?_
  rintro k w_1 ⟨hs_1, hk⟩
  show CW _ _ _ _ [(0, v), (1, (.int .i64 a)), (2, (.int .i64 b)), (3, (.int .i64 n)), (10, (.int .i64 k))] _
  refine .seq <| .seq <| .region <| .m rfl rfl <| .m rfl rfl <| .e rfl (.lssN rfl rfl) <| .nil <| .condD rfl (fun hc_1 => ?_) (fun hc_1 => ?_)
  · refine .skip <| .seq <| .block ?_
    have hlk : (swapN l a b k).length = l.length := swapN_length ..
    obtain ⟨x, hx⟩ : ∃ x, (swapN l a b k)[(a + k)]? = some x := ⟨_, List.getElem?_eq_getElem (by omega)⟩
    obtain ⟨y, hy⟩ : ∃ y, (swapN l a b k)[(b + k)]? = some y := ⟨_, List.getElem?_eq_getElem (by omega)⟩
    have hshp_1 := (hs_1.rdL (E := encIt) 0 rfl).shp (by decide)
    refine .draw2 (fun w' => Sat w0 ([cL v 149 (encIt) (swapN l a b k)] ++ cs) w') (fun w' => Sat w0 ([] ++ cs) w') 21 (.free 0 (.free 1 (.free 2 (.free 3 (.loose 4 (.loose 5 (.loose 6 (.loose 7 (.free 8 (.free 9 (.free 10 (.free 11 (.free 12 (.free 13 (.loose 14 (.loose 15 (.loose 16 (.loose 17 (.loose 18 (.free 19 (.free 20 (.bar 21 (.free 22 (.one 23 .fin)))))))))))))))))))))))) (fun w' h => h.sub ((.cons _ (.refl _)))) mixed (by kernel_rfl) ?_
    have hs_2 := hs_1.drew
    refine .m rfl rfl hs_2 <| .m rfl rfl hs_2 <| .m rfl rfl hs_2 <| .e rfl (fun w' hS' => .addI rfl rfl (by omega)) hs_2 <| .loose rfl rfl rfl (fun w' hS' => .move rfl) hs_2 <| .loose rfl rfl rfl (fun w' hS' => .move rfl) hs_2 <| .loose rfl rfl rfl (fun w' hS' => .move rfl) hs_2 <| .loose rfl rfl rfl (fun w' hS' => .addI rfl rfl (by omega)) hs_2 <| .m rfl rfl hs_2 <| .m rfl rfl hs_2 <| .m rfl rfl hs_2 <| .e rfl (fun w' hS' => .addI rfl rfl (by omega)) hs_2 <| .e rfl (fun w' hS' => .idxL (E := encIt) sl146 rfl rfl (hS'.rdL 0 rfl) (by omega)) hs_2 <| .e rfl (fun w' hS' => .ldAgg (E := encIt) agg149 rfl (hS'.rdL 0 rfl) hy (by decide)) hs_2 <| .loose rfl rfl rfl (fun w' hS' => .move rfl) hs_2 <| .loose rfl rfl rfl (fun w' hS' => .move rfl) hs_2 <| .loose rfl rfl rfl (fun w' hS' => .move rfl) hs_2 <| .loose rfl rfl rfl (fun w' hS' => .addI rfl rfl (by omega)) hs_2 <| .loose rfl rfl rfl (fun w' hS' => .idxS sl146 rfl rfl hshp_1 (by omega)) hs_2 <| .e rfl (fun w' hS' => .ldAgg (E := encIt) agg149 rfl (hS'.rdL 0 rfl) hx (by decide)) hs_2 <| .e rfl (fun w' hS' => .idxL (E := encIt) sl146 rfl rfl (hS'.rdL 0 rfl) (by omega)) hs_2 <| .bar rfl rfl rfl (OpE.setAgg (a := y) 0 agg149 hs_2 rfl rfl rfl (by (try simp only [List.length_set]); omega) (by decide) fun w_2 hs_3 hch_1 => ?_)
    have hS_1 : Sat w0 ([] ++ cs) _ := hs_3.sub ((.cons _ (.refl _)))
    refine ⟨hS_1, ?_⟩
    refine .e rfl (fun w' hS' => .idxS sl146 rfl rfl hshp_1 (by omega)) hS_1 <| .f rfl (.setAgg (a := x) 0 agg149 hs_3 rfl rfl rfl (by (try simp only [List.length_set]); omega) (by decide) fun w_3 hs_4 hch_2 => ?_)
    have hS_2 : Sat w0 ([] ++ cs) _ := hs_4.sub ((.cons _ (.refl _)))
    refine ⟨hS_2, ?_⟩
    refine .fin ?_
    have hs_5 : Sat w0 ([cL v 149 (encIt) (swapN l a b (k + 1))] ++ cs) w_3 := by
      have hq : ((swapN l a b k).set (a + k) y).set (b + k) x = swapN l a b (k + 1) := by rw [swapN, sw_of hx hy]
      rw [← hq]; exact hs_4
    refine .region <| .m rfl rfl <| .e rfl (.addI (b := 1) rfl rfl (by omega)) <| .s rfl rfl <| .nil ?_
    exact ⟨k + 1, ⟨rfl, rfl, rfl, rfl, rfl, trivial⟩, ⟨hs_5, by omega⟩, (show (n - (k + 1)) < (n - k) from by omega)⟩
  · refine .exit0 ?_
    show PostK _ _ _ _ _ _
    refine post0 rfl ?_
    have hs_6 : Sat w0 ([cL v 149 (encIt) (swapN l a b n)] ++ cs) w_1 := by
      have hq : swapN l a b k = swapN l a b n := by rw [show k = n by omega]
      rw [← hq]; exact hs_1
    exact ⟨rfl, hs_6⟩
theorem insIt (w0 w : World) (cs : List Chunk) (v : Value) (l : List It) (a b : Nat) (key : It → Nat) (D : It → Prop) (fi : FuncId) (cap : Array Value) (hE : Enters Tryz.prog fi) (hcmp : CmpOk Tryz.prog fi cap encIt.ag key D w0 cs) (hs : Sat w0 ([cL v 149 (encIt) (l)] ++ cs) w) (hD : ∀ x ∈ l, D x) (ha : a ≤ l.length) (hb : b ≤ l.length) (hn : l.length ≤ 1000000000000) :
    CallsV Tryz.prog 155 [v, (.int .i64 a), (.int .i64 b), (.func (.func fi) #[] cap)] w fun r w' => r = .tuple #[] ∧ Sat w0 ([cL v 149 (encIt) (insS key a l (b - a - 1))] ++ cs) w' := by
  refine callsV_of Tryz.func155 rfl rfl ?_
  refine .seq <| .region <| .m rfl rfl <| .e rfl (.addI (b := 1) rfl rfl (by omega)) <| .s rfl rfl <| .nil <| .block <| .loop (α := Nat) (fun k => [(0, v), (1, (.int .i64 a)), (2, (.int .i64 b)), (3, (.func (.func fi) #[] cap)), (8, (.int .i64 ((a + k + 1) : Nat)))]) (fun k w' => Sat w0 ([cL v 149 (encIt) (insS key a l k)] ++ cs) w' ∧ (k = 0 ∨ a + k + 1 ≤ b) ∧ (∀ x ∈ insS key a l k, D x)) (fun k => b - k) 0 ⟨rfl, rfl, rfl, rfl, rfl, trivial⟩ ⟨hs, .inl rfl, hD⟩ ?_
  rintro k w_1 ⟨hs_1, hk, hDk⟩
  show CW _ _ _ _ [(0, v), (1, (.int .i64 a)), (2, (.int .i64 b)), (3, (.func (.func fi) #[] cap)), (8, (.int .i64 ((a + k + 1) : Nat)))] _
  refine .seq <| .seq <| .region <| .m rfl rfl <| .m rfl rfl <| .e rfl (.lssN rfl rfl) <| .nil <| .condD rfl (fun hc_1 => ?_) (fun hc_1 => ?_)
  · refine .skip <| .seq <| .block <| .seq <| .region <| .m rfl rfl <| .s rfl rfl <| .nil <| .block <| .loop (α := Nat × List It) (fun (j, cur) => [(0, v), (1, (.int .i64 a)), (2, (.int .i64 b)), (3, (.func (.func fi) #[] cap)), (8, (.int .i64 ((a + k + 1) : Nat))), (9, (.int .i64 j))]) (fun (j, cur) w' => Sat w0 ([cL v 149 (encIt) (cur)] ++ cs) w' ∧ (j ≤ a + k + 1) ∧ (insW key a j cur = insW key a (a + k + 1) (insS key a l k)) ∧ (cur.length = l.length) ∧ (∀ x ∈ cur, D x)) (fun (j, cur) => j) (a + k + 1, insS key a l k) ⟨rfl, rfl, rfl, rfl, rfl, rfl, trivial⟩ ⟨hs_1, Nat.le_refl _, rfl, insS_length .., hDk⟩ ?_
    rintro ⟨j, cur⟩ w_2 ⟨hs_2, hj, hcur, hlc, hDc⟩
    show CW _ _ _ _ [(0, v), (1, (.int .i64 a)), (2, (.int .i64 b)), (3, (.func (.func fi) #[] cap)), (8, (.int .i64 ((a + k + 1) : Nat))), (9, (.int .i64 j))] _
    refine .seq <| .seq ?_
    obtain ⟨x, hx⟩ : ∃ x, (cur)[j]? = some x := ⟨_, List.getElem?_eq_getElem (by omega)⟩
    obtain ⟨y, hy⟩ : ∃ y, (cur)[(j - 1)]? = some y := ⟨_, List.getElem?_eq_getElem (by omega)⟩
    refine .mid (fun L' w' => Weak [(0, v), (1, (.int .i64 a)), (2, (.int .i64 b)), (3, (.func (.func fi) #[] cap)), (8, (.int .i64 ((a + k + 1) : Nat))), (9, (.int .i64 j)), (34, (.bool (decide ((a < j) ∧ (key x < key y)))))] L' ∧ Sat w0 ([cL v 149 (encIt) (cur)] ++ cs) w') ?_ ?_
    · refine .draw (fun w' => Sat w0 ([cL v 149 (encIt) (cur)] ++ cs) w') (.free 0 (.free 1 (.free 2 (.free 3 (.free 4 (.free 5 (.free 6 (.free 7 (.free 8 (.free 9 (.free 10 (.free 11 (.free 12 (.free 13 (.one 14 (.free 15 (.free 16 .fin))))))))))))))))) mixed (by kernel_rfl) ?_
      have hs_3 := hs_2.drew
      refine .m rfl rfl hs_3 <| .m rfl rfl hs_3 <| .e rfl (fun w' hS' => .gtrN rfl rfl) hs_3 <| .m rfl rfl hs_3 ?_
      by_cases hg_1 : a < j
      · refine .evYes rfl rfl rfl rfl (decide_eq_true hg_1) rfl (fun w' hS' => .move rfl) hs_3 <| .evYes rfl rfl rfl rfl (decide_eq_true hg_1) rfl (fun w' hS' => .move rfl) hs_3 <| .evYes rfl rfl rfl rfl (decide_eq_true hg_1) rfl (fun w' hS' => .move rfl) hs_3 <| .evYes rfl rfl rfl rfl (decide_eq_true hg_1) rfl (fun w' hS' => .idxL (E := encIt) sl146 rfl rfl (hS'.rdL 0 rfl) (by omega)) hs_3 <| .evYes rfl rfl rfl rfl (decide_eq_true hg_1) rfl (fun w' hS' => .ldAgg (E := encIt) agg149 rfl (hS'.rdL 0 rfl) hx (by decide)) hs_3 <| .evYes rfl rfl rfl rfl (decide_eq_true hg_1) rfl (fun w' hS' => .move rfl) hs_3 <| .evYes rfl rfl rfl rfl (decide_eq_true hg_1) rfl (fun w' hS' => .move rfl) hs_3 <| .evYes rfl rfl rfl rfl (decide_eq_true hg_1) rfl (fun w' hS' => .subI (b := 1) rfl rfl (by omega) (by omega)) hs_3 <| .evYes rfl rfl rfl rfl (decide_eq_true hg_1) rfl (fun w' hS' => .idxL (E := encIt) sl146 rfl rfl (hS'.rdL 0 rfl) (by omega)) hs_3 <| .evYes rfl rfl rfl rfl (decide_eq_true hg_1) rfl (fun w' hS' => .ldAgg (E := encIt) agg149 rfl (hS'.rdL 0 rfl) hy (by decide)) hs_3 <| .effYes rfl rfl rfl rfl (decide_eq_true hg_1) rfl (OpE.callv hE rfl rfl ((hcmp _ _ hs_3 (x) (y) (hDc _ (mem_of_get hx)) (hDc _ (mem_of_get hy))).mono fun r_1 w_3 h_1 => ?_))
        obtain ⟨z_1, rfl, hz_1, hp_1⟩ := h_1
        have hs_4 : Sat w0 ([cL v 149 (encIt) (cur)] ++ cs) _ := (hs_3.adds hp_1).mid
        have hS_1 : Sat w0 ([_] ++ cs) _ := hs_4.sub ((.cons_cons _ (.refl _)))
        refine ⟨hS_1, ?_⟩
        refine .evYes rfl rfl rfl rfl (decide_eq_true hg_1) rfl (fun w' hS' => .lssCmp rfl rfl hz_1) hS_1 <| .e rfl (fun w' hS' => .pickY rfl (decide_eq_true hg_1) rfl) hS_1 <| .fin ?_
        exact ⟨⟨rfl, rfl, rfl, rfl, rfl, rfl, congrArg some (congrArg Value.bool (by simp [hg_1])), trivial⟩, hs_4⟩
      · refine .no rfl rfl rfl rfl (decide_eq_false hg_1) rfl hs_3 <| .no rfl rfl rfl rfl (decide_eq_false hg_1) rfl hs_3 <| .no rfl rfl rfl rfl (decide_eq_false hg_1) rfl hs_3 <| .no rfl rfl rfl rfl (decide_eq_false hg_1) rfl hs_3 <| .no rfl rfl rfl rfl (decide_eq_false hg_1) rfl hs_3 <| .no rfl rfl rfl rfl (decide_eq_false hg_1) rfl hs_3 <| .no rfl rfl rfl rfl (decide_eq_false hg_1) rfl hs_3 <| .no rfl rfl rfl rfl (decide_eq_false hg_1) rfl hs_3 <| .no rfl rfl rfl rfl (decide_eq_false hg_1) rfl hs_3 <| .no rfl rfl rfl rfl (decide_eq_false hg_1) rfl hs_3 <| .effNo rfl rfl rfl rfl (decide_eq_false hg_1) rfl hs_3 <| .no rfl rfl rfl rfl (decide_eq_false hg_1) rfl hs_3 <| .e rfl (fun w' hS' => .pickN rfl (decide_eq_false hg_1) rfl) hs_3 <| .fin ?_
        exact ⟨⟨rfl, rfl, rfl, rfl, rfl, rfl, congrArg some (congrArg Value.bool (by simp [hg_1])), trivial⟩, hs_3⟩
    · rintro L' w_4 ⟨hw_1, hs_5⟩
      refine .weaken _ hw_1 <| .condD rfl (fun hc_2 => ?_) (fun hc_2 => ?_)
      · refine .skip <| .seq <| .block ?_
        have hshp_1 := (hs_5.rdL (E := encIt) 0 rfl).shp (by decide)
        refine .draw2 (fun w' => Sat w0 ([cL v 149 (encIt) (cur)] ++ cs) w') (fun w' => Sat w0 ([] ++ cs) w') 15 (.free 0 (.free 1 (.loose 2 (.loose 3 (.loose 4 (.free 5 (.free 6 (.free 7 (.free 8 (.free 9 (.loose 10 (.loose 11 (.loose 12 (.free 13 (.free 14 (.bar 15 (.free 16 (.one 17 .fin)))))))))))))))))) (fun w' h => h.sub ((.cons _ (.refl _)))) mixed (by kernel_rfl) ?_
        have hs_6 := hs_5.drew
        refine .m rfl rfl hs_6 <| .m rfl rfl hs_6 <| .loose rfl rfl rfl (fun w' hS' => .move rfl) hs_6 <| .loose rfl rfl rfl (fun w' hS' => .move rfl) hs_6 <| .loose rfl rfl rfl (fun w' hS' => .subI (b := 1) rfl rfl (by omega) (by omega)) hs_6 <| .m rfl rfl hs_6 <| .m rfl rfl hs_6 <| .e rfl (fun w' hS' => .subI (b := 1) rfl rfl (by omega) (by omega)) hs_6 <| .e rfl (fun w' hS' => .idxL (E := encIt) sl146 rfl rfl (hS'.rdL 0 rfl) (by omega)) hs_6 <| .e rfl (fun w' hS' => .ldAgg (E := encIt) agg149 rfl (hS'.rdL 0 rfl) hy (by decide)) hs_6 <| .loose rfl rfl rfl (fun w' hS' => .move rfl) hs_6 <| .loose rfl rfl rfl (fun w' hS' => .move rfl) hs_6 <| .loose rfl rfl rfl (fun w' hS' => .idxS sl146 rfl rfl hshp_1 (by omega)) hs_6 <| .e rfl (fun w' hS' => .ldAgg (E := encIt) agg149 rfl (hS'.rdL 0 rfl) hx (by decide)) hs_6 <| .e rfl (fun w' hS' => .idxL (E := encIt) sl146 rfl rfl (hS'.rdL 0 rfl) (by omega)) hs_6 <| .bar rfl rfl rfl (OpE.setAgg (a := y) 0 agg149 hs_6 rfl rfl rfl (by (try simp only [List.length_set]); omega) (by decide) fun w_5 hs_7 hch_1 => ?_)
        have hS_2 : Sat w0 ([] ++ cs) _ := hs_7.sub ((.cons _ (.refl _)))
        refine ⟨hS_2, ?_⟩
        refine .e rfl (fun w' hS' => .idxS sl146 rfl rfl hshp_1 (by omega)) hS_2 <| .f rfl (.setAgg (a := x) 0 agg149 hs_7 rfl rfl rfl (by (try simp only [List.length_set]); omega) (by decide) fun w_6 hs_8 hch_2 => ?_)
        have hS_3 : Sat w0 ([] ++ cs) _ := hs_8.sub ((.cons _ (.refl _)))
        refine ⟨hS_3, ?_⟩
        refine .fin <| .region <| .m rfl rfl <| .e rfl (.subI (b := 1) rfl rfl (by omega) (by omega)) <| .s rfl rfl <| .nil ?_
        exact ⟨(j - 1, (cur.set j y).set (j - 1) x), ⟨rfl, rfl, rfl, rfl, rfl, rfl, trivial⟩, ⟨hs_8, by omega, by rw [← hcur, insW_go hc_2 hx hy], by simp only [List.length_set]; exact hlc, fun z hz => hDc z (mem_sets hx hy hz)⟩, (show ((j - 1)) < (j) from by omega)⟩
      · refine .exit0 ?_
        have hDk1 : ∀ x ∈ insS key a l (k + 1), D x := by rw [show insS key a l (k + 1) = cur from ((insW_stop hc_2 hx hy).symm.trans hcur).symm]; exact hDc
        have hs_9 : Sat w0 ([cL v 149 (encIt) (insS key a l (k + 1))] ++ cs) w_4 := by
          have hq : cur = insS key a l (k + 1) := (insW_stop hc_2 hx hy).symm.trans hcur
          rw [← hq]; exact hs_5
        refine .region <| .m rfl rfl <| .e rfl (.addI (b := 1) rfl rfl (by omega)) <| .s rfl rfl <| .nil ?_
        exact ⟨k + 1, ⟨rfl, rfl, rfl, rfl, rfl, trivial⟩, ⟨hs_9, .inr (by omega), hDk1⟩, (show (b - (k + 1)) < (b - k) from by omega)⟩
  · refine .exit0 ?_
    show PostK _ _ _ _ _ _
    refine post0 rfl ?_
    have hs_10 : Sat w0 ([cL v 149 (encIt) (insS key a l (b - a - 1))] ++ cs) w_1 := by
      have hq : insS key a l k = insS key a l (b - a - 1) := by rw [show k = b - a - 1 by omega]
      rw [← hq]; exact hs_1
    exact ⟨rfl, hs_10⟩
theorem rotIt (w0 w : World) (cs : List Chunk) (v : Value) (f : Value) (A X0 Y0 B : List It) (a m b : Nat) (hs : Sat w0 ([cL v 149 (encIt) (A ++ X0 ++ Y0 ++ B)] ++ cs) w) (ha : a = A.length) (hm : m = a + X0.length) (hb : b = m + Y0.length) (hX0 : 0 < X0.length) (hY0 : 0 < Y0.length) (hn : (A ++ X0 ++ Y0 ++ B).length ≤ 1000000000000) :
    CallsV Tryz.prog 158 [v, (.int .i64 a), (.int .i64 m), (.int .i64 b), f] w fun r w' => r = .tuple #[] ∧ Sat w0 ([cL v 149 (encIt) (A ++ Y0 ++ X0 ++ B)] ++ cs) w' := by
  simp only [List.length_append] at hn
  refine callsV_of Tryz.func158 rfl rfl ?_
  refine .seq <| .region <| .m rfl rfl <| .m rfl rfl <| .e rfl (.subI rfl rfl (by omega) (by omega)) <| .s rfl rfl <| .nil <| .seq <| .region <| .m rfl rfl <| .m rfl rfl <| .e rfl (.subI rfl rfl (by omega) (by omega)) <| .s rfl rfl <| .nil <| .seq <| .block <| .loop (α := List It × List It × List It × List It) (fun (P, X, Y, Q) => [(0, v), (2, (.int .i64 m)), (4, f), (10, (.int .i64 X.length)), (11, (.int .i64 Y.length))]) (fun (P, X, Y, Q) w' => Sat w0 ([cL v 149 (encIt) (P ++ X ++ Y ++ Q)] ++ cs) w' ∧ (P.length + X.length = m) ∧ (P ++ Y ++ X ++ Q = A ++ Y0 ++ X0 ++ B) ∧ (0 < X.length) ∧ (0 < Y.length)) (fun (P, X, Y, Q) => X.length + Y.length) (A, X0, Y0, B) ⟨rfl, rfl, rfl, congrArg some (congrArg (Value.int .i64) (by omega)), congrArg some (congrArg (Value.int .i64) (by omega)), trivial⟩ ⟨hs, by omega, rfl, hX0, hY0⟩ ?_
  rintro ⟨P, X, Y, Q⟩ w_1 ⟨hs_1, hPm, hT, hXp, hYp⟩
  show CW _ _ _ _ [(0, v), (2, (.int .i64 m)), (4, f), (10, (.int .i64 X.length)), (11, (.int .i64 Y.length))] _
  have hT2 := congrArg List.length hT
  simp only [List.length_append] at hT2
  refine .seq <| .seq <| .region <| .m rfl rfl <| .m rfl rfl <| .e rfl (.neqN rfl rfl) <| .nil <| .condD rfl (fun hc_1 => ?_) (fun hc_1 => ?_)
  · refine .skip <| .block <| .seq <| .region <| .m rfl rfl <| .m rfl rfl <| .e rfl (.gtrN rfl rfl) <| .nil <| .condD rfl (fun hc_2 => ?_) (fun hc_2 => ?_)
    · refine .seq <| .region <| .m rfl rfl <| .m rfl rfl <| .m rfl rfl <| .e rfl (.subI rfl rfl (by omega) (by omega)) <| .m rfl rfl <| .m rfl rfl <| .m rfl rfl ?_
      have hA_1 : Sat w0 ([cL v 149 (encIt) (P ++ X ++ Y ++ Q)] ++ ([] ++ cs)) _ := (Sat.order [0] (by decide) hs_1).cut 1
      refine .f rfl (.call ent160 rfl ((swrIt _ _ _ _ _ (P ++ X ++ Y ++ Q) ((m - X.length)) (m) (Y.length) hA_1 (by simp only [List.length_append]; omega) (by simp only [List.length_append]; omega) (by simp only [List.length_append]; omega)).mono fun r_1 w_2 h_1 => ?_))
      obtain ⟨rfl, hp_1⟩ := h_1
      have hs_2 : Sat w0 ([cL v 149 (encIt) (swapN (P ++ X ++ Y ++ Q) (m - X.length) m Y.length)] ++ cs) _ := hp_1
      refine .nil ?_
      have hs_3 : Sat w0 ([cL v 149 (encIt) (P ++ Y ++ X.drop Y.length ++ X.take Y.length ++ Q)] ++ cs) w_2 := by
        have hq : swapN (P ++ X ++ Y ++ Q) (m - X.length) m Y.length = P ++ Y ++ X.drop Y.length ++ X.take Y.length ++ Q := by have h := swapN_all (a := m - X.length) (b := m) (n := Y.length) P (X.take Y.length) (X.drop Y.length) Y Q (by simp; omega) (by omega) (by simp; omega) (by simp; omega); rw [← h]; simp
        rw [← hq]; exact hs_2
      refine .region <| .m rfl rfl <| .m rfl rfl <| .e rfl (.subI rfl rfl (by omega) (by omega)) <| .s rfl rfl <| .nil ?_
      exact ⟨(P ++ Y, X.drop Y.length, X.take Y.length, Q), ⟨rfl, rfl, rfl, congrArg some (congrArg (Value.int .i64) (by simp)), congrArg some (congrArg (Value.int .i64) (by simp; omega)), trivial⟩, ⟨hs_3, by simp only [List.length_append, List.length_drop]; omega, by rw [← hT]; (conv => rhs; rw [← List.take_append_drop Y.length X]); simp, by simp only [List.length_drop]; omega, by simp only [List.length_take]; omega⟩, (show ((X.drop Y.length).length + (X.take Y.length).length) < (X.length + Y.length) from by (try simp only [List.length_drop, List.length_take]); omega)⟩
    · refine .seq <| .region <| .m rfl rfl <| .m rfl rfl <| .m rfl rfl <| .e rfl (.subI rfl rfl (by omega) (by omega)) <| .m rfl rfl <| .m rfl rfl <| .e rfl (.addI rfl rfl (by omega)) <| .m rfl rfl <| .e rfl (.subI rfl rfl (by omega) (by omega)) <| .m rfl rfl <| .m rfl rfl ?_
      have hA_2 : Sat w0 ([cL v 149 (encIt) (P ++ X ++ Y ++ Q)] ++ ([] ++ cs)) _ := (Sat.order [0] (by decide) hs_1).cut 1
      refine .f rfl (.call ent160 rfl ((swrIt _ _ _ _ _ (P ++ X ++ Y ++ Q) ((m - X.length)) (((m + Y.length) - X.length)) (X.length) hA_2 (by simp only [List.length_append]; omega) (by simp only [List.length_append]; omega) (by simp only [List.length_append]; omega)).mono fun r_2 w_3 h_2 => ?_))
      obtain ⟨rfl, hp_2⟩ := h_2
      have hs_4 : Sat w0 ([cL v 149 (encIt) (swapN (P ++ X ++ Y ++ Q) (m - X.length) ((m + Y.length) - X.length) X.length)] ++ cs) _ := hp_2
      refine .nil ?_
      have hs_5 : Sat w0 ([cL v 149 (encIt) (P ++ Y.drop (Y.length - X.length) ++ Y.take (Y.length - X.length) ++ (X ++ Q))] ++ cs) w_3 := by
        have hq : swapN (P ++ X ++ Y ++ Q) (m - X.length) ((m + Y.length) - X.length) X.length = P ++ Y.drop (Y.length - X.length) ++ Y.take (Y.length - X.length) ++ (X ++ Q) := by have h := swapN_all (a := m - X.length) (b := m + Y.length - X.length) (n := X.length) P X (Y.take (Y.length - X.length)) (Y.drop (Y.length - X.length)) Q (by simp; omega) (by omega) (by simp; omega) rfl; rw [show P ++ Y.drop (Y.length - X.length) ++ Y.take (Y.length - X.length) ++ (X ++ Q) = P ++ Y.drop (Y.length - X.length) ++ Y.take (Y.length - X.length) ++ X ++ Q by simp, ← h]; simp
        rw [← hq]; exact hs_4
      refine .region <| .m rfl rfl <| .m rfl rfl <| .e rfl (.subI rfl rfl (by omega) (by omega)) <| .s rfl rfl <| .nil ?_
      exact ⟨(P, Y.drop (Y.length - X.length), Y.take (Y.length - X.length), X ++ Q), ⟨rfl, rfl, rfl, congrArg some (congrArg (Value.int .i64) (by simp; omega)), congrArg some (congrArg (Value.int .i64) (by simp)), trivial⟩, ⟨hs_5, by simp only [List.length_drop]; omega, by rw [← hT]; (conv => rhs; rw [← List.take_append_drop (Y.length - X.length) Y]); simp, by simp only [List.length_drop]; omega, by simp only [List.length_take]; omega⟩, (show ((Y.drop (Y.length - X.length)).length + (Y.take (Y.length - X.length)).length) < (X.length + Y.length) from by (try simp only [List.length_drop, List.length_take]); omega)⟩
  · refine .exit0 <| .region <| .m rfl rfl <| .m rfl rfl <| .m rfl rfl <| .e rfl (.subI rfl rfl (by omega) (by omega)) <| .m rfl rfl <| .m rfl rfl <| .m rfl rfl ?_
    have hA_3 : Sat w0 ([cL v 149 (encIt) (P ++ X ++ Y ++ Q)] ++ ([] ++ cs)) _ := (Sat.order [0] (by decide) hs_1).cut 1
    refine .f rfl (.call ent160 rfl ((swrIt _ _ _ _ _ (P ++ X ++ Y ++ Q) ((m - X.length)) (m) (X.length) hA_3 (by simp only [List.length_append]; omega) (by simp only [List.length_append]; omega) (by simp only [List.length_append]; omega)).mono fun r_3 w_4 h_3 => ?_))
    obtain ⟨rfl, hp_3⟩ := h_3
    have hs_6 : Sat w0 ([cL v 149 (encIt) (swapN (P ++ X ++ Y ++ Q) (m - X.length) m X.length)] ++ cs) _ := hp_3
    refine .nil ?_
    show PostK _ _ _ _ _ _
    refine post0 rfl ?_
    have hs_7 : Sat w0 ([cL v 149 (encIt) (A ++ Y0 ++ X0 ++ B)] ++ cs) w_4 := by
      have hq : swapN (P ++ X ++ Y ++ Q) (m - X.length) m X.length = A ++ Y0 ++ X0 ++ B := by have h := swapN_all (a := m - X.length) (b := m) (n := X.length) P X [] Y Q (by omega) (by omega) (by simp; omega) rfl; rw [← hT]; simpa using h
      rw [← hq]; exact hs_6
    exact ⟨rfl, hs_7⟩
theorem symIt_step (w0 w : World) (cs : List Chunk) (v : Value) (key : It → Nat) (D : It → Prop) (fi : FuncId) (cap : Array Value) (hE : Enters Tryz.prog fi) (hcmp : CmpOk Tryz.prog fi cap encIt.ag key D w0 cs) (k : Nat) (IH : ∀ (w : World) (A L R B : List It) (a m b : Nat), L.length + R.length < k → Sat w0 ([cL v 149 (encIt) (A ++ L ++ R ++ B)] ++ cs) w → a = A.length → m = a + L.length → b = m + R.length → Srt key L → Srt key R → 0 < L.length → 0 < R.length → (∀ x ∈ A ++ L ++ R ++ B, D x) → (A ++ L ++ R ++ B).length ≤ 1000000000000 → CallsV Tryz.prog 156 [v, (.int .i64 (a : Int)), (.int .i64 (m : Int)), (.int .i64 (b : Int)), (.func (.func fi) #[] cap)] w (fun r w' => r = .tuple #[] ∧ ∃ M, Sat w0 ([cL v 149 (encIt) (A ++ M ++ B)] ++ cs) w' ∧ Srt key M ∧ Stb key (L ++ R) M)) (A L R B l : List It) (hl : l = A ++ L ++ R ++ B) (a m b : Nat) (hk : k = L.length + R.length) (hs : Sat w0 ([cL v 149 (encIt) (l)] ++ cs) w) (ha : a = A.length) (hm : m = a + L.length) (hb : b = m + R.length) (hL : Srt key L) (hR : Srt key R) (hL0 : 0 < L.length) (hR0 : 0 < R.length) (hD : ∀ x ∈ l, D x) (hn : l.length ≤ 1000000000000) :
    CallsV Tryz.prog 156 [v, (.int .i64 a), (.int .i64 m), (.int .i64 b), (.func (.func fi) #[] cap)] w fun r w' => r = .tuple #[] ∧ ∃ M, Sat w0 ([cL v 149 (encIt) (A ++ M ++ B)] ++ cs) w' ∧ Srt key M ∧ Stb key (L ++ R) M := by
  have hbl : b ≤ l.length := by rw [hl]; simp only [List.length_append]; omega
  refine callsV_of Tryz.func156 rfl rfl ?_
  refine .seq <| .seq <| .region <| .m rfl rfl <| .m rfl rfl <| .e rfl (.subI rfl rfl (by omega) (by omega)) <| .e rfl (.eqlN (b := 1) rfl rfl) <| .nil <| .condD rfl (fun hc_1 => ?_) (fun hc_1 => ?_)
  · refine .seq ?_
    obtain ⟨x0, hLx⟩ : ∃ x0, L = [x0] := List.length_eq_one_iff.1 (by omega)
    have hx0 : l[a]? = some x0 := by rw [hl, hLx, ha]; simp
    refine .region <| .m rfl rfl <| .s rfl rfl <| .nil <| .seq <| .region <| .m rfl rfl <| .s rfl rfl <| .nil <| .seq <| .block <| .loop (α := Nat × Nat) (fun (i, j) => [(0, v), (1, (.int .i64 a)), (2, (.int .i64 m)), (3, (.int .i64 b)), (4, (.func (.func fi) #[] cap)), (10, (.int .i64 i)), (11, (.int .i64 j))]) (fun (i, j) w' => Sat w0 ([cL v 149 (encIt) (l)] ++ cs) w' ∧ (m ≤ i) ∧ (i ≤ j) ∧ (j ≤ b) ∧ (m < i → ∀ y, l[i - 1]? = some y → key y < key x0) ∧ (j < b → ∀ y, l[j]? = some y → key x0 ≤ key y)) (fun (i, j) => j - i) (m, b) ⟨rfl, rfl, rfl, rfl, rfl, rfl, rfl, trivial⟩ ⟨hs, Nat.le_refl _, by omega, Nat.le_refl _, fun h => absurd h (by omega), fun h => absurd h (by omega)⟩ ?_
    rintro ⟨i, j⟩ w_1 ⟨hs_1, hmi, hij, hjb, hlo, hhi⟩
    show CW _ _ _ _ [(0, v), (1, (.int .i64 a)), (2, (.int .i64 m)), (3, (.int .i64 b)), (4, (.func (.func fi) #[] cap)), (10, (.int .i64 i)), (11, (.int .i64 j))] _
    refine .seq <| .seq <| .region <| .m rfl rfl <| .m rfl rfl <| .e rfl (.lssN rfl rfl) <| .nil <| .condD rfl (fun hc_2 => ?_) (fun hc_2 => ?_)
    · refine .skip <| .block <| .seq <| .region <| .m rfl rfl <| .m rfl rfl <| .e rfl (.addI rfl rfl (by omega)) <| .e rfl (.convK (by rw [Tryz.underlying3]; rfl) Tryz.underlying88 rfl (wrap_u rfl (by (try simp only [IntKind.bits]); omega))) <| .e rfl (.shrN (b := 1) rfl rfl (by (try simp only [IntKind.bits]); omega)) <| .e rfl (.convK (by rw [Tryz.underlying88]; rfl) Tryz.underlying3 rfl (wrap_i (by omega))) <| .s rfl rfl <| .nil <| .seq ?_
      obtain ⟨h, hh⟩ : ∃ q, q = (i + j) / 2 ^ 1 := ⟨_, rfl⟩
      refine .weaken [(0, _), (1, _), (2, _), (3, _), (4, _), (10, _), (11, _), (12, (.int .i64 h)), (31, _), (32, _), (33, _), (34, _), (35, _), (36, _), (37, _), (38, _), (39, _)] ⟨rfl, rfl, rfl, rfl, rfl, rfl, rfl, congrArg some (by rw [hh]), rfl, rfl, rfl, rfl, rfl, rfl, rfl, rfl, rfl, trivial⟩ ?_
      obtain ⟨y, hy⟩ : ∃ y, (l)[h]? = some y := ⟨_, List.getElem?_eq_getElem (by omega)⟩
      refine .draw (fun w' => Sat w0 ([cL v 149 (encIt) (l)] ++ cs) w') (.free 0 (.free 1 (.free 2 (.free 3 (.free 4 (.free 5 (.free 6 (.free 7 (.free 8 (.one 9 (.free 10 .fin))))))))))) mixed (by kernel_rfl) ?_
      have hs_2 := hs_1.drew
      refine .m rfl rfl hs_2 <| .m rfl rfl hs_2 <| .m rfl rfl hs_2 <| .e rfl (fun w' hS' => .idxL (E := encIt) sl146 rfl rfl (hS'.rdL 0 rfl) (by omega)) hs_2 <| .e rfl (fun w' hS' => .ldAgg (E := encIt) agg149 rfl (hS'.rdL 0 rfl) hy (by decide)) hs_2 <| .m rfl rfl hs_2 <| .m rfl rfl hs_2 <| .e rfl (fun w' hS' => .idxL (E := encIt) sl146 rfl rfl (hS'.rdL 0 rfl) (by omega)) hs_2 <| .e rfl (fun w' hS' => .ldAgg (E := encIt) agg149 rfl (hS'.rdL 0 rfl) hx0 (by decide)) hs_2 <| .f rfl (.callv hE rfl rfl ((hcmp _ _ hs_2 (y) (x0) (hD _ (mem_of_get hy)) (hD _ (mem_of_get hx0))).mono fun r_1 w_2 h_1 => ?_))
      obtain ⟨z_1, rfl, hz_1, hp_1⟩ := h_1
      have hs_3 : Sat w0 ([cL v 149 (encIt) (l)] ++ cs) _ := (hs_2.adds hp_1).mid
      have hS_1 : Sat w0 ([_] ++ cs) _ := hs_3.sub ((.cons_cons _ (.refl _)))
      refine ⟨hS_1, ?_⟩
      refine .e rfl (fun w' hS' => .lssCmp rfl rfl hz_1) hS_1 <| .fin <| .condD rfl (fun hc_3 => ?_) (fun hc_3 => ?_)
      · refine .region <| .m rfl rfl <| .e rfl (.addI (b := 1) rfl rfl (by omega)) <| .s rfl rfl <| .nil ?_
        exact ⟨(h + 1, j), ⟨rfl, rfl, rfl, rfl, rfl, rfl, rfl, trivial⟩, ⟨hs_3, by omega, by omega, by omega, fun _ y2 h2 => by rw [Nat.add_sub_cancel, hy] at h2; cases h2; exact hc_3, hhi⟩, (show ((j) - (h + 1)) < (j - i) from by omega)⟩
      · refine .region <| .m rfl rfl <| .s rfl rfl <| .nil ?_
        exact ⟨(i, h), ⟨rfl, rfl, rfl, rfl, rfl, rfl, rfl, trivial⟩, ⟨hs_3, by omega, by omega, by omega, hlo, fun _ y2 h2 => by rw [hy] at h2; cases h2; omega⟩, (show ((h) - (i)) < (j - i) from by omega)⟩
    · refine .exit0 <| .seq <| .seq <| .region <| .m rfl rfl <| .s rfl rfl <| .nil <| .block <| .loop (α := Nat) (fun q => [(0, v), (1, (.int .i64 a)), (10, (.int .i64 i)), (13, (.int .i64 ((a + q) : Nat)))]) (fun q w' => Sat w0 ([cL v 149 (encIt) (shU l a q)] ++ cs) w' ∧ (q ≤ (i - 1 - a))) (fun q => (i - 1 - a) - q) 0 ⟨rfl, rfl, rfl, rfl, trivial⟩ ⟨hs_1, Nat.zero_le _⟩ ?_
      rintro q w_3 ⟨hs_4, hq⟩
      show CW _ _ _ _ [(0, v), (1, (.int .i64 a)), (10, (.int .i64 i)), (13, (.int .i64 ((a + q) : Nat)))] _
      refine .seq <| .seq <| .region <| .m rfl rfl <| .m rfl rfl <| .e rfl (.subI (b := 1) rfl rfl (by omega) (by omega)) <| .e rfl (.lssN rfl rfl) <| .nil <| .condD rfl (fun hc_4 => ?_) (fun hc_4 => ?_)
      · refine .skip <| .seq <| .block ?_
        have hlq : (shU l a q).length = l.length := shU_length ..
        obtain ⟨x1, hx1⟩ : ∃ x1, (shU l a q)[(a + q)]? = some x1 := ⟨_, List.getElem?_eq_getElem (by omega)⟩
        obtain ⟨x2, hx2⟩ : ∃ x2, (shU l a q)[((a + q) + 1)]? = some x2 := ⟨_, List.getElem?_eq_getElem (by omega)⟩
        have hshp_1 := (hs_4.rdL (E := encIt) 0 rfl).shp (by decide)
        refine .draw2 (fun w' => Sat w0 ([cL v 149 (encIt) (shU l a q)] ++ cs) w') (fun w' => Sat w0 ([] ++ cs) w') 15 (.free 0 (.free 1 (.loose 2 (.loose 3 (.loose 4 (.free 5 (.free 6 (.free 7 (.free 8 (.free 9 (.loose 10 (.loose 11 (.loose 12 (.free 13 (.free 14 (.bar 15 (.free 16 (.one 17 .fin)))))))))))))))))) (fun w' h => h.sub ((.cons _ (.refl _)))) mixed (by kernel_rfl) ?_
        have hs_5 := hs_4.drew
        refine .m rfl rfl hs_5 <| .m rfl rfl hs_5 <| .loose rfl rfl rfl (fun w' hS' => .move rfl) hs_5 <| .loose rfl rfl rfl (fun w' hS' => .move rfl) hs_5 <| .loose rfl rfl rfl (fun w' hS' => .addI (b := 1) rfl rfl (by omega)) hs_5 <| .m rfl rfl hs_5 <| .m rfl rfl hs_5 <| .e rfl (fun w' hS' => .addI (b := 1) rfl rfl (by omega)) hs_5 <| .e rfl (fun w' hS' => .idxL (E := encIt) sl146 rfl rfl (hS'.rdL 0 rfl) (by omega)) hs_5 <| .e rfl (fun w' hS' => .ldAgg (E := encIt) agg149 rfl (hS'.rdL 0 rfl) hx2 (by decide)) hs_5 <| .loose rfl rfl rfl (fun w' hS' => .move rfl) hs_5 <| .loose rfl rfl rfl (fun w' hS' => .move rfl) hs_5 <| .loose rfl rfl rfl (fun w' hS' => .idxS sl146 rfl rfl hshp_1 (by omega)) hs_5 <| .e rfl (fun w' hS' => .ldAgg (E := encIt) agg149 rfl (hS'.rdL 0 rfl) hx1 (by decide)) hs_5 <| .e rfl (fun w' hS' => .idxL (E := encIt) sl146 rfl rfl (hS'.rdL 0 rfl) (by omega)) hs_5 <| .bar rfl rfl rfl (OpE.setAgg (a := x2) 0 agg149 hs_5 rfl rfl rfl (by (try simp only [List.length_set]); omega) (by decide) fun w_4 hs_6 hch_1 => ?_)
        have hS_2 : Sat w0 ([] ++ cs) _ := hs_6.sub ((.cons _ (.refl _)))
        refine ⟨hS_2, ?_⟩
        refine .e rfl (fun w' hS' => .idxS sl146 rfl rfl hshp_1 (by omega)) hS_2 <| .f rfl (.setAgg (a := x1) 0 agg149 hs_6 rfl rfl rfl (by (try simp only [List.length_set]); omega) (by decide) fun w_5 hs_7 hch_2 => ?_)
        have hS_3 : Sat w0 ([] ++ cs) _ := hs_7.sub ((.cons _ (.refl _)))
        refine ⟨hS_3, ?_⟩
        refine .fin ?_
        have hs_8 : Sat w0 ([cL v 149 (encIt) (shU l a (q + 1))] ++ cs) w_5 := by
          have hq : ((shU l a q).set (a + q) x2).set ((a + q) + 1) x1 = shU l a (q + 1) := by rw [shU, sw_of hx1 hx2]
          rw [← hq]; exact hs_7
        refine .region <| .m rfl rfl <| .e rfl (.addI (b := 1) rfl rfl (by omega)) <| .s rfl rfl <| .nil ?_
        exact ⟨q + 1, ⟨rfl, rfl, rfl, congrArg some (congrArg (Value.int .i64) (by omega)), trivial⟩, ⟨hs_8, by omega⟩, (show ((i - 1 - a) - (q + 1)) < ((i - 1 - a) - q) from by omega)⟩
      · refine .exit0 <| .ret ?_
        show PostK _ _ _ _ _ _
        refine post0 rfl ?_
        obtain ⟨M, hM, hMs, hMt⟩ := sym_left (key := key) (l := l) (A := A) (B := B) (R := R) (x := x0) (by rw [hl, hLx]) ha (i := i) (by omega) hb (by omega) (by omega) hlo (by rw [show j = i by omega] at hhi; exact hhi) hR
        have hs_9 : Sat w0 ([cL v 149 (encIt) (A ++ M ++ B)] ++ cs) w_3 := by
          have hq : shU l a q = A ++ M ++ B := by rw [show q = i - 1 - a by omega, hM]
          rw [← hq]; exact hs_4
        exact ⟨rfl, M, hs_9, hMs, by rw [hLx]; exact hMt⟩
  · refine .skip <| .seq <| .seq <| .region <| .m rfl rfl <| .m rfl rfl <| .e rfl (.subI rfl rfl (by omega) (by omega)) <| .e rfl (.eqlN (b := 1) rfl rfl) <| .nil <| .condD rfl (fun hc_5 => ?_) (fun hc_5 => ?_)
    · refine .seq ?_
      obtain ⟨x0, hRx⟩ : ∃ x0, R = [x0] := List.length_eq_one_iff.1 (by omega)
      have hx0 : l[m]? = some x0 := by rw [hl, hRx, hm, ha, ← List.length_append]; simp
      refine .region <| .m rfl rfl <| .s rfl rfl <| .nil <| .seq <| .region <| .m rfl rfl <| .s rfl rfl <| .nil <| .seq <| .block <| .loop (α := Nat × Nat) (fun (i, j) => [(0, v), (1, (.int .i64 a)), (2, (.int .i64 m)), (3, (.int .i64 b)), (4, (.func (.func fi) #[] cap)), (14, (.int .i64 i)), (15, (.int .i64 j))]) (fun (i, j) w' => Sat w0 ([cL v 149 (encIt) (l)] ++ cs) w' ∧ (a ≤ i) ∧ (i ≤ j) ∧ (j ≤ m) ∧ (a < i → ∀ y, l[i - 1]? = some y → key y ≤ key x0) ∧ (j < m → ∀ y, l[j]? = some y → key x0 < key y)) (fun (i, j) => j - i) (a, m) ⟨rfl, rfl, rfl, rfl, rfl, rfl, rfl, trivial⟩ ⟨hs, Nat.le_refl _, by omega, Nat.le_refl _, fun h => absurd h (by omega), fun h => absurd h (by omega)⟩ ?_
      rintro ⟨i, j⟩ w_6 ⟨hs_10, hmi, hij, hjb, hlo, hhi⟩
      show CW _ _ _ _ [(0, v), (1, (.int .i64 a)), (2, (.int .i64 m)), (3, (.int .i64 b)), (4, (.func (.func fi) #[] cap)), (14, (.int .i64 i)), (15, (.int .i64 j))] _
      refine .seq <| .seq <| .region <| .m rfl rfl <| .m rfl rfl <| .e rfl (.lssN rfl rfl) <| .nil <| .condD rfl (fun hc_6 => ?_) (fun hc_6 => ?_)
      · refine .skip <| .block <| .seq <| .region <| .m rfl rfl <| .m rfl rfl <| .e rfl (.addI rfl rfl (by omega)) <| .e rfl (.convK (by rw [Tryz.underlying3]; rfl) Tryz.underlying88 rfl (wrap_u rfl (by (try simp only [IntKind.bits]); omega))) <| .e rfl (.shrN (b := 1) rfl rfl (by (try simp only [IntKind.bits]); omega)) <| .e rfl (.convK (by rw [Tryz.underlying88]; rfl) Tryz.underlying3 rfl (wrap_i (by omega))) <| .s rfl rfl <| .nil <| .seq ?_
        obtain ⟨h, hh⟩ : ∃ q, q = (i + j) / 2 ^ 1 := ⟨_, rfl⟩
        refine .weaken [(0, _), (1, _), (2, _), (3, _), (4, _), (14, _), (15, _), (16, (.int .i64 h)), (83, _), (84, _), (85, _), (86, _), (87, _), (88, _), (89, _), (90, _), (91, _)] ⟨rfl, rfl, rfl, rfl, rfl, rfl, rfl, congrArg some (by rw [hh]), rfl, rfl, rfl, rfl, rfl, rfl, rfl, rfl, rfl, trivial⟩ ?_
        obtain ⟨y, hy⟩ : ∃ y, (l)[h]? = some y := ⟨_, List.getElem?_eq_getElem (by omega)⟩
        refine .draw (fun w' => Sat w0 ([cL v 149 (encIt) (l)] ++ cs) w') (.free 0 (.free 1 (.free 2 (.free 3 (.free 4 (.free 5 (.free 6 (.free 7 (.free 8 (.one 9 (.free 10 (.free 11 .fin)))))))))))) mixed (by kernel_rfl) ?_
        have hs_11 := hs_10.drew
        refine .m rfl rfl hs_11 <| .m rfl rfl hs_11 <| .m rfl rfl hs_11 <| .e rfl (fun w' hS' => .idxL (E := encIt) sl146 rfl rfl (hS'.rdL 0 rfl) (by omega)) hs_11 <| .e rfl (fun w' hS' => .ldAgg (E := encIt) agg149 rfl (hS'.rdL 0 rfl) hx0 (by decide)) hs_11 <| .m rfl rfl hs_11 <| .m rfl rfl hs_11 <| .e rfl (fun w' hS' => .idxL (E := encIt) sl146 rfl rfl (hS'.rdL 0 rfl) (by omega)) hs_11 <| .e rfl (fun w' hS' => .ldAgg (E := encIt) agg149 rfl (hS'.rdL 0 rfl) hy (by decide)) hs_11 <| .f rfl (.callv hE rfl rfl ((hcmp _ _ hs_11 (x0) (y) (hD _ (mem_of_get hx0)) (hD _ (mem_of_get hy))).mono fun r_2 w_7 h_2 => ?_))
        obtain ⟨z_2, rfl, hz_2, hp_2⟩ := h_2
        have hs_12 : Sat w0 ([cL v 149 (encIt) (l)] ++ cs) _ := (hs_11.adds hp_2).mid
        have hS_4 : Sat w0 ([_] ++ cs) _ := hs_12.sub ((.cons_cons _ (.refl _)))
        refine ⟨hS_4, ?_⟩
        refine .e rfl (fun w' hS' => .lssCmp rfl rfl hz_2) hS_4 <| .e rfl (fun w' hS' => .notP rfl) hS_4 <| .fin <| .condD rfl (fun hc_7 => ?_) (fun hc_7 => ?_)
        · refine .region <| .m rfl rfl <| .e rfl (.addI (b := 1) rfl rfl (by omega)) <| .s rfl rfl <| .nil ?_
          exact ⟨(h + 1, j), ⟨rfl, rfl, rfl, rfl, rfl, rfl, rfl, trivial⟩, ⟨hs_12, by omega, by omega, by omega, fun _ y2 h2 => by rw [Nat.add_sub_cancel, hy] at h2; cases h2; omega, hhi⟩, (show ((j) - (h + 1)) < (j - i) from by omega)⟩
        · refine .region <| .m rfl rfl <| .s rfl rfl <| .nil ?_
          exact ⟨(i, h), ⟨rfl, rfl, rfl, rfl, rfl, rfl, rfl, trivial⟩, ⟨hs_12, by omega, by omega, by omega, hlo, fun _ y2 h2 => by rw [hy] at h2; cases h2; omega⟩, (show ((h) - (i)) < (j - i) from by omega)⟩
      · refine .exit0 <| .seq <| .seq <| .region <| .m rfl rfl <| .s rfl rfl <| .nil <| .block <| .loop (α := Nat) (fun q => [(0, v), (14, (.int .i64 i)), (17, (.int .i64 ((m - q) : Nat)))]) (fun q w' => Sat w0 ([cL v 149 (encIt) (shD l m q)] ++ cs) w' ∧ (q ≤ (m - i))) (fun q => (m - i) - q) 0 ⟨rfl, rfl, rfl, trivial⟩ ⟨hs_10, Nat.zero_le _⟩ ?_
        rintro q w_8 ⟨hs_13, hq⟩
        show CW _ _ _ _ [(0, v), (14, (.int .i64 i)), (17, (.int .i64 ((m - q) : Nat)))] _
        refine .seq <| .seq <| .region <| .m rfl rfl <| .m rfl rfl <| .e rfl (.gtrN rfl rfl) <| .nil <| .condD rfl (fun hc_8 => ?_) (fun hc_8 => ?_)
        · refine .skip <| .seq <| .block ?_
          have hlq : (shD l m q).length = l.length := shD_length ..
          obtain ⟨x1, hx1⟩ : ∃ x1, (shD l m q)[(m - q)]? = some x1 := ⟨_, List.getElem?_eq_getElem (by omega)⟩
          obtain ⟨x2, hx2⟩ : ∃ x2, (shD l m q)[((m - q) - 1)]? = some x2 := ⟨_, List.getElem?_eq_getElem (by omega)⟩
          have hshp_2 := (hs_13.rdL (E := encIt) 0 rfl).shp (by decide)
          refine .draw2 (fun w' => Sat w0 ([cL v 149 (encIt) (shD l m q)] ++ cs) w') (fun w' => Sat w0 ([] ++ cs) w') 15 (.free 0 (.free 1 (.loose 2 (.loose 3 (.loose 4 (.free 5 (.free 6 (.free 7 (.free 8 (.free 9 (.loose 10 (.loose 11 (.loose 12 (.free 13 (.free 14 (.bar 15 (.free 16 (.one 17 .fin)))))))))))))))))) (fun w' h => h.sub ((.cons _ (.refl _)))) mixed (by kernel_rfl) ?_
          have hs_14 := hs_13.drew
          refine .m rfl rfl hs_14 <| .m rfl rfl hs_14 <| .loose rfl rfl rfl (fun w' hS' => .move rfl) hs_14 <| .loose rfl rfl rfl (fun w' hS' => .move rfl) hs_14 <| .loose rfl rfl rfl (fun w' hS' => .subI (b := 1) rfl rfl (by omega) (by omega)) hs_14 <| .m rfl rfl hs_14 <| .m rfl rfl hs_14 <| .e rfl (fun w' hS' => .subI (b := 1) rfl rfl (by omega) (by omega)) hs_14 <| .e rfl (fun w' hS' => .idxL (E := encIt) sl146 rfl rfl (hS'.rdL 0 rfl) (by omega)) hs_14 <| .e rfl (fun w' hS' => .ldAgg (E := encIt) agg149 rfl (hS'.rdL 0 rfl) hx2 (by decide)) hs_14 <| .loose rfl rfl rfl (fun w' hS' => .move rfl) hs_14 <| .loose rfl rfl rfl (fun w' hS' => .move rfl) hs_14 <| .loose rfl rfl rfl (fun w' hS' => .idxS sl146 rfl rfl hshp_2 (by omega)) hs_14 <| .e rfl (fun w' hS' => .ldAgg (E := encIt) agg149 rfl (hS'.rdL 0 rfl) hx1 (by decide)) hs_14 <| .e rfl (fun w' hS' => .idxL (E := encIt) sl146 rfl rfl (hS'.rdL 0 rfl) (by omega)) hs_14 <| .bar rfl rfl rfl (OpE.setAgg (a := x2) 0 agg149 hs_14 rfl rfl rfl (by (try simp only [List.length_set]); omega) (by decide) fun w_9 hs_15 hch_3 => ?_)
          have hS_5 : Sat w0 ([] ++ cs) _ := hs_15.sub ((.cons _ (.refl _)))
          refine ⟨hS_5, ?_⟩
          refine .e rfl (fun w' hS' => .idxS sl146 rfl rfl hshp_2 (by omega)) hS_5 <| .f rfl (.setAgg (a := x1) 0 agg149 hs_15 rfl rfl rfl (by (try simp only [List.length_set]); omega) (by decide) fun w_10 hs_16 hch_4 => ?_)
          have hS_6 : Sat w0 ([] ++ cs) _ := hs_16.sub ((.cons _ (.refl _)))
          refine ⟨hS_6, ?_⟩
          refine .fin ?_
          have hs_17 : Sat w0 ([cL v 149 (encIt) (shD l m (q + 1))] ++ cs) w_10 := by
            have hq : ((shD l m q).set (m - q) x2).set ((m - q) - 1) x1 = shD l m (q + 1) := by rw [shD, sw_of hx1 hx2]
            rw [← hq]; exact hs_16
          refine .region <| .m rfl rfl <| .e rfl (.subI (b := 1) rfl rfl (by omega) (by omega)) <| .s rfl rfl <| .nil ?_
          exact ⟨q + 1, ⟨rfl, rfl, congrArg some (congrArg (Value.int .i64) (by omega)), trivial⟩, ⟨hs_17, by omega⟩, (show ((m - i) - (q + 1)) < ((m - i) - q) from by omega)⟩
        · refine .exit0 <| .ret ?_
          show PostK _ _ _ _ _ _
          refine post0 rfl ?_
          obtain ⟨M, hM, hMs, hMt⟩ := sym_right (key := key) (l := l) (A := A) (B := B) (L := L) (x := x0) (by rw [hl, hRx]) ha (i := i) hm (by omega) (by omega) hlo (by rw [show j = i by omega] at hhi; exact hhi) hL
          have hs_18 : Sat w0 ([cL v 149 (encIt) (A ++ M ++ B)] ++ cs) w_8 := by
            have hq : shD l m q = A ++ M ++ B := by rw [show q = m - i by omega, hM]
            rw [← hq]; exact hs_13
          exact ⟨rfl, M, hs_18, hMs, by rw [hRx]; exact hMt⟩
    · refine .skip <| .seq <| .region <| .m rfl rfl <| .m rfl rfl <| .e rfl (.addI rfl rfl (by omega)) <| .e rfl (.convK (by rw [Tryz.underlying3]; rfl) Tryz.underlying88 rfl (wrap_u rfl (by (try simp only [IntKind.bits]); omega))) <| .e rfl (.shrN (b := 1) rfl rfl (by (try simp only [IntKind.bits]); omega)) <| .e rfl (.convK (by rw [Tryz.underlying88]; rfl) Tryz.underlying3 rfl (wrap_i (by omega))) <| .s rfl rfl <| .nil <| .seq ?_
      obtain ⟨mid, hmid⟩ : ∃ q, q = (a + b) / 2 ^ 1 := ⟨_, rfl⟩
      refine .weaken [(0, _), (1, _), (2, _), (3, _), (4, _), (18, (.int .i64 mid)), (25, _), (26, _), (27, _), (28, _), (77, _), (78, _), (79, _), (80, _), (129, _), (130, _), (131, _), (132, _), (133, _), (134, _)] ⟨rfl, rfl, rfl, rfl, rfl, congrArg some (by rw [hmid]), rfl, rfl, rfl, rfl, rfl, rfl, rfl, rfl, rfl, rfl, rfl, rfl, rfl, rfl, trivial⟩ <| .region <| .m rfl rfl <| .m rfl rfl <| .e rfl (.addI rfl rfl (by omega)) <| .s rfl rfl <| .nil <| .seq <| .region <| .s rfl rfl <| .s rfl rfl <| .nil <| .seqMid (fun L' w' => ∃ (st0 : Nat) (r0 : Nat), Weak [(0, v), (1, (.int .i64 a)), (2, (.int .i64 m)), (3, (.int .i64 b)), (4, (.func (.func fi) #[] cap)), (18, (.int .i64 mid)), (19, (.int .i64 ((mid + m) : Nat))), (20, (.int .i64 st0)), (21, (.int .i64 r0))] L' ∧ Sat w0 ([cL v 149 (encIt) (l)] ++ cs) w' ∧ (a ≤ st0) ∧ (st0 ≤ r0) ∧ (r0 ≤ mid) ∧ (r0 ≤ m) ∧ (mid + m - st0 ≤ b) ∧ (st0 = a ∨ mid + m - st0 = b) ∧ (r0 = mid ∨ r0 = m)) ?_ ?_
      · refine .seq <| .region <| .m rfl rfl <| .m rfl rfl <| .e rfl (.gtrN rfl rfl) <| .nil <| .condD rfl (fun hc_9 => ?_) (fun hc_9 => ?_)
        · refine .seq <| .region <| .m rfl rfl <| .m rfl rfl <| .e rfl (.subI rfl rfl (by omega) (by omega)) <| .s rfl rfl <| .nil <| .region <| .m rfl rfl <| .s rfl rfl <| .nil ?_
          exact ⟨((mid + m) - b), mid, ⟨rfl, rfl, rfl, rfl, rfl, rfl, rfl, rfl, rfl, trivial⟩, hs, by omega, by omega, by omega, by omega, by omega, .inr (by omega), .inl rfl⟩
        · refine .seq <| .region <| .m rfl rfl <| .s rfl rfl <| .nil <| .region <| .m rfl rfl <| .s rfl rfl <| .nil ?_
          exact ⟨a, m, ⟨rfl, rfl, rfl, rfl, rfl, rfl, rfl, rfl, rfl, trivial⟩, hs, by omega, by omega, by omega, by omega, by omega, .inl rfl, .inr rfl⟩
      · rintro L' w_11 ⟨st0, r0, hw_1, hs_19, has0, hsr0, hrm0, hrm1, hnb0, hst0, hr0⟩
        refine .weaken _ hw_1 <| .seq <| .region <| .m rfl rfl <| .e rfl (.subI (b := 1) rfl rfl (by omega) (by omega)) <| .s rfl rfl <| .nil <| .seq <| .block <| .loop (α := Nat × Nat) (fun (st, r) => [(0, v), (1, (.int .i64 a)), (2, (.int .i64 m)), (3, (.int .i64 b)), (4, (.func (.func fi) #[] cap)), (18, (.int .i64 mid)), (19, (.int .i64 ((mid + m) : Nat))), (20, (.int .i64 st)), (21, (.int .i64 r)), (22, (.int .i64 (((mid + m) - 1) : Nat)))]) (fun (st, r) w' => Sat w0 ([cL v 149 (encIt) (l)] ++ cs) w' ∧ (st0 ≤ st) ∧ (st ≤ r) ∧ (r ≤ r0) ∧ (st0 < st → ∀ y z, l[mid + m - 1 - (st - 1)]? = some y → l[st - 1]? = some z → key z ≤ key y) ∧ (r < r0 → ∀ y z, l[mid + m - 1 - r]? = some y → l[r]? = some z → key y < key z)) (fun (st, r) => r - st) (st0, r0) ⟨rfl, rfl, rfl, rfl, rfl, rfl, rfl, rfl, rfl, rfl, trivial⟩ ⟨hs_19, Nat.le_refl _, hsr0, Nat.le_refl _, fun h => absurd h (by omega), fun h => absurd h (by omega)⟩ ?_
        rintro ⟨st, r⟩ w_12 ⟨hs_20, hss, hsr, hrr, hlo, hhi⟩
        show CW _ _ _ _ [(0, v), (1, (.int .i64 a)), (2, (.int .i64 m)), (3, (.int .i64 b)), (4, (.func (.func fi) #[] cap)), (18, (.int .i64 mid)), (19, (.int .i64 ((mid + m) : Nat))), (20, (.int .i64 st)), (21, (.int .i64 r)), (22, (.int .i64 (((mid + m) - 1) : Nat)))] _
        refine .seq <| .seq <| .region <| .m rfl rfl <| .m rfl rfl <| .e rfl (.lssN rfl rfl) <| .nil <| .condD rfl (fun hc_10 => ?_) (fun hc_10 => ?_)
        · refine .skip <| .block <| .seq <| .region <| .m rfl rfl <| .m rfl rfl <| .e rfl (.addI rfl rfl (by omega)) <| .e rfl (.convK (by rw [Tryz.underlying3]; rfl) Tryz.underlying88 rfl (wrap_u rfl (by (try simp only [IntKind.bits]); omega))) <| .e rfl (.shrN (b := 1) rfl rfl (by (try simp only [IntKind.bits]); omega)) <| .e rfl (.convK (by rw [Tryz.underlying88]; rfl) Tryz.underlying3 rfl (wrap_i (by omega))) <| .s rfl rfl <| .nil <| .seq ?_
          obtain ⟨h, hh⟩ : ∃ q, q = (st + r) / 2 ^ 1 := ⟨_, rfl⟩
          refine .weaken [(0, _), (1, _), (2, _), (3, _), (4, _), (18, _), (19, _), (20, _), (21, _), (22, _), (23, (.int .i64 h)), (149, _), (150, _), (151, _), (152, _), (153, _), (154, _), (155, _), (156, _), (157, _)] ⟨rfl, rfl, rfl, rfl, rfl, rfl, rfl, rfl, rfl, rfl, congrArg some (by rw [hh]), rfl, rfl, rfl, rfl, rfl, rfl, rfl, rfl, rfl, trivial⟩ ?_
          obtain ⟨y, hy⟩ : ∃ y, (l)[(((mid + m) - 1) - h)]? = some y := ⟨_, List.getElem?_eq_getElem (by omega)⟩
          obtain ⟨z, hz⟩ : ∃ z, (l)[h]? = some z := ⟨_, List.getElem?_eq_getElem (by omega)⟩
          refine .draw (fun w' => Sat w0 ([cL v 149 (encIt) (l)] ++ cs) w') (.free 0 (.free 1 (.free 2 (.free 3 (.free 4 (.free 5 (.free 6 (.free 7 (.free 8 (.free 9 (.free 10 (.one 11 (.free 12 (.free 13 .fin)))))))))))))) mixed (by kernel_rfl) ?_
          have hs_21 := hs_20.drew
          refine .m rfl rfl hs_21 <| .m rfl rfl hs_21 <| .m rfl rfl hs_21 <| .m rfl rfl hs_21 <| .e rfl (fun w' hS' => .subI rfl rfl (by omega) (by omega)) hs_21 <| .e rfl (fun w' hS' => .idxL (E := encIt) sl146 rfl rfl (hS'.rdL 0 rfl) (by omega)) hs_21 <| .e rfl (fun w' hS' => .ldAgg (E := encIt) agg149 rfl (hS'.rdL 0 rfl) hy (by decide)) hs_21 <| .m rfl rfl hs_21 <| .m rfl rfl hs_21 <| .e rfl (fun w' hS' => .idxL (E := encIt) sl146 rfl rfl (hS'.rdL 0 rfl) (by omega)) hs_21 <| .e rfl (fun w' hS' => .ldAgg (E := encIt) agg149 rfl (hS'.rdL 0 rfl) hz (by decide)) hs_21 <| .f rfl (.callv hE rfl rfl ((hcmp _ _ hs_21 (y) (z) (hD _ (mem_of_get hy)) (hD _ (mem_of_get hz))).mono fun r_3 w_13 h_3 => ?_))
          obtain ⟨z_3, rfl, hz_3, hp_3⟩ := h_3
          have hs_22 : Sat w0 ([cL v 149 (encIt) (l)] ++ cs) _ := (hs_21.adds hp_3).mid
          have hS_7 : Sat w0 ([_] ++ cs) _ := hs_22.sub ((.cons_cons _ (.refl _)))
          refine ⟨hS_7, ?_⟩
          refine .e rfl (fun w' hS' => .lssCmp rfl rfl hz_3) hS_7 <| .e rfl (fun w' hS' => .notP rfl) hS_7 <| .fin <| .condD rfl (fun hc_11 => ?_) (fun hc_11 => ?_)
          · refine .region <| .m rfl rfl <| .e rfl (.addI (b := 1) rfl rfl (by omega)) <| .s rfl rfl <| .nil ?_
            exact ⟨(h + 1, r), ⟨rfl, rfl, rfl, rfl, rfl, rfl, rfl, rfl, rfl, rfl, trivial⟩, ⟨hs_22, by omega, by omega, by omega, fun _ y' z' hy' hz' => by rw [Nat.add_sub_cancel] at hy' hz'; rw [hy] at hy'; rw [hz] at hz'; cases hy'; cases hz'; omega, hhi⟩, (show ((r) - (h + 1)) < (r - st) from by omega)⟩
          · refine .region <| .m rfl rfl <| .s rfl rfl <| .nil ?_
            exact ⟨(st, h), ⟨rfl, rfl, rfl, rfl, rfl, rfl, rfl, rfl, rfl, rfl, trivial⟩, ⟨hs_22, by omega, by omega, by omega, hlo, fun _ y' z' hy' hz' => by rw [hy] at hy'; rw [hz] at hz'; cases hy'; cases hz'; omega⟩, (show ((h) - (st)) < (r - st) from by omega)⟩
        · refine .exit0 <| .seq <| .region <| .m rfl rfl <| .m rfl rfl <| .e rfl (.subI rfl rfl (by omega) (by omega)) <| .s rfl rfl <| .nil ?_
          obtain ⟨L1, L2, R1, R2, hLs, hRs, hL1, hL2, hR1, hR2, hne, hle⟩ := sym_gen (key := key) hl ha hm hb hL hR (by omega) (by omega) (by omega) (by omega) hst0 hr0 hlo (by rw [show r = st by omega] at hhi; exact hhi) (by omega) (by omega)
          have hLx : L.length = L1.length + L2.length := by rw [hLs, List.length_append]
          have hRx : R.length = R1.length + R2.length := by rw [hRs, List.length_append]
          have hll : l.length = A.length + L.length + R.length + B.length := by rw [hl]; simp only [List.length_append]
          have hs1 : Srt key L1 := by rw [hLs] at hL; exact hL.left
          have hs2 : Srt key L2 := by rw [hLs] at hL; exact hL.right
          have hs3 : Srt key R1 := by rw [hRs] at hR; exact hR.left
          have hs4 : Srt key R2 := by rw [hRs] at hR; exact hR.right
          have hp0 : ∀ x, x ∈ A ++ L1 ++ R1 ++ (L2 ++ R2 ++ B) → D x := fun x hx => hD x (by rw [hl, hLs, hRs]; simp only [List.mem_append] at hx ⊢; grind)
          refine .seqMid (fun L' w' => Weak [(0, v), (1, (.int .i64 a)), (2, (.int .i64 m)), (3, (.int .i64 b)), (4, (.func (.func fi) #[] cap)), (18, (.int .i64 mid)), (20, (.int .i64 st)), (24, (.int .i64 (((mid + m) - st) : Nat)))] L' ∧ Sat w0 ([cL v 149 (encIt) (A ++ L1 ++ R1 ++ (L2 ++ R2 ++ B))] ++ cs) w') ?_ ?_
          · refine .seq <| .mid (fun L' w' => Weak [(0, v), (1, (.int .i64 a)), (2, (.int .i64 m)), (3, (.int .i64 b)), (4, (.func (.func fi) #[] cap)), (18, (.int .i64 mid)), (19, (.int .i64 ((mid + m) : Nat))), (20, (.int .i64 st)), (21, (.int .i64 r)), (22, (.int .i64 (((mid + m) - 1) : Nat))), (24, (.int .i64 (((mid + m) - st) : Nat))), (151, (.bool (decide (st < r)))), (185, (.bool (decide ((st < m) ∧ (m < ((mid + m) - st))))))] L' ∧ Sat w0 ([cL v 149 (encIt) (l)] ++ cs) w') ?_ ?_
            · refine .region <| .m rfl rfl <| .m rfl rfl <| .e rfl (.lssN rfl rfl) <| .m rfl rfl ?_
              by_cases hg_1 : st < m
              · refine .yes rfl rfl rfl (decide_eq_true hg_1) <| .m rfl rfl <| .yes rfl rfl rfl (decide_eq_true hg_1) <| .m rfl rfl <| .yes rfl rfl rfl (decide_eq_true hg_1) <| .e rfl (.lssN rfl rfl) <| .e rfl (.pickY rfl (decide_eq_true hg_1) rfl) <| .nil ?_
                exact ⟨⟨rfl, rfl, rfl, rfl, rfl, rfl, rfl, rfl, rfl, rfl, rfl, rfl, congrArg some (congrArg Value.bool (by simp [hg_1])), trivial⟩, hs_20⟩
              · refine .no rfl rfl rfl (decide_eq_false hg_1) rfl <| .no rfl rfl rfl (decide_eq_false hg_1) rfl <| .no rfl rfl rfl (decide_eq_false hg_1) rfl <| .e rfl (.pickN rfl (decide_eq_false hg_1) rfl) <| .nil ?_
                exact ⟨⟨rfl, rfl, rfl, rfl, rfl, rfl, rfl, rfl, rfl, rfl, rfl, rfl, congrArg some (congrArg Value.bool (by simp [hg_1])), trivial⟩, hs_20⟩
            · rintro L' w_14 ⟨hw_2, hs_23⟩
              refine .weaken _ hw_2 <| .condD rfl (fun hc_12 => ?_) (fun hc_12 => ?_)
              · have hs_24 : Sat w0 ([cL v 149 (encIt) ((A ++ L1) ++ L2 ++ R1 ++ (R2 ++ B))] ++ cs) w_14 := by
                  have hq : l = (A ++ L1) ++ L2 ++ R1 ++ (R2 ++ B) := by rw [hl, hLs, hRs]; simp
                  rw [← hq]; exact hs_23
                refine .region <| .m rfl rfl <| .m rfl rfl <| .m rfl rfl <| .m rfl rfl <| .m rfl rfl ?_
                have hA_1 : Sat w0 ([cL v 149 (encIt) ((A ++ L1) ++ L2 ++ R1 ++ (R2 ++ B))] ++ ([] ++ cs)) _ := (Sat.order [0] (by decide) hs_24).cut 1
                refine .f rfl (.call ent158 rfl ((rotIt _ _ _ _ _ (A ++ L1) (L2) (R1) (R2 ++ B) (st) (m) (((mid + m) - st)) hA_1 (by rw [List.length_append]; omega) (by omega) (by omega) (by omega) (by omega) (by simp only [List.length_append]; omega)).mono fun r_4 w_15 h_4 => ?_))
                obtain ⟨rfl, hp_4⟩ := h_4
                have hs_25 : Sat w0 ([cL v 149 (encIt) ((A ++ L1) ++ R1 ++ L2 ++ (R2 ++ B))] ++ cs) _ := hp_4
                refine .nil ?_
                have hs_26 : Sat w0 ([cL v 149 (encIt) (A ++ L1 ++ R1 ++ (L2 ++ R2 ++ B))] ++ cs) w_15 := by
                  have hq : (A ++ L1) ++ R1 ++ L2 ++ (R2 ++ B) = A ++ L1 ++ R1 ++ (L2 ++ R2 ++ B) := by simp
                  rw [← hq]; exact hs_25
                exact ⟨⟨rfl, rfl, rfl, rfl, rfl, rfl, rfl, rfl, trivial⟩, hs_26⟩
              · refine .skip ?_
                have hs_27 : Sat w0 ([cL v 149 (encIt) (A ++ L1 ++ R1 ++ (L2 ++ R2 ++ B))] ++ cs) w_14 := by
                  have hq : l = A ++ L1 ++ R1 ++ (L2 ++ R2 ++ B) := by rw [hl, hLs, hRs]; (rcases (show L2.length = 0 ∨ R1.length = 0 by omega) with h0 | h0) <;> simp [List.eq_nil_of_length_eq_zero h0]
                  rw [← hq]; exact hs_23
                exact ⟨⟨rfl, rfl, rfl, rfl, rfl, rfl, rfl, rfl, trivial⟩, hs_27⟩
          · rintro L' w_16 ⟨hw_3, hs_28⟩
            refine .weaken _ hw_3 <| .seqMid (fun L' w' => ∃ (M1 : List It), Weak [(0, v), (1, (.int .i64 a)), (2, (.int .i64 m)), (3, (.int .i64 b)), (4, (.func (.func fi) #[] cap)), (18, (.int .i64 mid)), (20, (.int .i64 st)), (24, (.int .i64 (((mid + m) - st) : Nat)))] L' ∧ Sat w0 ([cL v 149 (encIt) (A ++ M1 ++ (L2 ++ R2 ++ B))] ++ cs) w' ∧ (Srt key M1) ∧ (Stb key (L1 ++ R1) M1)) ?_ ?_
            · refine .seq <| .mid (fun L' w' => Weak [(0, v), (1, (.int .i64 a)), (2, (.int .i64 m)), (3, (.int .i64 b)), (4, (.func (.func fi) #[] cap)), (18, (.int .i64 mid)), (20, (.int .i64 st)), (24, (.int .i64 (((mid + m) - st) : Nat))), (199, (.bool (decide ((a < st) ∧ (st < mid)))))] L' ∧ Sat w0 ([cL v 149 (encIt) (A ++ L1 ++ R1 ++ (L2 ++ R2 ++ B))] ++ cs) w') ?_ ?_
              · refine .region <| .m rfl rfl <| .m rfl rfl <| .e rfl (.lssN rfl rfl) <| .m rfl rfl ?_
                by_cases hg_2 : a < st
                · refine .yes rfl rfl rfl (decide_eq_true hg_2) <| .m rfl rfl <| .yes rfl rfl rfl (decide_eq_true hg_2) <| .m rfl rfl <| .yes rfl rfl rfl (decide_eq_true hg_2) <| .e rfl (.lssN rfl rfl) <| .e rfl (.pickY rfl (decide_eq_true hg_2) rfl) <| .nil ?_
                  exact ⟨⟨rfl, rfl, rfl, rfl, rfl, rfl, rfl, rfl, congrArg some (congrArg Value.bool (by simp [hg_2])), trivial⟩, hs_28⟩
                · refine .no rfl rfl rfl (decide_eq_false hg_2) rfl <| .no rfl rfl rfl (decide_eq_false hg_2) rfl <| .no rfl rfl rfl (decide_eq_false hg_2) rfl <| .e rfl (.pickN rfl (decide_eq_false hg_2) rfl) <| .nil ?_
                  exact ⟨⟨rfl, rfl, rfl, rfl, rfl, rfl, rfl, rfl, congrArg some (congrArg Value.bool (by simp [hg_2])), trivial⟩, hs_28⟩
              · rintro L' w_17 ⟨hw_4, hs_29⟩
                refine .weaken _ hw_4 <| .condD rfl (fun hc_13 => ?_) (fun hc_13 => ?_)
                · refine .region <| .m rfl rfl <| .m rfl rfl <| .m rfl rfl <| .m rfl rfl <| .m rfl rfl ?_
                  have hA_2 : Sat w0 ([cL v 149 (encIt) (A ++ L1 ++ R1 ++ (L2 ++ R2 ++ B))] ++ ([] ++ cs)) _ := (Sat.order [0] (by decide) hs_29).cut 1
                  refine .f rfl (.call ent156 rfl ((IH _ (A) (L1) (R1) (L2 ++ R2 ++ B) (a) (st) (mid) (by omega) (hA_2) (ha) (by omega) (by omega) (hs1) (hs3) (by omega) (by omega) (hp0) (by simp only [List.length_append]; omega)).mono fun r_5 w_18 h_5 => ?_))
                  obtain ⟨rfl, M1, hp_5, hM1, hS1⟩ := h_5
                  have hs_30 : Sat w0 ([cL v 149 (encIt) (A ++ M1 ++ (L2 ++ R2 ++ B))] ++ cs) _ := hp_5
                  refine .nil ?_
                  exact ⟨M1, ⟨rfl, rfl, rfl, rfl, rfl, rfl, rfl, rfl, trivial⟩, hs_30, hM1, hS1⟩
                · refine .skip ?_
                  have hs_31 : Sat w0 ([cL v 149 (encIt) (A ++ (L1 ++ R1) ++ (L2 ++ R2 ++ B))] ++ cs) w_17 := by
                    have hq : A ++ L1 ++ R1 ++ (L2 ++ R2 ++ B) = A ++ (L1 ++ R1) ++ (L2 ++ R2 ++ B) := by simp
                    rw [← hq]; exact hs_29
                  exact ⟨L1 ++ R1, ⟨rfl, rfl, rfl, rfl, rfl, rfl, rfl, rfl, trivial⟩, hs_31, Srt.or (by omega) hs1 hs3, Stb.refl _⟩
            · rintro L' w_19 ⟨M1, hw_5, hs_32, hM1, hS1⟩
              refine .weaken _ hw_5 <| .seq <| .mid (fun L' w' => Weak [(0, v), (1, (.int .i64 a)), (2, (.int .i64 m)), (3, (.int .i64 b)), (4, (.func (.func fi) #[] cap)), (18, (.int .i64 mid)), (20, (.int .i64 st)), (24, (.int .i64 (((mid + m) - st) : Nat))), (213, (.bool (decide ((mid < ((mid + m) - st)) ∧ (((mid + m) - st) < b)))))] L' ∧ Sat w0 ([cL v 149 (encIt) (A ++ M1 ++ (L2 ++ R2 ++ B))] ++ cs) w') ?_ ?_
              · refine .region <| .m rfl rfl <| .m rfl rfl <| .e rfl (.lssN rfl rfl) <| .m rfl rfl ?_
                by_cases hg_3 : mid < ((mid + m) - st)
                · refine .yes rfl rfl rfl (decide_eq_true hg_3) <| .m rfl rfl <| .yes rfl rfl rfl (decide_eq_true hg_3) <| .m rfl rfl <| .yes rfl rfl rfl (decide_eq_true hg_3) <| .e rfl (.lssN rfl rfl) <| .e rfl (.pickY rfl (decide_eq_true hg_3) rfl) <| .nil ?_
                  exact ⟨⟨rfl, rfl, rfl, rfl, rfl, rfl, rfl, rfl, congrArg some (congrArg Value.bool (by simp [hg_3])), trivial⟩, hs_32⟩
                · refine .no rfl rfl rfl (decide_eq_false hg_3) rfl <| .no rfl rfl rfl (decide_eq_false hg_3) rfl <| .no rfl rfl rfl (decide_eq_false hg_3) rfl <| .e rfl (.pickN rfl (decide_eq_false hg_3) rfl) <| .nil ?_
                  exact ⟨⟨rfl, rfl, rfl, rfl, rfl, rfl, rfl, rfl, congrArg some (congrArg Value.bool (by simp [hg_3])), trivial⟩, hs_32⟩
              · rintro L' w_20 ⟨hw_6, hs_33⟩
                refine .weaken _ hw_6 <| .condD rfl (fun hc_14 => ?_) (fun hc_14 => ?_)
                · have hs_34 : Sat w0 ([cL v 149 (encIt) ((A ++ M1) ++ L2 ++ R2 ++ B)] ++ cs) w_20 := by
                    have hq : A ++ M1 ++ (L2 ++ R2 ++ B) = (A ++ M1) ++ L2 ++ R2 ++ B := by simp
                    rw [← hq]; exact hs_33
                  refine .region <| .m rfl rfl <| .m rfl rfl <| .m rfl rfl <| .m rfl rfl <| .m rfl rfl ?_
                  have hA_3 : Sat w0 ([cL v 149 (encIt) ((A ++ M1) ++ L2 ++ R2 ++ B)] ++ ([] ++ cs)) _ := (Sat.order [0] (by decide) hs_34).cut 1
                  refine .f rfl (.call ent156 rfl ((IH _ (A ++ M1) (L2) (R2) (B) (mid) (((mid + m) - st)) (b) (by omega) (hA_3) (by have := hS1.length; simp only [List.length_append] at this ⊢; omega) (by omega) (by omega) (hs2) (hs4) (by omega) (by omega) (fun x hx => hp0 x (by have := hS1.mem (x := x); simp only [List.mem_append] at hx this ⊢; grind)) (by have := hS1.length; simp only [List.length_append] at this ⊢; omega)).mono fun r_6 w_21 h_6 => ?_))
                  obtain ⟨rfl, M2, hp_6, hM2, hS2⟩ := h_6
                  have hs_35 : Sat w0 ([cL v 149 (encIt) ((A ++ M1) ++ M2 ++ B)] ++ cs) _ := hp_6
                  refine .nil ?_
                  show PostK _ _ _ _ _ _
                  refine post0 rfl ?_
                  obtain ⟨hf1, hf2⟩ := sym_fin hLs hRs hne hle hM1 hM2 hS1 hS2
                  have hs_36 : Sat w0 ([cL v 149 (encIt) (A ++ (M1 ++ M2) ++ B)] ++ cs) w_21 := by
                    have hq : (A ++ M1) ++ M2 ++ B = A ++ (M1 ++ M2) ++ B := by simp
                    rw [← hq]; exact hs_35
                  exact ⟨rfl, _, hs_36, hf1, hf2⟩
                · refine .skip ?_
                  show PostK _ _ _ _ _ _
                  refine post0 rfl ?_
                  obtain ⟨hf1, hf2⟩ := sym_fin hLs hRs hne hle hM1 (Srt.or (by omega) hs2 hs4) hS1 (Stb.refl _)
                  have hs_37 : Sat w0 ([cL v 149 (encIt) (A ++ (M1 ++ (L2 ++ R2)) ++ B)] ++ cs) w_20 := by
                    have hq : A ++ M1 ++ (L2 ++ R2 ++ B) = A ++ (M1 ++ (L2 ++ R2)) ++ B := by simp
                    rw [← hq]; exact hs_33
                  exact ⟨rfl, _, hs_37, hf1, hf2⟩
theorem symIt (w0 w : World) (cs : List Chunk) (v : Value) (key : It → Nat) (D : It → Prop) (fi : FuncId) (cap : Array Value) (hE : Enters Tryz.prog fi) (hcmp : CmpOk Tryz.prog fi cap encIt.ag key D w0 cs) (A L R B : List It) (a m b : Nat) (hs : Sat w0 ([cL v 149 (encIt) (A ++ L ++ R ++ B)] ++ cs) w) (ha : a = A.length) (hm : m = a + L.length) (hb : b = m + R.length) (hL : Srt key L) (hR : Srt key R) (hL0 : 0 < L.length) (hR0 : 0 < R.length) (hD : ∀ x ∈ A ++ L ++ R ++ B, D x) (hn : (A ++ L ++ R ++ B).length ≤ 1000000000000) :
    CallsV Tryz.prog 156 [v, (.int .i64 (a : Int)), (.int .i64 (m : Int)), (.int .i64 (b : Int)), (.func (.func fi) #[] cap)] w (fun r w' => r = .tuple #[] ∧ ∃ M, Sat w0 ([cL v 149 (encIt) (A ++ M ++ B)] ++ cs) w' ∧ Srt key M ∧ Stb key (L ++ R) M) := by
  suffices H : ∀ k (w : World) (A L R B : List It) (a m b : Nat), L.length + R.length = k → Sat w0 ([cL v 149 (encIt) (A ++ L ++ R ++ B)] ++ cs) w → a = A.length → m = a + L.length → b = m + R.length → Srt key L → Srt key R → 0 < L.length → 0 < R.length → (∀ x ∈ A ++ L ++ R ++ B, D x) → (A ++ L ++ R ++ B).length ≤ 1000000000000 → CallsV Tryz.prog 156 [v, (.int .i64 (a : Int)), (.int .i64 (m : Int)), (.int .i64 (b : Int)), (.func (.func fi) #[] cap)] w (fun r w' => r = .tuple #[] ∧ ∃ M, Sat w0 ([cL v 149 (encIt) (A ++ M ++ B)] ++ cs) w' ∧ Srt key M ∧ Stb key (L ++ R) M) from
    H _ w A L R B a m b rfl hs ha hm hb hL hR hL0 hR0 hD hn
  intro k
  induction k using Nat.strongRecOn with
  | _ k ih =>
    intro w A L R B a m b hk hs ha hm hb hL hR hL0 hR0 hD hn
    exact symIt_step w0 w cs v key D fi cap hE hcmp k (fun w A L R B a m b h1 => ih _ h1 w A L R B a m b rfl) A L R B _ rfl a m b hk.symm hs ha hm hb hL hR hL0 hR0 hD hn
theorem stbIt (w0 w : World) (cs : List Chunk) (v : Value) (l : List It) (n : Nat) (key : It → Nat) (D : It → Prop) (fi : FuncId) (cap : Array Value) (hE : Enters Tryz.prog fi) (hcmp : CmpOk Tryz.prog fi cap encIt.ag key D w0 cs) (hs : Sat w0 ([cL v 149 (encIt) (l)] ++ cs) w) (hD : ∀ x ∈ l, D x) (hnl : n = l.length) (hn : l.length ≤ 1000000000000) :
    CallsV Tryz.prog 150 [v, (.int .i64 n), (.func (.func fi) #[] cap)] w fun r w' => r = .tuple #[] ∧ Sat w0 ([cL v 149 (encIt) (ssort key l)] ++ cs) w' := by
  refine callsV_of Tryz.func150 rfl rfl ?_
  refine .seq <| .region <| .s rfl rfl <| .nil <| .seq <| .region <| .m rfl rfl <| .s rfl rfl <| .s rfl rfl <| .nil <| .seq <| .block <| .loop (α := List It × List It) (fun (Pre, Suf) => [(0, v), (1, (.int .i64 n)), (2, (.func (.func fi) #[] cap)), (6, (.int .i64 (20 : Nat))), (7, (.int .i64 Pre.length)), (8, (.int .i64 ((Pre.length + 20) : Nat)))]) (fun (Pre, Suf) w' => Sat w0 ([cL v 149 (encIt) (Pre ++ Suf)] ++ cs) w' ∧ (Full key 20 Pre) ∧ (Stb key l (Pre ++ Suf))) (fun (Pre, Suf) => Suf.length) ([], l) ⟨rfl, rfl, rfl, rfl, rfl, rfl, trivial⟩ ⟨hs, .nil, Stb.refl _⟩ ?_
  rintro ⟨Pre, Suf⟩ w_1 ⟨hs_1, hF, hT⟩
  show CW _ _ _ _ [(0, v), (1, (.int .i64 n)), (2, (.func (.func fi) #[] cap)), (6, (.int .i64 (20 : Nat))), (7, (.int .i64 Pre.length)), (8, (.int .i64 ((Pre.length + 20) : Nat)))] _
  have hlT := hT.length
  rw [List.length_append] at hlT
  refine .seq <| .seq <| .region <| .m rfl rfl <| .m rfl rfl <| .e rfl (.leqN rfl rfl) <| .nil <| .condD rfl (fun hc_1 => ?_) (fun hc_1 => ?_)
  · refine .skip <| .block <| .seq <| .region <| .m rfl rfl <| .m rfl rfl <| .m rfl rfl <| .m rfl rfl ?_
    have hA_1 : Sat w0 ([cL v 149 (encIt) (Pre ++ Suf)] ++ ([] ++ cs)) _ := (Sat.order [0] (by decide) hs_1).cut 1
    refine .f rfl (.call ent155 rfl ((insIt w0 _ cs v (Pre ++ Suf) (Pre.length) ((Pre.length + 20)) key D fi cap hE hcmp hA_1 (fun x hx => hD x (hT.mem.2 hx)) (by simp) (by rw [List.length_append]; omega) (by rw [List.length_append]; omega)).mono fun r_1 w_2 h_1 => ?_))
    obtain ⟨rfl, hp_1⟩ := h_1
    have hs_2 : Sat w0 ([cL v 149 (encIt) (insS key Pre.length (Pre ++ Suf) ((Pre.length + 20) - Pre.length - 1))] ++ cs) _ := hp_1
    refine .nil ?_
    obtain ⟨S', hS1, hS2, hS3, hS4⟩ := blk_step hF hT (by omega)
    have hs_3 : Sat w0 ([cL v 149 (encIt) (Pre ++ S' ++ Suf.drop 20)] ++ cs) w_2 := by
      have hq : insS key Pre.length (Pre ++ Suf) ((Pre.length + 20) - Pre.length - 1) = Pre ++ S' ++ Suf.drop 20 := hS1
      rw [← hq]; exact hs_2
    refine .seq <| .region <| .m rfl rfl <| .s rfl rfl <| .nil <| .region <| .m rfl rfl <| .m rfl rfl <| .e rfl (.addI (b := 20) rfl rfl (by omega)) <| .s rfl rfl <| .nil ?_
    exact ⟨(Pre ++ S', Suf.drop 20), ⟨rfl, rfl, rfl, rfl, congrArg some (congrArg (Value.int .i64) (by simp [hS4])), congrArg some (congrArg (Value.int .i64) (by simp [hS4])), trivial⟩, ⟨hs_3, hS2, hS3⟩, (show ((Suf.drop 20).length) < (Suf.length) from by simp only [List.length_drop]; omega)⟩
  · refine .exit0 <| .seq <| .region <| .m rfl rfl <| .m rfl rfl <| .m rfl rfl <| .m rfl rfl ?_
    have hA_2 : Sat w0 ([cL v 149 (encIt) (Pre ++ Suf)] ++ ([] ++ cs)) _ := (Sat.order [0] (by decide) hs_1).cut 1
    refine .f rfl (.call ent155 rfl ((insIt w0 _ cs v (Pre ++ Suf) (Pre.length) (n) key D fi cap hE hcmp hA_2 (fun x hx => hD x (hT.mem.2 hx)) (by simp) (by rw [List.length_append]; omega) (by rw [List.length_append]; omega)).mono fun r_2 w_3 h_2 => ?_))
    obtain ⟨rfl, hp_2⟩ := h_2
    have hs_4 : Sat w0 ([cL v 149 (encIt) (insS key Pre.length (Pre ++ Suf) (n - Pre.length - 1))] ++ cs) _ := hp_2
    refine .nil ?_
    obtain ⟨hB0, hT0⟩ := blk_end (n := n) hF hT (by omega) hnl
    refine .block <| .loop (α := Nat × List It) (fun (bs, cur) => [(0, v), (1, (.int .i64 n)), (2, (.func (.func fi) #[] cap)), (6, (.int .i64 bs))]) (fun (bs, cur) w' => Sat w0 ([cL v 149 (encIt) (cur)] ++ cs) w' ∧ (0 < bs) ∧ (bs ≤ 2000000000020) ∧ (Blks key bs cur) ∧ (Stb key l cur)) (fun (bs, cur) => n - bs) (20, insS key Pre.length (Pre ++ Suf) (n - Pre.length - 1)) ⟨rfl, rfl, rfl, rfl, trivial⟩ ⟨hs_4, by omega, by omega, hB0, hT0⟩ ?_
    rintro ⟨bs, cur⟩ w_4 ⟨hs_5, hbs, hbs2, hB, hTc⟩
    show CW _ _ _ _ [(0, v), (1, (.int .i64 n)), (2, (.func (.func fi) #[] cap)), (6, (.int .i64 bs))] _
    refine .seq <| .seq <| .region <| .m rfl rfl <| .m rfl rfl <| .e rfl (.lssN rfl rfl) <| .nil <| .condD rfl (fun hc_2 => ?_) (fun hc_2 => ?_)
    · refine .skip <| .block <| .seq <| .region <| .m rfl rfl <| .e rfl (.mulI (a := 2) rfl rfl (by omega)) <| .s rfl rfl <| .s rfl rfl <| .nil <| .seq <| .block <| .loop (α := List It × List It) (fun (Pre, Suf) => [(0, v), (1, (.int .i64 n)), (2, (.func (.func fi) #[] cap)), (6, (.int .i64 bs)), (7, (.int .i64 Pre.length)), (8, (.int .i64 ((Pre.length + 2 * bs) : Nat)))]) (fun (Pre, Suf) w' => Sat w0 ([cL v 149 (encIt) (Pre ++ Suf)] ++ cs) w' ∧ (Full key (2 * bs) Pre) ∧ (Blks key bs Suf) ∧ (Stb key l (Pre ++ Suf))) (fun (Pre, Suf) => Suf.length) ([], cur) ⟨rfl, rfl, rfl, rfl, rfl, congrArg some (congrArg (Value.int .i64) (by simp)), trivial⟩ ⟨hs_5, .nil, hB, hTc⟩ ?_
      rintro ⟨Pre, Suf⟩ w_5 ⟨hs_6, hF, hBs, hTi⟩
      show CW _ _ _ _ [(0, v), (1, (.int .i64 n)), (2, (.func (.func fi) #[] cap)), (6, (.int .i64 bs)), (7, (.int .i64 Pre.length)), (8, (.int .i64 ((Pre.length + 2 * bs) : Nat)))] _
      have hlT := hTi.length
      rw [List.length_append] at hlT
      refine .seq <| .seq <| .region <| .m rfl rfl <| .m rfl rfl <| .e rfl (.leqN rfl rfl) <| .nil <| .condD rfl (fun hc_3 => ?_) (fun hc_3 => ?_)
      · refine .skip <| .block <| .seq ?_
        have hlT := hTi.length
        rw [List.length_append] at hlT
        obtain ⟨L, R, B, hSuf, hLl, hRl, hLs, hRs, hBB⟩ := hBs.two (by omega) hbs
        have hs_7 : Sat w0 ([cL v 149 (encIt) (Pre ++ L ++ R ++ B)] ++ cs) w_5 := by
          have hq : Pre ++ Suf = Pre ++ L ++ R ++ B := by rw [hSuf]; simp
          rw [← hq]; exact hs_6
        refine .region <| .m rfl rfl <| .m rfl rfl <| .m rfl rfl <| .m rfl rfl <| .e rfl (.addI rfl rfl (by omega)) <| .m rfl rfl <| .m rfl rfl ?_
        have hA_3 : Sat w0 ([cL v 149 (encIt) (Pre ++ L ++ R ++ B)] ++ ([] ++ cs)) _ := (Sat.order [0] (by decide) hs_7).cut 1
        refine .f rfl (.call ent156 rfl ((symIt w0 _ cs v key D fi cap hE hcmp (Pre) (L) (R) (B) (Pre.length) ((Pre.length + bs)) ((Pre.length + 2 * bs)) (hA_3) (rfl) (by omega) (by omega) (hLs) (hRs) (by omega) (by omega) (fun x hx => hD x (hTi.mem.2 (by rw [hSuf]; simpa using hx))) (by have h := congrArg List.length hSuf; simp only [List.length_append] at h ⊢; omega)).mono fun r_3 w_6 h_3 => ?_))
        obtain ⟨rfl, M, hp_3, hM, hS⟩ := h_3
        have hs_8 : Sat w0 ([cL v 149 (encIt) (Pre ++ M ++ B)] ++ cs) _ := hp_3
        refine .nil ?_
        obtain ⟨hm1, hm2, hm3⟩ := mrg_step hF hTi hSuf hLl hRl hM hS
        refine .seq <| .region <| .m rfl rfl <| .s rfl rfl <| .nil <| .region <| .m rfl rfl <| .m rfl rfl <| .e rfl (.mulI (a := 2) rfl rfl (by omega)) <| .e rfl (.addI rfl rfl (by omega)) <| .s rfl rfl <| .nil ?_
        exact ⟨(Pre ++ M, B), ⟨rfl, rfl, rfl, rfl, congrArg some (congrArg (Value.int .i64) (by simp [hm3])), congrArg some (congrArg (Value.int .i64) (by simp [hm3])), trivial⟩, ⟨hs_8, hm1, hBB, hm2⟩, (show ((B).length) < (Suf.length) from by rw [hSuf]; simp only [List.length_append]; omega)⟩
      · refine .exit0 <| .seq <| .seq <| .region <| .m rfl rfl <| .m rfl rfl <| .e rfl (.addI rfl rfl (by omega)) <| .s rfl rfl <| .nil <| .seq <| .region <| .m rfl rfl <| .m rfl rfl <| .e rfl (.lssN rfl rfl) <| .nil <| .condD rfl (fun hc_4 => ?_) (fun hc_4 => ?_)
        · obtain ⟨L, R, hSuf, hLl, hLs, hRs⟩ := hBs.split (by omega) (by omega)
          have hSufl : Suf.length = L.length + R.length := by rw [hSuf, List.length_append]
          have hs_9 : Sat w0 ([cL v 149 (encIt) (Pre ++ L ++ R ++ [])] ++ cs) w_5 := by
            have hq : Pre ++ Suf = Pre ++ L ++ R ++ [] := by rw [hSuf]; simp
            rw [← hq]; exact hs_6
          refine .region <| .m rfl rfl <| .m rfl rfl <| .m rfl rfl <| .m rfl rfl <| .m rfl rfl ?_
          have hA_4 : Sat w0 ([cL v 149 (encIt) (Pre ++ L ++ R ++ [])] ++ ([] ++ cs)) _ := (Sat.order [0] (by decide) hs_9).cut 1
          refine .f rfl (.call ent156 rfl ((symIt w0 _ cs v key D fi cap hE hcmp (Pre) (L) (R) ([]) (Pre.length) ((Pre.length + bs)) (n) (hA_4) (rfl) (by omega) (by omega) (hLs) (hRs) (by omega) (by omega) (fun x hx => hD x (hTi.mem.2 (by rw [hSuf]; simpa using hx))) (by simp only [List.length_append, List.length_nil]; omega)).mono fun r_4 w_7 h_4 => ?_))
          obtain ⟨rfl, M, hp_4, hM, hS⟩ := h_4
          have hs_10 : Sat w0 ([cL v 149 (encIt) (Pre ++ M ++ ([]))] ++ cs) _ := hp_4
          refine .nil <| .region <| .m rfl rfl <| .e rfl (.mulI (b := 2) rfl rfl (by omega)) <| .s rfl rfl <| .nil ?_
          exact ⟨(bs * 2, Pre ++ M ++ []), ⟨rfl, rfl, rfl, rfl, trivial⟩, ⟨hs_10, by omega, by omega, (mrg_fin hF hTi hSuf (by omega) hM hS).1, (mrg_fin hF hTi hSuf (by omega) hM hS).2⟩, (show (n - (bs * 2)) < (n - bs) from by omega)⟩
        · refine .skip <| .region <| .m rfl rfl <| .e rfl (.mulI (b := 2) rfl rfl (by omega)) <| .s rfl rfl <| .nil ?_
          exact ⟨(bs * 2, Pre ++ Suf), ⟨rfl, rfl, rfl, rfl, trivial⟩, ⟨hs_6, by omega, by omega, mrg_none hF hBs (by omega), hTi⟩, (show (n - (bs * 2)) < (n - bs) from by omega)⟩
    · refine .exit0 ?_
      show PostK _ _ _ _ _ _
      refine post0 rfl ?_
      have hs_11 : Sat w0 ([cL v 149 (encIt) (ssort key l)] ++ cs) w_4 := by
        have hq : cur = ssort key l := ssort_eq (hB.srt (by have := hTc.length; omega)) hTc
        rw [← hq]; exact hs_5
      exact ⟨rfl, hs_11⟩
theorem srtIt (w0 w : World) (cs : List Chunk) (v : Value) (l : List It) (key : It → Nat) (D : It → Prop) (fi : FuncId) (cap : Array Value) (hE : Enters Tryz.prog fi) (hcmp : CmpOk Tryz.prog fi cap encIt.ag key D w0 cs) (hs : Sat w0 ([cL v 149 (encIt) (l)] ++ cs) w) (hD : ∀ x ∈ l, D x) (hn : l.length ≤ 1000000000000) :
    CallsV Tryz.prog 136 [v, (.func (.func fi) #[] cap)] w fun r w' => r = .tuple #[] ∧ Sat w0 ([cL v 149 (encIt) (ssort key l)] ++ cs) w' := by
  refine callsV_of Tryz.func136 rfl rfl ?_
  refine .region <| .m rfl rfl <| .m rfl rfl <| .e rfl (.lenL Tryz.underlying146 rfl (hs.rdL 0 rfl)) <| .m rfl rfl ?_
  have hA_1 : Sat w0 ([cL v 149 (encIt) (l)] ++ ([] ++ cs)) _ := (Sat.order [0] (by decide) hs).cut 1
  refine .f rfl (.call ent150 rfl ((stbIt w0 _ cs v (l) (l.length) key D fi cap hE hcmp hA_1 hD rfl hn).mono fun r_1 w_1 h_1 => ?_))
  obtain ⟨rfl, hp_1⟩ := h_1
  have hs_1 : Sat w0 ([cL v 149 (encIt) (ssort key (l))] ++ cs) _ := hp_1
  refine .nil ?_
  show PostK _ _ _ _ _ _
  refine post0 rfl ?_
  exact ⟨rfl, hs_1⟩
theorem swrIn (w0 w : World) (cs : List Chunk) (v : Value) (f : Value) (l : List Nat) (a b n : Nat) (hs : Sat w0 ([cL v 3 (encN .i64) (l)] ++ cs) w) (ha : a + n ≤ l.length) (hb : b + n ≤ l.length) (hn : l.length ≤ 1000000000000) :
    CallsV Tryz.prog 161 [v, (.int .i64 a), (.int .i64 b), (.int .i64 n), f] w fun r w' => r = .tuple #[] ∧ Sat w0 ([cL v 3 (encN .i64) (swapN l a b n)] ++ cs) w' := by
  refine callsV_of Tryz.func161 rfl rfl ?_
  refine .seq <| .region <| .s rfl rfl <| .nil <| .block <| .loop (α := Nat) (fun k => [(0, v), (1, (.int .i64 a)), (2, (.int .i64 b)), (3, (.int .i64 n)), (10, (.int .i64 k))]) (fun k w' => Sat w0 ([cL v 3 (encN .i64) (swapN l a b k)] ++ cs) w' ∧ (k ≤ n)) (fun k => n - k) 0 ⟨rfl, rfl, rfl, rfl, rfl, trivial⟩ ⟨hs, Nat.zero_le _⟩ ?_
  rintro k w_1 ⟨hs_1, hk⟩
  show CW _ _ _ _ [(0, v), (1, (.int .i64 a)), (2, (.int .i64 b)), (3, (.int .i64 n)), (10, (.int .i64 k))] _
  refine .seq <| .seq <| .region <| .m rfl rfl <| .m rfl rfl <| .e rfl (.lssN rfl rfl) <| .nil <| .condD rfl (fun hc_1 => ?_) (fun hc_1 => ?_)
  · refine .skip <| .seq <| .block ?_
    have hlk : (swapN l a b k).length = l.length := swapN_length ..
    obtain ⟨x, hx⟩ : ∃ x, (swapN l a b k)[(a + k)]? = some x := ⟨_, List.getElem?_eq_getElem (by omega)⟩
    obtain ⟨y, hy⟩ : ∃ y, (swapN l a b k)[(b + k)]? = some y := ⟨_, List.getElem?_eq_getElem (by omega)⟩
    have hshp_1 := (hs_1.rdL (E := encN .i64) 0 rfl).shp (by decide)
    refine .draw2 (fun w' => Sat w0 ([cL v 3 (encN .i64) (swapN l a b k)] ++ cs) w') (fun w' => Sat w0 ([] ++ cs) w') 21 (.free 0 (.free 1 (.free 2 (.free 3 (.loose 4 (.loose 5 (.loose 6 (.loose 7 (.free 8 (.free 9 (.free 10 (.free 11 (.free 12 (.free 13 (.loose 14 (.loose 15 (.loose 16 (.loose 17 (.loose 18 (.free 19 (.free 20 (.bar 21 (.free 22 (.one 23 .fin)))))))))))))))))))))))) (fun w' h => h.sub ((.cons _ (.refl _)))) mixed (by kernel_rfl) ?_
    have hs_2 := hs_1.drew
    refine .m rfl rfl hs_2 <| .m rfl rfl hs_2 <| .m rfl rfl hs_2 <| .e rfl (fun w' hS' => .addI rfl rfl (by omega)) hs_2 <| .loose rfl rfl rfl (fun w' hS' => .move rfl) hs_2 <| .loose rfl rfl rfl (fun w' hS' => .move rfl) hs_2 <| .loose rfl rfl rfl (fun w' hS' => .move rfl) hs_2 <| .loose rfl rfl rfl (fun w' hS' => .addI rfl rfl (by omega)) hs_2 <| .m rfl rfl hs_2 <| .m rfl rfl hs_2 <| .m rfl rfl hs_2 <| .e rfl (fun w' hS' => .addI rfl rfl (by omega)) hs_2 <| .e rfl (fun w' hS' => .idxL (E := encN .i64) sl27 rfl rfl (hS'.rdL 0 rfl) (by omega)) hs_2 <| .e rfl (fun w' hS' => .ldL (E := encN .i64) scal3 rfl (hS'.rdL 0 rfl) hy (by decide) rfl) hs_2 <| .loose rfl rfl rfl (fun w' hS' => .move rfl) hs_2 <| .loose rfl rfl rfl (fun w' hS' => .move rfl) hs_2 <| .loose rfl rfl rfl (fun w' hS' => .move rfl) hs_2 <| .loose rfl rfl rfl (fun w' hS' => .addI rfl rfl (by omega)) hs_2 <| .loose rfl rfl rfl (fun w' hS' => .idxS sl27 rfl rfl hshp_1 (by omega)) hs_2 <| .e rfl (fun w' hS' => .ldL (E := encN .i64) scal3 rfl (hS'.rdL 0 rfl) hx (by decide) rfl) hs_2 <| .e rfl (fun w' hS' => .idxL (E := encN .i64) sl27 rfl rfl (hS'.rdL 0 rfl) (by omega)) hs_2 <| .bar rfl rfl rfl (OpE.setL (a := y) 0 one3 hs_2 rfl rfl rfl rfl (by (try simp only [List.length_set]); omega) fun w_2 hs_3 hch_1 => ?_)
    have hS_1 : Sat w0 ([] ++ cs) _ := hs_3.sub ((.cons _ (.refl _)))
    refine ⟨hS_1, ?_⟩
    refine .e rfl (fun w' hS' => .idxS sl27 rfl rfl hshp_1 (by omega)) hS_1 <| .f rfl (.setL (a := x) 0 one3 hs_3 rfl rfl rfl rfl (by (try simp only [List.length_set]); omega) fun w_3 hs_4 hch_2 => ?_)
    have hS_2 : Sat w0 ([] ++ cs) _ := hs_4.sub ((.cons _ (.refl _)))
    refine ⟨hS_2, ?_⟩
    refine .fin ?_
    have hs_5 : Sat w0 ([cL v 3 (encN .i64) (swapN l a b (k + 1))] ++ cs) w_3 := by
      have hq : ((swapN l a b k).set (a + k) y).set (b + k) x = swapN l a b (k + 1) := by rw [swapN, sw_of hx hy]
      rw [← hq]; exact hs_4
    refine .region <| .m rfl rfl <| .e rfl (.addI (b := 1) rfl rfl (by omega)) <| .s rfl rfl <| .nil ?_
    exact ⟨k + 1, ⟨rfl, rfl, rfl, rfl, rfl, trivial⟩, ⟨hs_5, by omega⟩, (show (n - (k + 1)) < (n - k) from by omega)⟩
  · refine .exit0 ?_
    show PostK _ _ _ _ _ _
    refine post0 rfl ?_
    have hs_6 : Sat w0 ([cL v 3 (encN .i64) (swapN l a b n)] ++ cs) w_1 := by
      have hq : swapN l a b k = swapN l a b n := by rw [show k = n by omega]
      rw [← hq]; exact hs_1
    exact ⟨rfl, hs_6⟩
theorem insIn (w0 w : World) (cs : List Chunk) (v : Value) (l : List Nat) (a b : Nat) (key : Nat → Nat) (D : Nat → Prop) (fi : FuncId) (cap : Array Value) (hE : Enters Tryz.prog fi) (hcmp : CmpOk Tryz.prog fi cap (fun x : Nat => Value.int .i64 (x : Int)) key D w0 cs) (hs : Sat w0 ([cL v 3 (encN .i64) (l)] ++ cs) w) (hD : ∀ x ∈ l, D x) (ha : a ≤ l.length) (hb : b ≤ l.length) (hn : l.length ≤ 1000000000000) :
    CallsV Tryz.prog 126 [v, (.int .i64 a), (.int .i64 b), (.func (.func fi) #[] cap)] w fun r w' => r = .tuple #[] ∧ Sat w0 ([cL v 3 (encN .i64) (insS key a l (b - a - 1))] ++ cs) w' := by
  refine callsV_of Tryz.func126 rfl rfl ?_
  refine .seq <| .region <| .m rfl rfl <| .e rfl (.addI (b := 1) rfl rfl (by omega)) <| .s rfl rfl <| .nil <| .block <| .loop (α := Nat) (fun k => [(0, v), (1, (.int .i64 a)), (2, (.int .i64 b)), (3, (.func (.func fi) #[] cap)), (8, (.int .i64 ((a + k + 1) : Nat)))]) (fun k w' => Sat w0 ([cL v 3 (encN .i64) (insS key a l k)] ++ cs) w' ∧ (k = 0 ∨ a + k + 1 ≤ b) ∧ (∀ x ∈ insS key a l k, D x)) (fun k => b - k) 0 ⟨rfl, rfl, rfl, rfl, rfl, trivial⟩ ⟨hs, .inl rfl, hD⟩ ?_
  rintro k w_1 ⟨hs_1, hk, hDk⟩
  show CW _ _ _ _ [(0, v), (1, (.int .i64 a)), (2, (.int .i64 b)), (3, (.func (.func fi) #[] cap)), (8, (.int .i64 ((a + k + 1) : Nat)))] _
  refine .seq <| .seq <| .region <| .m rfl rfl <| .m rfl rfl <| .e rfl (.lssN rfl rfl) <| .nil <| .condD rfl (fun hc_1 => ?_) (fun hc_1 => ?_)
  · refine .skip <| .seq <| .block <| .seq <| .region <| .m rfl rfl <| .s rfl rfl <| .nil <| .block <| .loop (α := Nat × List Nat) (fun (j, cur) => [(0, v), (1, (.int .i64 a)), (2, (.int .i64 b)), (3, (.func (.func fi) #[] cap)), (8, (.int .i64 ((a + k + 1) : Nat))), (9, (.int .i64 j))]) (fun (j, cur) w' => Sat w0 ([cL v 3 (encN .i64) (cur)] ++ cs) w' ∧ (j ≤ a + k + 1) ∧ (insW key a j cur = insW key a (a + k + 1) (insS key a l k)) ∧ (cur.length = l.length) ∧ (∀ x ∈ cur, D x)) (fun (j, cur) => j) (a + k + 1, insS key a l k) ⟨rfl, rfl, rfl, rfl, rfl, rfl, trivial⟩ ⟨hs_1, Nat.le_refl _, rfl, insS_length .., hDk⟩ ?_
    rintro ⟨j, cur⟩ w_2 ⟨hs_2, hj, hcur, hlc, hDc⟩
    show CW _ _ _ _ [(0, v), (1, (.int .i64 a)), (2, (.int .i64 b)), (3, (.func (.func fi) #[] cap)), (8, (.int .i64 ((a + k + 1) : Nat))), (9, (.int .i64 j))] _
    refine .seq <| .seq ?_
    obtain ⟨x, hx⟩ : ∃ x, (cur)[j]? = some x := ⟨_, List.getElem?_eq_getElem (by omega)⟩
    obtain ⟨y, hy⟩ : ∃ y, (cur)[(j - 1)]? = some y := ⟨_, List.getElem?_eq_getElem (by omega)⟩
    refine .mid (fun L' w' => Weak [(0, v), (1, (.int .i64 a)), (2, (.int .i64 b)), (3, (.func (.func fi) #[] cap)), (8, (.int .i64 ((a + k + 1) : Nat))), (9, (.int .i64 j)), (34, (.bool (decide ((a < j) ∧ (key x < key y)))))] L' ∧ Sat w0 ([cL v 3 (encN .i64) (cur)] ++ cs) w') ?_ ?_
    · refine .draw (fun w' => Sat w0 ([cL v 3 (encN .i64) (cur)] ++ cs) w') (.free 0 (.free 1 (.free 2 (.free 3 (.free 4 (.free 5 (.free 6 (.free 7 (.free 8 (.free 9 (.free 10 (.free 11 (.free 12 (.free 13 (.one 14 (.free 15 (.free 16 .fin))))))))))))))))) mixed (by kernel_rfl) ?_
      have hs_3 := hs_2.drew
      refine .m rfl rfl hs_3 <| .m rfl rfl hs_3 <| .e rfl (fun w' hS' => .gtrN rfl rfl) hs_3 <| .m rfl rfl hs_3 ?_
      by_cases hg_1 : a < j
      · refine .evYes rfl rfl rfl rfl (decide_eq_true hg_1) rfl (fun w' hS' => .move rfl) hs_3 <| .evYes rfl rfl rfl rfl (decide_eq_true hg_1) rfl (fun w' hS' => .move rfl) hs_3 <| .evYes rfl rfl rfl rfl (decide_eq_true hg_1) rfl (fun w' hS' => .move rfl) hs_3 <| .evYes rfl rfl rfl rfl (decide_eq_true hg_1) rfl (fun w' hS' => .idxL (E := encN .i64) sl27 rfl rfl (hS'.rdL 0 rfl) (by omega)) hs_3 <| .evYes rfl rfl rfl rfl (decide_eq_true hg_1) rfl (fun w' hS' => .ldL (E := encN .i64) scal3 rfl (hS'.rdL 0 rfl) hx (by decide) rfl) hs_3 <| .evYes rfl rfl rfl rfl (decide_eq_true hg_1) rfl (fun w' hS' => .move rfl) hs_3 <| .evYes rfl rfl rfl rfl (decide_eq_true hg_1) rfl (fun w' hS' => .move rfl) hs_3 <| .evYes rfl rfl rfl rfl (decide_eq_true hg_1) rfl (fun w' hS' => .subI (b := 1) rfl rfl (by omega) (by omega)) hs_3 <| .evYes rfl rfl rfl rfl (decide_eq_true hg_1) rfl (fun w' hS' => .idxL (E := encN .i64) sl27 rfl rfl (hS'.rdL 0 rfl) (by omega)) hs_3 <| .evYes rfl rfl rfl rfl (decide_eq_true hg_1) rfl (fun w' hS' => .ldL (E := encN .i64) scal3 rfl (hS'.rdL 0 rfl) hy (by decide) rfl) hs_3 <| .effYes rfl rfl rfl rfl (decide_eq_true hg_1) rfl (OpE.callv hE rfl rfl ((hcmp _ _ hs_3 (x) (y) (hDc _ (mem_of_get hx)) (hDc _ (mem_of_get hy))).mono fun r_1 w_3 h_1 => ?_))
        obtain ⟨z_1, rfl, hz_1, hp_1⟩ := h_1
        have hs_4 : Sat w0 ([cL v 3 (encN .i64) (cur)] ++ cs) _ := (hs_3.adds hp_1).mid
        have hS_1 : Sat w0 ([_] ++ cs) _ := hs_4.sub ((.cons_cons _ (.refl _)))
        refine ⟨hS_1, ?_⟩
        refine .evYes rfl rfl rfl rfl (decide_eq_true hg_1) rfl (fun w' hS' => .lssCmp rfl rfl hz_1) hS_1 <| .e rfl (fun w' hS' => .pickY rfl (decide_eq_true hg_1) rfl) hS_1 <| .fin ?_
        exact ⟨⟨rfl, rfl, rfl, rfl, rfl, rfl, congrArg some (congrArg Value.bool (by simp [hg_1])), trivial⟩, hs_4⟩
      · refine .no rfl rfl rfl rfl (decide_eq_false hg_1) rfl hs_3 <| .no rfl rfl rfl rfl (decide_eq_false hg_1) rfl hs_3 <| .no rfl rfl rfl rfl (decide_eq_false hg_1) rfl hs_3 <| .no rfl rfl rfl rfl (decide_eq_false hg_1) rfl hs_3 <| .no rfl rfl rfl rfl (decide_eq_false hg_1) rfl hs_3 <| .no rfl rfl rfl rfl (decide_eq_false hg_1) rfl hs_3 <| .no rfl rfl rfl rfl (decide_eq_false hg_1) rfl hs_3 <| .no rfl rfl rfl rfl (decide_eq_false hg_1) rfl hs_3 <| .no rfl rfl rfl rfl (decide_eq_false hg_1) rfl hs_3 <| .no rfl rfl rfl rfl (decide_eq_false hg_1) rfl hs_3 <| .effNo rfl rfl rfl rfl (decide_eq_false hg_1) rfl hs_3 <| .no rfl rfl rfl rfl (decide_eq_false hg_1) rfl hs_3 <| .e rfl (fun w' hS' => .pickN rfl (decide_eq_false hg_1) rfl) hs_3 <| .fin ?_
        exact ⟨⟨rfl, rfl, rfl, rfl, rfl, rfl, congrArg some (congrArg Value.bool (by simp [hg_1])), trivial⟩, hs_3⟩
    · rintro L' w_4 ⟨hw_1, hs_5⟩
      refine .weaken _ hw_1 <| .condD rfl (fun hc_2 => ?_) (fun hc_2 => ?_)
      · refine .skip <| .seq <| .block ?_
        have hshp_1 := (hs_5.rdL (E := encN .i64) 0 rfl).shp (by decide)
        refine .draw2 (fun w' => Sat w0 ([cL v 3 (encN .i64) (cur)] ++ cs) w') (fun w' => Sat w0 ([] ++ cs) w') 15 (.free 0 (.free 1 (.loose 2 (.loose 3 (.loose 4 (.free 5 (.free 6 (.free 7 (.free 8 (.free 9 (.loose 10 (.loose 11 (.loose 12 (.free 13 (.free 14 (.bar 15 (.free 16 (.one 17 .fin)))))))))))))))))) (fun w' h => h.sub ((.cons _ (.refl _)))) mixed (by kernel_rfl) ?_
        have hs_6 := hs_5.drew
        refine .m rfl rfl hs_6 <| .m rfl rfl hs_6 <| .loose rfl rfl rfl (fun w' hS' => .move rfl) hs_6 <| .loose rfl rfl rfl (fun w' hS' => .move rfl) hs_6 <| .loose rfl rfl rfl (fun w' hS' => .subI (b := 1) rfl rfl (by omega) (by omega)) hs_6 <| .m rfl rfl hs_6 <| .m rfl rfl hs_6 <| .e rfl (fun w' hS' => .subI (b := 1) rfl rfl (by omega) (by omega)) hs_6 <| .e rfl (fun w' hS' => .idxL (E := encN .i64) sl27 rfl rfl (hS'.rdL 0 rfl) (by omega)) hs_6 <| .e rfl (fun w' hS' => .ldL (E := encN .i64) scal3 rfl (hS'.rdL 0 rfl) hy (by decide) rfl) hs_6 <| .loose rfl rfl rfl (fun w' hS' => .move rfl) hs_6 <| .loose rfl rfl rfl (fun w' hS' => .move rfl) hs_6 <| .loose rfl rfl rfl (fun w' hS' => .idxS sl27 rfl rfl hshp_1 (by omega)) hs_6 <| .e rfl (fun w' hS' => .ldL (E := encN .i64) scal3 rfl (hS'.rdL 0 rfl) hx (by decide) rfl) hs_6 <| .e rfl (fun w' hS' => .idxL (E := encN .i64) sl27 rfl rfl (hS'.rdL 0 rfl) (by omega)) hs_6 <| .bar rfl rfl rfl (OpE.setL (a := y) 0 one3 hs_6 rfl rfl rfl rfl (by (try simp only [List.length_set]); omega) fun w_5 hs_7 hch_1 => ?_)
        have hS_2 : Sat w0 ([] ++ cs) _ := hs_7.sub ((.cons _ (.refl _)))
        refine ⟨hS_2, ?_⟩
        refine .e rfl (fun w' hS' => .idxS sl27 rfl rfl hshp_1 (by omega)) hS_2 <| .f rfl (.setL (a := x) 0 one3 hs_7 rfl rfl rfl rfl (by (try simp only [List.length_set]); omega) fun w_6 hs_8 hch_2 => ?_)
        have hS_3 : Sat w0 ([] ++ cs) _ := hs_8.sub ((.cons _ (.refl _)))
        refine ⟨hS_3, ?_⟩
        refine .fin <| .region <| .m rfl rfl <| .e rfl (.subI (b := 1) rfl rfl (by omega) (by omega)) <| .s rfl rfl <| .nil ?_
        exact ⟨(j - 1, (cur.set j y).set (j - 1) x), ⟨rfl, rfl, rfl, rfl, rfl, rfl, trivial⟩, ⟨hs_8, by omega, by rw [← hcur, insW_go hc_2 hx hy], by simp only [List.length_set]; exact hlc, fun z hz => hDc z (mem_sets hx hy hz)⟩, (show ((j - 1)) < (j) from by omega)⟩
      · refine .exit0 ?_
        have hDk1 : ∀ x ∈ insS key a l (k + 1), D x := by rw [show insS key a l (k + 1) = cur from ((insW_stop hc_2 hx hy).symm.trans hcur).symm]; exact hDc
        have hs_9 : Sat w0 ([cL v 3 (encN .i64) (insS key a l (k + 1))] ++ cs) w_4 := by
          have hq : cur = insS key a l (k + 1) := (insW_stop hc_2 hx hy).symm.trans hcur
          rw [← hq]; exact hs_5
        refine .region <| .m rfl rfl <| .e rfl (.addI (b := 1) rfl rfl (by omega)) <| .s rfl rfl <| .nil ?_
        exact ⟨k + 1, ⟨rfl, rfl, rfl, rfl, rfl, trivial⟩, ⟨hs_9, .inr (by omega), hDk1⟩, (show (b - (k + 1)) < (b - k) from by omega)⟩
  · refine .exit0 ?_
    show PostK _ _ _ _ _ _
    refine post0 rfl ?_
    have hs_10 : Sat w0 ([cL v 3 (encN .i64) (insS key a l (b - a - 1))] ++ cs) w_1 := by
      have hq : insS key a l k = insS key a l (b - a - 1) := by rw [show k = b - a - 1 by omega]
      rw [← hq]; exact hs_1
    exact ⟨rfl, hs_10⟩
theorem rotIn (w0 w : World) (cs : List Chunk) (v : Value) (f : Value) (A X0 Y0 B : List Nat) (a m b : Nat) (hs : Sat w0 ([cL v 3 (encN .i64) (A ++ X0 ++ Y0 ++ B)] ++ cs) w) (ha : a = A.length) (hm : m = a + X0.length) (hb : b = m + Y0.length) (hX0 : 0 < X0.length) (hY0 : 0 < Y0.length) (hn : (A ++ X0 ++ Y0 ++ B).length ≤ 1000000000000) :
    CallsV Tryz.prog 159 [v, (.int .i64 a), (.int .i64 m), (.int .i64 b), f] w fun r w' => r = .tuple #[] ∧ Sat w0 ([cL v 3 (encN .i64) (A ++ Y0 ++ X0 ++ B)] ++ cs) w' := by
  simp only [List.length_append] at hn
  refine callsV_of Tryz.func159 rfl rfl ?_
  refine .seq <| .region <| .m rfl rfl <| .m rfl rfl <| .e rfl (.subI rfl rfl (by omega) (by omega)) <| .s rfl rfl <| .nil <| .seq <| .region <| .m rfl rfl <| .m rfl rfl <| .e rfl (.subI rfl rfl (by omega) (by omega)) <| .s rfl rfl <| .nil <| .seq <| .block <| .loop (α := List Nat × List Nat × List Nat × List Nat) (fun (P, X, Y, Q) => [(0, v), (2, (.int .i64 m)), (4, f), (10, (.int .i64 X.length)), (11, (.int .i64 Y.length))]) (fun (P, X, Y, Q) w' => Sat w0 ([cL v 3 (encN .i64) (P ++ X ++ Y ++ Q)] ++ cs) w' ∧ (P.length + X.length = m) ∧ (P ++ Y ++ X ++ Q = A ++ Y0 ++ X0 ++ B) ∧ (0 < X.length) ∧ (0 < Y.length)) (fun (P, X, Y, Q) => X.length + Y.length) (A, X0, Y0, B) ⟨rfl, rfl, rfl, congrArg some (congrArg (Value.int .i64) (by omega)), congrArg some (congrArg (Value.int .i64) (by omega)), trivial⟩ ⟨hs, by omega, rfl, hX0, hY0⟩ ?_
  rintro ⟨P, X, Y, Q⟩ w_1 ⟨hs_1, hPm, hT, hXp, hYp⟩
  show CW _ _ _ _ [(0, v), (2, (.int .i64 m)), (4, f), (10, (.int .i64 X.length)), (11, (.int .i64 Y.length))] _
  have hT2 := congrArg List.length hT
  simp only [List.length_append] at hT2
  refine .seq <| .seq <| .region <| .m rfl rfl <| .m rfl rfl <| .e rfl (.neqN rfl rfl) <| .nil <| .condD rfl (fun hc_1 => ?_) (fun hc_1 => ?_)
  · refine .skip <| .block <| .seq <| .region <| .m rfl rfl <| .m rfl rfl <| .e rfl (.gtrN rfl rfl) <| .nil <| .condD rfl (fun hc_2 => ?_) (fun hc_2 => ?_)
    · refine .seq <| .region <| .m rfl rfl <| .m rfl rfl <| .m rfl rfl <| .e rfl (.subI rfl rfl (by omega) (by omega)) <| .m rfl rfl <| .m rfl rfl <| .m rfl rfl ?_
      have hA_1 : Sat w0 ([cL v 3 (encN .i64) (P ++ X ++ Y ++ Q)] ++ ([] ++ cs)) _ := (Sat.order [0] (by decide) hs_1).cut 1
      refine .f rfl (.call ent161 rfl ((swrIn _ _ _ _ _ (P ++ X ++ Y ++ Q) ((m - X.length)) (m) (Y.length) hA_1 (by simp only [List.length_append]; omega) (by simp only [List.length_append]; omega) (by simp only [List.length_append]; omega)).mono fun r_1 w_2 h_1 => ?_))
      obtain ⟨rfl, hp_1⟩ := h_1
      have hs_2 : Sat w0 ([cL v 3 (encN .i64) (swapN (P ++ X ++ Y ++ Q) (m - X.length) m Y.length)] ++ cs) _ := hp_1
      refine .nil ?_
      have hs_3 : Sat w0 ([cL v 3 (encN .i64) (P ++ Y ++ X.drop Y.length ++ X.take Y.length ++ Q)] ++ cs) w_2 := by
        have hq : swapN (P ++ X ++ Y ++ Q) (m - X.length) m Y.length = P ++ Y ++ X.drop Y.length ++ X.take Y.length ++ Q := by have h := swapN_all (a := m - X.length) (b := m) (n := Y.length) P (X.take Y.length) (X.drop Y.length) Y Q (by simp; omega) (by omega) (by simp; omega) (by simp; omega); rw [← h]; simp
        rw [← hq]; exact hs_2
      refine .region <| .m rfl rfl <| .m rfl rfl <| .e rfl (.subI rfl rfl (by omega) (by omega)) <| .s rfl rfl <| .nil ?_
      exact ⟨(P ++ Y, X.drop Y.length, X.take Y.length, Q), ⟨rfl, rfl, rfl, congrArg some (congrArg (Value.int .i64) (by simp)), congrArg some (congrArg (Value.int .i64) (by simp; omega)), trivial⟩, ⟨hs_3, by simp only [List.length_append, List.length_drop]; omega, by rw [← hT]; (conv => rhs; rw [← List.take_append_drop Y.length X]); simp, by simp only [List.length_drop]; omega, by simp only [List.length_take]; omega⟩, (show ((X.drop Y.length).length + (X.take Y.length).length) < (X.length + Y.length) from by (try simp only [List.length_drop, List.length_take]); omega)⟩
    · refine .seq <| .region <| .m rfl rfl <| .m rfl rfl <| .m rfl rfl <| .e rfl (.subI rfl rfl (by omega) (by omega)) <| .m rfl rfl <| .m rfl rfl <| .e rfl (.addI rfl rfl (by omega)) <| .m rfl rfl <| .e rfl (.subI rfl rfl (by omega) (by omega)) <| .m rfl rfl <| .m rfl rfl ?_
      have hA_2 : Sat w0 ([cL v 3 (encN .i64) (P ++ X ++ Y ++ Q)] ++ ([] ++ cs)) _ := (Sat.order [0] (by decide) hs_1).cut 1
      refine .f rfl (.call ent161 rfl ((swrIn _ _ _ _ _ (P ++ X ++ Y ++ Q) ((m - X.length)) (((m + Y.length) - X.length)) (X.length) hA_2 (by simp only [List.length_append]; omega) (by simp only [List.length_append]; omega) (by simp only [List.length_append]; omega)).mono fun r_2 w_3 h_2 => ?_))
      obtain ⟨rfl, hp_2⟩ := h_2
      have hs_4 : Sat w0 ([cL v 3 (encN .i64) (swapN (P ++ X ++ Y ++ Q) (m - X.length) ((m + Y.length) - X.length) X.length)] ++ cs) _ := hp_2
      refine .nil ?_
      have hs_5 : Sat w0 ([cL v 3 (encN .i64) (P ++ Y.drop (Y.length - X.length) ++ Y.take (Y.length - X.length) ++ (X ++ Q))] ++ cs) w_3 := by
        have hq : swapN (P ++ X ++ Y ++ Q) (m - X.length) ((m + Y.length) - X.length) X.length = P ++ Y.drop (Y.length - X.length) ++ Y.take (Y.length - X.length) ++ (X ++ Q) := by have h := swapN_all (a := m - X.length) (b := m + Y.length - X.length) (n := X.length) P X (Y.take (Y.length - X.length)) (Y.drop (Y.length - X.length)) Q (by simp; omega) (by omega) (by simp; omega) rfl; rw [show P ++ Y.drop (Y.length - X.length) ++ Y.take (Y.length - X.length) ++ (X ++ Q) = P ++ Y.drop (Y.length - X.length) ++ Y.take (Y.length - X.length) ++ X ++ Q by simp, ← h]; simp
        rw [← hq]; exact hs_4
      refine .region <| .m rfl rfl <| .m rfl rfl <| .e rfl (.subI rfl rfl (by omega) (by omega)) <| .s rfl rfl <| .nil ?_
      exact ⟨(P, Y.drop (Y.length - X.length), Y.take (Y.length - X.length), X ++ Q), ⟨rfl, rfl, rfl, congrArg some (congrArg (Value.int .i64) (by simp; omega)), congrArg some (congrArg (Value.int .i64) (by simp)), trivial⟩, ⟨hs_5, by simp only [List.length_drop]; omega, by rw [← hT]; (conv => rhs; rw [← List.take_append_drop (Y.length - X.length) Y]); simp, by simp only [List.length_drop]; omega, by simp only [List.length_take]; omega⟩, (show ((Y.drop (Y.length - X.length)).length + (Y.take (Y.length - X.length)).length) < (X.length + Y.length) from by (try simp only [List.length_drop, List.length_take]); omega)⟩
  · refine .exit0 <| .region <| .m rfl rfl <| .m rfl rfl <| .m rfl rfl <| .e rfl (.subI rfl rfl (by omega) (by omega)) <| .m rfl rfl <| .m rfl rfl <| .m rfl rfl ?_
    have hA_3 : Sat w0 ([cL v 3 (encN .i64) (P ++ X ++ Y ++ Q)] ++ ([] ++ cs)) _ := (Sat.order [0] (by decide) hs_1).cut 1
    refine .f rfl (.call ent161 rfl ((swrIn _ _ _ _ _ (P ++ X ++ Y ++ Q) ((m - X.length)) (m) (X.length) hA_3 (by simp only [List.length_append]; omega) (by simp only [List.length_append]; omega) (by simp only [List.length_append]; omega)).mono fun r_3 w_4 h_3 => ?_))
    obtain ⟨rfl, hp_3⟩ := h_3
    have hs_6 : Sat w0 ([cL v 3 (encN .i64) (swapN (P ++ X ++ Y ++ Q) (m - X.length) m X.length)] ++ cs) _ := hp_3
    refine .nil ?_
    show PostK _ _ _ _ _ _
    refine post0 rfl ?_
    have hs_7 : Sat w0 ([cL v 3 (encN .i64) (A ++ Y0 ++ X0 ++ B)] ++ cs) w_4 := by
      have hq : swapN (P ++ X ++ Y ++ Q) (m - X.length) m X.length = A ++ Y0 ++ X0 ++ B := by have h := swapN_all (a := m - X.length) (b := m) (n := X.length) P X [] Y Q (by omega) (by omega) (by simp; omega) rfl; rw [← hT]; simpa using h
      rw [← hq]; exact hs_6
    exact ⟨rfl, hs_7⟩
theorem symIn_step (w0 w : World) (cs : List Chunk) (v : Value) (key : Nat → Nat) (D : Nat → Prop) (fi : FuncId) (cap : Array Value) (hE : Enters Tryz.prog fi) (hcmp : CmpOk Tryz.prog fi cap (fun x : Nat => Value.int .i64 (x : Int)) key D w0 cs) (k : Nat) (IH : ∀ (w : World) (A L R B : List Nat) (a m b : Nat), L.length + R.length < k → Sat w0 ([cL v 3 (encN .i64) (A ++ L ++ R ++ B)] ++ cs) w → a = A.length → m = a + L.length → b = m + R.length → Srt key L → Srt key R → 0 < L.length → 0 < R.length → (∀ x ∈ A ++ L ++ R ++ B, D x) → (A ++ L ++ R ++ B).length ≤ 1000000000000 → CallsV Tryz.prog 157 [v, (.int .i64 (a : Int)), (.int .i64 (m : Int)), (.int .i64 (b : Int)), (.func (.func fi) #[] cap)] w (fun r w' => r = .tuple #[] ∧ ∃ M, Sat w0 ([cL v 3 (encN .i64) (A ++ M ++ B)] ++ cs) w' ∧ Srt key M ∧ Stb key (L ++ R) M)) (A L R B l : List Nat) (hl : l = A ++ L ++ R ++ B) (a m b : Nat) (hk : k = L.length + R.length) (hs : Sat w0 ([cL v 3 (encN .i64) (l)] ++ cs) w) (ha : a = A.length) (hm : m = a + L.length) (hb : b = m + R.length) (hL : Srt key L) (hR : Srt key R) (hL0 : 0 < L.length) (hR0 : 0 < R.length) (hD : ∀ x ∈ l, D x) (hn : l.length ≤ 1000000000000) :
    CallsV Tryz.prog 157 [v, (.int .i64 a), (.int .i64 m), (.int .i64 b), (.func (.func fi) #[] cap)] w fun r w' => r = .tuple #[] ∧ ∃ M, Sat w0 ([cL v 3 (encN .i64) (A ++ M ++ B)] ++ cs) w' ∧ Srt key M ∧ Stb key (L ++ R) M := by
  have hbl : b ≤ l.length := by rw [hl]; simp only [List.length_append]; omega
  refine callsV_of Tryz.func157 rfl rfl ?_
  refine .seq <| .seq <| .region <| .m rfl rfl <| .m rfl rfl <| .e rfl (.subI rfl rfl (by omega) (by omega)) <| .e rfl (.eqlN (b := 1) rfl rfl) <| .nil <| .condD rfl (fun hc_1 => ?_) (fun hc_1 => ?_)
  · refine .seq ?_
    obtain ⟨x0, hLx⟩ : ∃ x0, L = [x0] := List.length_eq_one_iff.1 (by omega)
    have hx0 : l[a]? = some x0 := by rw [hl, hLx, ha]; simp
    refine .region <| .m rfl rfl <| .s rfl rfl <| .nil <| .seq <| .region <| .m rfl rfl <| .s rfl rfl <| .nil <| .seq <| .block <| .loop (α := Nat × Nat) (fun (i, j) => [(0, v), (1, (.int .i64 a)), (2, (.int .i64 m)), (3, (.int .i64 b)), (4, (.func (.func fi) #[] cap)), (10, (.int .i64 i)), (11, (.int .i64 j))]) (fun (i, j) w' => Sat w0 ([cL v 3 (encN .i64) (l)] ++ cs) w' ∧ (m ≤ i) ∧ (i ≤ j) ∧ (j ≤ b) ∧ (m < i → ∀ y, l[i - 1]? = some y → key y < key x0) ∧ (j < b → ∀ y, l[j]? = some y → key x0 ≤ key y)) (fun (i, j) => j - i) (m, b) ⟨rfl, rfl, rfl, rfl, rfl, rfl, rfl, trivial⟩ ⟨hs, Nat.le_refl _, by omega, Nat.le_refl _, fun h => absurd h (by omega), fun h => absurd h (by omega)⟩ ?_
    rintro ⟨i, j⟩ w_1 ⟨hs_1, hmi, hij, hjb, hlo, hhi⟩
    show CW _ _ _ _ [(0, v), (1, (.int .i64 a)), (2, (.int .i64 m)), (3, (.int .i64 b)), (4, (.func (.func fi) #[] cap)), (10, (.int .i64 i)), (11, (.int .i64 j))] _
    refine .seq <| .seq <| .region <| .m rfl rfl <| .m rfl rfl <| .e rfl (.lssN rfl rfl) <| .nil <| .condD rfl (fun hc_2 => ?_) (fun hc_2 => ?_)
    · refine .skip <| .block <| .seq <| .region <| .m rfl rfl <| .m rfl rfl <| .e rfl (.addI rfl rfl (by omega)) <| .e rfl (.convK (by rw [Tryz.underlying3]; rfl) Tryz.underlying88 rfl (wrap_u rfl (by (try simp only [IntKind.bits]); omega))) <| .e rfl (.shrN (b := 1) rfl rfl (by (try simp only [IntKind.bits]); omega)) <| .e rfl (.convK (by rw [Tryz.underlying88]; rfl) Tryz.underlying3 rfl (wrap_i (by omega))) <| .s rfl rfl <| .nil <| .seq ?_
      obtain ⟨h, hh⟩ : ∃ q, q = (i + j) / 2 ^ 1 := ⟨_, rfl⟩
      refine .weaken [(0, _), (1, _), (2, _), (3, _), (4, _), (10, _), (11, _), (12, (.int .i64 h)), (31, _), (32, _), (33, _), (34, _), (35, _), (36, _), (37, _), (38, _), (39, _)] ⟨rfl, rfl, rfl, rfl, rfl, rfl, rfl, congrArg some (by rw [hh]), rfl, rfl, rfl, rfl, rfl, rfl, rfl, rfl, rfl, trivial⟩ ?_
      obtain ⟨y, hy⟩ : ∃ y, (l)[h]? = some y := ⟨_, List.getElem?_eq_getElem (by omega)⟩
      refine .draw (fun w' => Sat w0 ([cL v 3 (encN .i64) (l)] ++ cs) w') (.free 0 (.free 1 (.free 2 (.free 3 (.free 4 (.free 5 (.free 6 (.free 7 (.free 8 (.one 9 (.free 10 .fin))))))))))) mixed (by kernel_rfl) ?_
      have hs_2 := hs_1.drew
      refine .m rfl rfl hs_2 <| .m rfl rfl hs_2 <| .m rfl rfl hs_2 <| .e rfl (fun w' hS' => .idxL (E := encN .i64) sl27 rfl rfl (hS'.rdL 0 rfl) (by omega)) hs_2 <| .e rfl (fun w' hS' => .ldL (E := encN .i64) scal3 rfl (hS'.rdL 0 rfl) hy (by decide) rfl) hs_2 <| .m rfl rfl hs_2 <| .m rfl rfl hs_2 <| .e rfl (fun w' hS' => .idxL (E := encN .i64) sl27 rfl rfl (hS'.rdL 0 rfl) (by omega)) hs_2 <| .e rfl (fun w' hS' => .ldL (E := encN .i64) scal3 rfl (hS'.rdL 0 rfl) hx0 (by decide) rfl) hs_2 <| .f rfl (.callv hE rfl rfl ((hcmp _ _ hs_2 (y) (x0) (hD _ (mem_of_get hy)) (hD _ (mem_of_get hx0))).mono fun r_1 w_2 h_1 => ?_))
      obtain ⟨z_1, rfl, hz_1, hp_1⟩ := h_1
      have hs_3 : Sat w0 ([cL v 3 (encN .i64) (l)] ++ cs) _ := (hs_2.adds hp_1).mid
      have hS_1 : Sat w0 ([_] ++ cs) _ := hs_3.sub ((.cons_cons _ (.refl _)))
      refine ⟨hS_1, ?_⟩
      refine .e rfl (fun w' hS' => .lssCmp rfl rfl hz_1) hS_1 <| .fin <| .condD rfl (fun hc_3 => ?_) (fun hc_3 => ?_)
      · refine .region <| .m rfl rfl <| .e rfl (.addI (b := 1) rfl rfl (by omega)) <| .s rfl rfl <| .nil ?_
        exact ⟨(h + 1, j), ⟨rfl, rfl, rfl, rfl, rfl, rfl, rfl, trivial⟩, ⟨hs_3, by omega, by omega, by omega, fun _ y2 h2 => by rw [Nat.add_sub_cancel, hy] at h2; cases h2; exact hc_3, hhi⟩, (show ((j) - (h + 1)) < (j - i) from by omega)⟩
      · refine .region <| .m rfl rfl <| .s rfl rfl <| .nil ?_
        exact ⟨(i, h), ⟨rfl, rfl, rfl, rfl, rfl, rfl, rfl, trivial⟩, ⟨hs_3, by omega, by omega, by omega, hlo, fun _ y2 h2 => by rw [hy] at h2; cases h2; omega⟩, (show ((h) - (i)) < (j - i) from by omega)⟩
    · refine .exit0 <| .seq <| .seq <| .region <| .m rfl rfl <| .s rfl rfl <| .nil <| .block <| .loop (α := Nat) (fun q => [(0, v), (1, (.int .i64 a)), (10, (.int .i64 i)), (13, (.int .i64 ((a + q) : Nat)))]) (fun q w' => Sat w0 ([cL v 3 (encN .i64) (shU l a q)] ++ cs) w' ∧ (q ≤ (i - 1 - a))) (fun q => (i - 1 - a) - q) 0 ⟨rfl, rfl, rfl, rfl, trivial⟩ ⟨hs_1, Nat.zero_le _⟩ ?_
      rintro q w_3 ⟨hs_4, hq⟩
      show CW _ _ _ _ [(0, v), (1, (.int .i64 a)), (10, (.int .i64 i)), (13, (.int .i64 ((a + q) : Nat)))] _
      refine .seq <| .seq <| .region <| .m rfl rfl <| .m rfl rfl <| .e rfl (.subI (b := 1) rfl rfl (by omega) (by omega)) <| .e rfl (.lssN rfl rfl) <| .nil <| .condD rfl (fun hc_4 => ?_) (fun hc_4 => ?_)
      · refine .skip <| .seq <| .block ?_
        have hlq : (shU l a q).length = l.length := shU_length ..
        obtain ⟨x1, hx1⟩ : ∃ x1, (shU l a q)[(a + q)]? = some x1 := ⟨_, List.getElem?_eq_getElem (by omega)⟩
        obtain ⟨x2, hx2⟩ : ∃ x2, (shU l a q)[((a + q) + 1)]? = some x2 := ⟨_, List.getElem?_eq_getElem (by omega)⟩
        have hshp_1 := (hs_4.rdL (E := encN .i64) 0 rfl).shp (by decide)
        refine .draw2 (fun w' => Sat w0 ([cL v 3 (encN .i64) (shU l a q)] ++ cs) w') (fun w' => Sat w0 ([] ++ cs) w') 15 (.free 0 (.free 1 (.loose 2 (.loose 3 (.loose 4 (.free 5 (.free 6 (.free 7 (.free 8 (.free 9 (.loose 10 (.loose 11 (.loose 12 (.free 13 (.free 14 (.bar 15 (.free 16 (.one 17 .fin)))))))))))))))))) (fun w' h => h.sub ((.cons _ (.refl _)))) mixed (by kernel_rfl) ?_
        have hs_5 := hs_4.drew
        refine .m rfl rfl hs_5 <| .m rfl rfl hs_5 <| .loose rfl rfl rfl (fun w' hS' => .move rfl) hs_5 <| .loose rfl rfl rfl (fun w' hS' => .move rfl) hs_5 <| .loose rfl rfl rfl (fun w' hS' => .addI (b := 1) rfl rfl (by omega)) hs_5 <| .m rfl rfl hs_5 <| .m rfl rfl hs_5 <| .e rfl (fun w' hS' => .addI (b := 1) rfl rfl (by omega)) hs_5 <| .e rfl (fun w' hS' => .idxL (E := encN .i64) sl27 rfl rfl (hS'.rdL 0 rfl) (by omega)) hs_5 <| .e rfl (fun w' hS' => .ldL (E := encN .i64) scal3 rfl (hS'.rdL 0 rfl) hx2 (by decide) rfl) hs_5 <| .loose rfl rfl rfl (fun w' hS' => .move rfl) hs_5 <| .loose rfl rfl rfl (fun w' hS' => .move rfl) hs_5 <| .loose rfl rfl rfl (fun w' hS' => .idxS sl27 rfl rfl hshp_1 (by omega)) hs_5 <| .e rfl (fun w' hS' => .ldL (E := encN .i64) scal3 rfl (hS'.rdL 0 rfl) hx1 (by decide) rfl) hs_5 <| .e rfl (fun w' hS' => .idxL (E := encN .i64) sl27 rfl rfl (hS'.rdL 0 rfl) (by omega)) hs_5 <| .bar rfl rfl rfl (OpE.setL (a := x2) 0 one3 hs_5 rfl rfl rfl rfl (by (try simp only [List.length_set]); omega) fun w_4 hs_6 hch_1 => ?_)
        have hS_2 : Sat w0 ([] ++ cs) _ := hs_6.sub ((.cons _ (.refl _)))
        refine ⟨hS_2, ?_⟩
        refine .e rfl (fun w' hS' => .idxS sl27 rfl rfl hshp_1 (by omega)) hS_2 <| .f rfl (.setL (a := x1) 0 one3 hs_6 rfl rfl rfl rfl (by (try simp only [List.length_set]); omega) fun w_5 hs_7 hch_2 => ?_)
        have hS_3 : Sat w0 ([] ++ cs) _ := hs_7.sub ((.cons _ (.refl _)))
        refine ⟨hS_3, ?_⟩
        refine .fin ?_
        have hs_8 : Sat w0 ([cL v 3 (encN .i64) (shU l a (q + 1))] ++ cs) w_5 := by
          have hq : ((shU l a q).set (a + q) x2).set ((a + q) + 1) x1 = shU l a (q + 1) := by rw [shU, sw_of hx1 hx2]
          rw [← hq]; exact hs_7
        refine .region <| .m rfl rfl <| .e rfl (.addI (b := 1) rfl rfl (by omega)) <| .s rfl rfl <| .nil ?_
        exact ⟨q + 1, ⟨rfl, rfl, rfl, congrArg some (congrArg (Value.int .i64) (by omega)), trivial⟩, ⟨hs_8, by omega⟩, (show ((i - 1 - a) - (q + 1)) < ((i - 1 - a) - q) from by omega)⟩
      · refine .exit0 <| .ret ?_
        show PostK _ _ _ _ _ _
        refine post0 rfl ?_
        obtain ⟨M, hM, hMs, hMt⟩ := sym_left (key := key) (l := l) (A := A) (B := B) (R := R) (x := x0) (by rw [hl, hLx]) ha (i := i) (by omega) hb (by omega) (by omega) hlo (by rw [show j = i by omega] at hhi; exact hhi) hR
        have hs_9 : Sat w0 ([cL v 3 (encN .i64) (A ++ M ++ B)] ++ cs) w_3 := by
          have hq : shU l a q = A ++ M ++ B := by rw [show q = i - 1 - a by omega, hM]
          rw [← hq]; exact hs_4
        exact ⟨rfl, M, hs_9, hMs, by rw [hLx]; exact hMt⟩
  · refine .skip <| .seq <| .seq <| .region <| .m rfl rfl <| .m rfl rfl <| .e rfl (.subI rfl rfl (by omega) (by omega)) <| .e rfl (.eqlN (b := 1) rfl rfl) <| .nil <| .condD rfl (fun hc_5 => ?_) (fun hc_5 => ?_)
    · refine .seq ?_
      obtain ⟨x0, hRx⟩ : ∃ x0, R = [x0] := List.length_eq_one_iff.1 (by omega)
      have hx0 : l[m]? = some x0 := by rw [hl, hRx, hm, ha, ← List.length_append]; simp
      refine .region <| .m rfl rfl <| .s rfl rfl <| .nil <| .seq <| .region <| .m rfl rfl <| .s rfl rfl <| .nil <| .seq <| .block <| .loop (α := Nat × Nat) (fun (i, j) => [(0, v), (1, (.int .i64 a)), (2, (.int .i64 m)), (3, (.int .i64 b)), (4, (.func (.func fi) #[] cap)), (14, (.int .i64 i)), (15, (.int .i64 j))]) (fun (i, j) w' => Sat w0 ([cL v 3 (encN .i64) (l)] ++ cs) w' ∧ (a ≤ i) ∧ (i ≤ j) ∧ (j ≤ m) ∧ (a < i → ∀ y, l[i - 1]? = some y → key y ≤ key x0) ∧ (j < m → ∀ y, l[j]? = some y → key x0 < key y)) (fun (i, j) => j - i) (a, m) ⟨rfl, rfl, rfl, rfl, rfl, rfl, rfl, trivial⟩ ⟨hs, Nat.le_refl _, by omega, Nat.le_refl _, fun h => absurd h (by omega), fun h => absurd h (by omega)⟩ ?_
      rintro ⟨i, j⟩ w_6 ⟨hs_10, hmi, hij, hjb, hlo, hhi⟩
      show CW _ _ _ _ [(0, v), (1, (.int .i64 a)), (2, (.int .i64 m)), (3, (.int .i64 b)), (4, (.func (.func fi) #[] cap)), (14, (.int .i64 i)), (15, (.int .i64 j))] _
      refine .seq <| .seq <| .region <| .m rfl rfl <| .m rfl rfl <| .e rfl (.lssN rfl rfl) <| .nil <| .condD rfl (fun hc_6 => ?_) (fun hc_6 => ?_)
      · refine .skip <| .block <| .seq <| .region <| .m rfl rfl <| .m rfl rfl <| .e rfl (.addI rfl rfl (by omega)) <| .e rfl (.convK (by rw [Tryz.underlying3]; rfl) Tryz.underlying88 rfl (wrap_u rfl (by (try simp only [IntKind.bits]); omega))) <| .e rfl (.shrN (b := 1) rfl rfl (by (try simp only [IntKind.bits]); omega)) <| .e rfl (.convK (by rw [Tryz.underlying88]; rfl) Tryz.underlying3 rfl (wrap_i (by omega))) <| .s rfl rfl <| .nil <| .seq ?_
        obtain ⟨h, hh⟩ : ∃ q, q = (i + j) / 2 ^ 1 := ⟨_, rfl⟩
        refine .weaken [(0, _), (1, _), (2, _), (3, _), (4, _), (14, _), (15, _), (16, (.int .i64 h)), (83, _), (84, _), (85, _), (86, _), (87, _), (88, _), (89, _), (90, _), (91, _)] ⟨rfl, rfl, rfl, rfl, rfl, rfl, rfl, congrArg some (by rw [hh]), rfl, rfl, rfl, rfl, rfl, rfl, rfl, rfl, rfl, trivial⟩ ?_
        obtain ⟨y, hy⟩ : ∃ y, (l)[h]? = some y := ⟨_, List.getElem?_eq_getElem (by omega)⟩
        refine .draw (fun w' => Sat w0 ([cL v 3 (encN .i64) (l)] ++ cs) w') (.free 0 (.free 1 (.free 2 (.free 3 (.free 4 (.free 5 (.free 6 (.free 7 (.free 8 (.one 9 (.free 10 (.free 11 .fin)))))))))))) mixed (by kernel_rfl) ?_
        have hs_11 := hs_10.drew
        refine .m rfl rfl hs_11 <| .m rfl rfl hs_11 <| .m rfl rfl hs_11 <| .e rfl (fun w' hS' => .idxL (E := encN .i64) sl27 rfl rfl (hS'.rdL 0 rfl) (by omega)) hs_11 <| .e rfl (fun w' hS' => .ldL (E := encN .i64) scal3 rfl (hS'.rdL 0 rfl) hx0 (by decide) rfl) hs_11 <| .m rfl rfl hs_11 <| .m rfl rfl hs_11 <| .e rfl (fun w' hS' => .idxL (E := encN .i64) sl27 rfl rfl (hS'.rdL 0 rfl) (by omega)) hs_11 <| .e rfl (fun w' hS' => .ldL (E := encN .i64) scal3 rfl (hS'.rdL 0 rfl) hy (by decide) rfl) hs_11 <| .f rfl (.callv hE rfl rfl ((hcmp _ _ hs_11 (x0) (y) (hD _ (mem_of_get hx0)) (hD _ (mem_of_get hy))).mono fun r_2 w_7 h_2 => ?_))
        obtain ⟨z_2, rfl, hz_2, hp_2⟩ := h_2
        have hs_12 : Sat w0 ([cL v 3 (encN .i64) (l)] ++ cs) _ := (hs_11.adds hp_2).mid
        have hS_4 : Sat w0 ([_] ++ cs) _ := hs_12.sub ((.cons_cons _ (.refl _)))
        refine ⟨hS_4, ?_⟩
        refine .e rfl (fun w' hS' => .lssCmp rfl rfl hz_2) hS_4 <| .e rfl (fun w' hS' => .notP rfl) hS_4 <| .fin <| .condD rfl (fun hc_7 => ?_) (fun hc_7 => ?_)
        · refine .region <| .m rfl rfl <| .e rfl (.addI (b := 1) rfl rfl (by omega)) <| .s rfl rfl <| .nil ?_
          exact ⟨(h + 1, j), ⟨rfl, rfl, rfl, rfl, rfl, rfl, rfl, trivial⟩, ⟨hs_12, by omega, by omega, by omega, fun _ y2 h2 => by rw [Nat.add_sub_cancel, hy] at h2; cases h2; omega, hhi⟩, (show ((j) - (h + 1)) < (j - i) from by omega)⟩
        · refine .region <| .m rfl rfl <| .s rfl rfl <| .nil ?_
          exact ⟨(i, h), ⟨rfl, rfl, rfl, rfl, rfl, rfl, rfl, trivial⟩, ⟨hs_12, by omega, by omega, by omega, hlo, fun _ y2 h2 => by rw [hy] at h2; cases h2; omega⟩, (show ((h) - (i)) < (j - i) from by omega)⟩
      · refine .exit0 <| .seq <| .seq <| .region <| .m rfl rfl <| .s rfl rfl <| .nil <| .block <| .loop (α := Nat) (fun q => [(0, v), (14, (.int .i64 i)), (17, (.int .i64 ((m - q) : Nat)))]) (fun q w' => Sat w0 ([cL v 3 (encN .i64) (shD l m q)] ++ cs) w' ∧ (q ≤ (m - i))) (fun q => (m - i) - q) 0 ⟨rfl, rfl, rfl, trivial⟩ ⟨hs_10, Nat.zero_le _⟩ ?_
        rintro q w_8 ⟨hs_13, hq⟩
        show CW _ _ _ _ [(0, v), (14, (.int .i64 i)), (17, (.int .i64 ((m - q) : Nat)))] _
        refine .seq <| .seq <| .region <| .m rfl rfl <| .m rfl rfl <| .e rfl (.gtrN rfl rfl) <| .nil <| .condD rfl (fun hc_8 => ?_) (fun hc_8 => ?_)
        · refine .skip <| .seq <| .block ?_
          have hlq : (shD l m q).length = l.length := shD_length ..
          obtain ⟨x1, hx1⟩ : ∃ x1, (shD l m q)[(m - q)]? = some x1 := ⟨_, List.getElem?_eq_getElem (by omega)⟩
          obtain ⟨x2, hx2⟩ : ∃ x2, (shD l m q)[((m - q) - 1)]? = some x2 := ⟨_, List.getElem?_eq_getElem (by omega)⟩
          have hshp_2 := (hs_13.rdL (E := encN .i64) 0 rfl).shp (by decide)
          refine .draw2 (fun w' => Sat w0 ([cL v 3 (encN .i64) (shD l m q)] ++ cs) w') (fun w' => Sat w0 ([] ++ cs) w') 15 (.free 0 (.free 1 (.loose 2 (.loose 3 (.loose 4 (.free 5 (.free 6 (.free 7 (.free 8 (.free 9 (.loose 10 (.loose 11 (.loose 12 (.free 13 (.free 14 (.bar 15 (.free 16 (.one 17 .fin)))))))))))))))))) (fun w' h => h.sub ((.cons _ (.refl _)))) mixed (by kernel_rfl) ?_
          have hs_14 := hs_13.drew
          refine .m rfl rfl hs_14 <| .m rfl rfl hs_14 <| .loose rfl rfl rfl (fun w' hS' => .move rfl) hs_14 <| .loose rfl rfl rfl (fun w' hS' => .move rfl) hs_14 <| .loose rfl rfl rfl (fun w' hS' => .subI (b := 1) rfl rfl (by omega) (by omega)) hs_14 <| .m rfl rfl hs_14 <| .m rfl rfl hs_14 <| .e rfl (fun w' hS' => .subI (b := 1) rfl rfl (by omega) (by omega)) hs_14 <| .e rfl (fun w' hS' => .idxL (E := encN .i64) sl27 rfl rfl (hS'.rdL 0 rfl) (by omega)) hs_14 <| .e rfl (fun w' hS' => .ldL (E := encN .i64) scal3 rfl (hS'.rdL 0 rfl) hx2 (by decide) rfl) hs_14 <| .loose rfl rfl rfl (fun w' hS' => .move rfl) hs_14 <| .loose rfl rfl rfl (fun w' hS' => .move rfl) hs_14 <| .loose rfl rfl rfl (fun w' hS' => .idxS sl27 rfl rfl hshp_2 (by omega)) hs_14 <| .e rfl (fun w' hS' => .ldL (E := encN .i64) scal3 rfl (hS'.rdL 0 rfl) hx1 (by decide) rfl) hs_14 <| .e rfl (fun w' hS' => .idxL (E := encN .i64) sl27 rfl rfl (hS'.rdL 0 rfl) (by omega)) hs_14 <| .bar rfl rfl rfl (OpE.setL (a := x2) 0 one3 hs_14 rfl rfl rfl rfl (by (try simp only [List.length_set]); omega) fun w_9 hs_15 hch_3 => ?_)
          have hS_5 : Sat w0 ([] ++ cs) _ := hs_15.sub ((.cons _ (.refl _)))
          refine ⟨hS_5, ?_⟩
          refine .e rfl (fun w' hS' => .idxS sl27 rfl rfl hshp_2 (by omega)) hS_5 <| .f rfl (.setL (a := x1) 0 one3 hs_15 rfl rfl rfl rfl (by (try simp only [List.length_set]); omega) fun w_10 hs_16 hch_4 => ?_)
          have hS_6 : Sat w0 ([] ++ cs) _ := hs_16.sub ((.cons _ (.refl _)))
          refine ⟨hS_6, ?_⟩
          refine .fin ?_
          have hs_17 : Sat w0 ([cL v 3 (encN .i64) (shD l m (q + 1))] ++ cs) w_10 := by
            have hq : ((shD l m q).set (m - q) x2).set ((m - q) - 1) x1 = shD l m (q + 1) := by rw [shD, sw_of hx1 hx2]
            rw [← hq]; exact hs_16
          refine .region <| .m rfl rfl <| .e rfl (.subI (b := 1) rfl rfl (by omega) (by omega)) <| .s rfl rfl <| .nil ?_
          exact ⟨q + 1, ⟨rfl, rfl, congrArg some (congrArg (Value.int .i64) (by omega)), trivial⟩, ⟨hs_17, by omega⟩, (show ((m - i) - (q + 1)) < ((m - i) - q) from by omega)⟩
        · refine .exit0 <| .ret ?_
          show PostK _ _ _ _ _ _
          refine post0 rfl ?_
          obtain ⟨M, hM, hMs, hMt⟩ := sym_right (key := key) (l := l) (A := A) (B := B) (L := L) (x := x0) (by rw [hl, hRx]) ha (i := i) hm (by omega) (by omega) hlo (by rw [show j = i by omega] at hhi; exact hhi) hL
          have hs_18 : Sat w0 ([cL v 3 (encN .i64) (A ++ M ++ B)] ++ cs) w_8 := by
            have hq : shD l m q = A ++ M ++ B := by rw [show q = m - i by omega, hM]
            rw [← hq]; exact hs_13
          exact ⟨rfl, M, hs_18, hMs, by rw [hRx]; exact hMt⟩
    · refine .skip <| .seq <| .region <| .m rfl rfl <| .m rfl rfl <| .e rfl (.addI rfl rfl (by omega)) <| .e rfl (.convK (by rw [Tryz.underlying3]; rfl) Tryz.underlying88 rfl (wrap_u rfl (by (try simp only [IntKind.bits]); omega))) <| .e rfl (.shrN (b := 1) rfl rfl (by (try simp only [IntKind.bits]); omega)) <| .e rfl (.convK (by rw [Tryz.underlying88]; rfl) Tryz.underlying3 rfl (wrap_i (by omega))) <| .s rfl rfl <| .nil <| .seq ?_
      obtain ⟨mid, hmid⟩ : ∃ q, q = (a + b) / 2 ^ 1 := ⟨_, rfl⟩
      refine .weaken [(0, _), (1, _), (2, _), (3, _), (4, _), (18, (.int .i64 mid)), (25, _), (26, _), (27, _), (28, _), (77, _), (78, _), (79, _), (80, _), (129, _), (130, _), (131, _), (132, _), (133, _), (134, _)] ⟨rfl, rfl, rfl, rfl, rfl, congrArg some (by rw [hmid]), rfl, rfl, rfl, rfl, rfl, rfl, rfl, rfl, rfl, rfl, rfl, rfl, rfl, rfl, trivial⟩ <| .region <| .m rfl rfl <| .m rfl rfl <| .e rfl (.addI rfl rfl (by omega)) <| .s rfl rfl <| .nil <| .seq <| .region <| .s rfl rfl <| .s rfl rfl <| .nil <| .seqMid (fun L' w' => ∃ (st0 : Nat) (r0 : Nat), Weak [(0, v), (1, (.int .i64 a)), (2, (.int .i64 m)), (3, (.int .i64 b)), (4, (.func (.func fi) #[] cap)), (18, (.int .i64 mid)), (19, (.int .i64 ((mid + m) : Nat))), (20, (.int .i64 st0)), (21, (.int .i64 r0))] L' ∧ Sat w0 ([cL v 3 (encN .i64) (l)] ++ cs) w' ∧ (a ≤ st0) ∧ (st0 ≤ r0) ∧ (r0 ≤ mid) ∧ (r0 ≤ m) ∧ (mid + m - st0 ≤ b) ∧ (st0 = a ∨ mid + m - st0 = b) ∧ (r0 = mid ∨ r0 = m)) ?_ ?_
      · refine .seq <| .region <| .m rfl rfl <| .m rfl rfl <| .e rfl (.gtrN rfl rfl) <| .nil <| .condD rfl (fun hc_9 => ?_) (fun hc_9 => ?_)
        · refine .seq <| .region <| .m rfl rfl <| .m rfl rfl <| .e rfl (.subI rfl rfl (by omega) (by omega)) <| .s rfl rfl <| .nil <| .region <| .m rfl rfl <| .s rfl rfl <| .nil ?_
          exact ⟨((mid + m) - b), mid, ⟨rfl, rfl, rfl, rfl, rfl, rfl, rfl, rfl, rfl, trivial⟩, hs, by omega, by omega, by omega, by omega, by omega, .inr (by omega), .inl rfl⟩
        · refine .seq <| .region <| .m rfl rfl <| .s rfl rfl <| .nil <| .region <| .m rfl rfl <| .s rfl rfl <| .nil ?_
          exact ⟨a, m, ⟨rfl, rfl, rfl, rfl, rfl, rfl, rfl, rfl, rfl, trivial⟩, hs, by omega, by omega, by omega, by omega, by omega, .inl rfl, .inr rfl⟩
      · rintro L' w_11 ⟨st0, r0, hw_1, hs_19, has0, hsr0, hrm0, hrm1, hnb0, hst0, hr0⟩
        refine .weaken _ hw_1 <| .seq <| .region <| .m rfl rfl <| .e rfl (.subI (b := 1) rfl rfl (by omega) (by omega)) <| .s rfl rfl <| .nil <| .seq <| .block <| .loop (α := Nat × Nat) (fun (st, r) => [(0, v), (1, (.int .i64 a)), (2, (.int .i64 m)), (3, (.int .i64 b)), (4, (.func (.func fi) #[] cap)), (18, (.int .i64 mid)), (19, (.int .i64 ((mid + m) : Nat))), (20, (.int .i64 st)), (21, (.int .i64 r)), (22, (.int .i64 (((mid + m) - 1) : Nat)))]) (fun (st, r) w' => Sat w0 ([cL v 3 (encN .i64) (l)] ++ cs) w' ∧ (st0 ≤ st) ∧ (st ≤ r) ∧ (r ≤ r0) ∧ (st0 < st → ∀ y z, l[mid + m - 1 - (st - 1)]? = some y → l[st - 1]? = some z → key z ≤ key y) ∧ (r < r0 → ∀ y z, l[mid + m - 1 - r]? = some y → l[r]? = some z → key y < key z)) (fun (st, r) => r - st) (st0, r0) ⟨rfl, rfl, rfl, rfl, rfl, rfl, rfl, rfl, rfl, rfl, trivial⟩ ⟨hs_19, Nat.le_refl _, hsr0, Nat.le_refl _, fun h => absurd h (by omega), fun h => absurd h (by omega)⟩ ?_
        rintro ⟨st, r⟩ w_12 ⟨hs_20, hss, hsr, hrr, hlo, hhi⟩
        show CW _ _ _ _ [(0, v), (1, (.int .i64 a)), (2, (.int .i64 m)), (3, (.int .i64 b)), (4, (.func (.func fi) #[] cap)), (18, (.int .i64 mid)), (19, (.int .i64 ((mid + m) : Nat))), (20, (.int .i64 st)), (21, (.int .i64 r)), (22, (.int .i64 (((mid + m) - 1) : Nat)))] _
        refine .seq <| .seq <| .region <| .m rfl rfl <| .m rfl rfl <| .e rfl (.lssN rfl rfl) <| .nil <| .condD rfl (fun hc_10 => ?_) (fun hc_10 => ?_)
        · refine .skip <| .block <| .seq <| .region <| .m rfl rfl <| .m rfl rfl <| .e rfl (.addI rfl rfl (by omega)) <| .e rfl (.convK (by rw [Tryz.underlying3]; rfl) Tryz.underlying88 rfl (wrap_u rfl (by (try simp only [IntKind.bits]); omega))) <| .e rfl (.shrN (b := 1) rfl rfl (by (try simp only [IntKind.bits]); omega)) <| .e rfl (.convK (by rw [Tryz.underlying88]; rfl) Tryz.underlying3 rfl (wrap_i (by omega))) <| .s rfl rfl <| .nil <| .seq ?_
          obtain ⟨h, hh⟩ : ∃ q, q = (st + r) / 2 ^ 1 := ⟨_, rfl⟩
          refine .weaken [(0, _), (1, _), (2, _), (3, _), (4, _), (18, _), (19, _), (20, _), (21, _), (22, _), (23, (.int .i64 h)), (149, _), (150, _), (151, _), (152, _), (153, _), (154, _), (155, _), (156, _), (157, _)] ⟨rfl, rfl, rfl, rfl, rfl, rfl, rfl, rfl, rfl, rfl, congrArg some (by rw [hh]), rfl, rfl, rfl, rfl, rfl, rfl, rfl, rfl, rfl, trivial⟩ ?_
          obtain ⟨y, hy⟩ : ∃ y, (l)[(((mid + m) - 1) - h)]? = some y := ⟨_, List.getElem?_eq_getElem (by omega)⟩
          obtain ⟨z, hz⟩ : ∃ z, (l)[h]? = some z := ⟨_, List.getElem?_eq_getElem (by omega)⟩
          refine .draw (fun w' => Sat w0 ([cL v 3 (encN .i64) (l)] ++ cs) w') (.free 0 (.free 1 (.free 2 (.free 3 (.free 4 (.free 5 (.free 6 (.free 7 (.free 8 (.free 9 (.free 10 (.one 11 (.free 12 (.free 13 .fin)))))))))))))) mixed (by kernel_rfl) ?_
          have hs_21 := hs_20.drew
          refine .m rfl rfl hs_21 <| .m rfl rfl hs_21 <| .m rfl rfl hs_21 <| .m rfl rfl hs_21 <| .e rfl (fun w' hS' => .subI rfl rfl (by omega) (by omega)) hs_21 <| .e rfl (fun w' hS' => .idxL (E := encN .i64) sl27 rfl rfl (hS'.rdL 0 rfl) (by omega)) hs_21 <| .e rfl (fun w' hS' => .ldL (E := encN .i64) scal3 rfl (hS'.rdL 0 rfl) hy (by decide) rfl) hs_21 <| .m rfl rfl hs_21 <| .m rfl rfl hs_21 <| .e rfl (fun w' hS' => .idxL (E := encN .i64) sl27 rfl rfl (hS'.rdL 0 rfl) (by omega)) hs_21 <| .e rfl (fun w' hS' => .ldL (E := encN .i64) scal3 rfl (hS'.rdL 0 rfl) hz (by decide) rfl) hs_21 <| .f rfl (.callv hE rfl rfl ((hcmp _ _ hs_21 (y) (z) (hD _ (mem_of_get hy)) (hD _ (mem_of_get hz))).mono fun r_3 w_13 h_3 => ?_))
          obtain ⟨z_3, rfl, hz_3, hp_3⟩ := h_3
          have hs_22 : Sat w0 ([cL v 3 (encN .i64) (l)] ++ cs) _ := (hs_21.adds hp_3).mid
          have hS_7 : Sat w0 ([_] ++ cs) _ := hs_22.sub ((.cons_cons _ (.refl _)))
          refine ⟨hS_7, ?_⟩
          refine .e rfl (fun w' hS' => .lssCmp rfl rfl hz_3) hS_7 <| .e rfl (fun w' hS' => .notP rfl) hS_7 <| .fin <| .condD rfl (fun hc_11 => ?_) (fun hc_11 => ?_)
          · refine .region <| .m rfl rfl <| .e rfl (.addI (b := 1) rfl rfl (by omega)) <| .s rfl rfl <| .nil ?_
            exact ⟨(h + 1, r), ⟨rfl, rfl, rfl, rfl, rfl, rfl, rfl, rfl, rfl, rfl, trivial⟩, ⟨hs_22, by omega, by omega, by omega, fun _ y' z' hy' hz' => by rw [Nat.add_sub_cancel] at hy' hz'; rw [hy] at hy'; rw [hz] at hz'; cases hy'; cases hz'; omega, hhi⟩, (show ((r) - (h + 1)) < (r - st) from by omega)⟩
          · refine .region <| .m rfl rfl <| .s rfl rfl <| .nil ?_
            exact ⟨(st, h), ⟨rfl, rfl, rfl, rfl, rfl, rfl, rfl, rfl, rfl, rfl, trivial⟩, ⟨hs_22, by omega, by omega, by omega, hlo, fun _ y' z' hy' hz' => by rw [hy] at hy'; rw [hz] at hz'; cases hy'; cases hz'; omega⟩, (show ((h) - (st)) < (r - st) from by omega)⟩
        · refine .exit0 <| .seq <| .region <| .m rfl rfl <| .m rfl rfl <| .e rfl (.subI rfl rfl (by omega) (by omega)) <| .s rfl rfl <| .nil ?_
          obtain ⟨L1, L2, R1, R2, hLs, hRs, hL1, hL2, hR1, hR2, hne, hle⟩ := sym_gen (key := key) hl ha hm hb hL hR (by omega) (by omega) (by omega) (by omega) hst0 hr0 hlo (by rw [show r = st by omega] at hhi; exact hhi) (by omega) (by omega)
          have hLx : L.length = L1.length + L2.length := by rw [hLs, List.length_append]
          have hRx : R.length = R1.length + R2.length := by rw [hRs, List.length_append]
          have hll : l.length = A.length + L.length + R.length + B.length := by rw [hl]; simp only [List.length_append]
          have hs1 : Srt key L1 := by rw [hLs] at hL; exact hL.left
          have hs2 : Srt key L2 := by rw [hLs] at hL; exact hL.right
          have hs3 : Srt key R1 := by rw [hRs] at hR; exact hR.left
          have hs4 : Srt key R2 := by rw [hRs] at hR; exact hR.right
          have hp0 : ∀ x, x ∈ A ++ L1 ++ R1 ++ (L2 ++ R2 ++ B) → D x := fun x hx => hD x (by rw [hl, hLs, hRs]; simp only [List.mem_append] at hx ⊢; grind)
          refine .seqMid (fun L' w' => Weak [(0, v), (1, (.int .i64 a)), (2, (.int .i64 m)), (3, (.int .i64 b)), (4, (.func (.func fi) #[] cap)), (18, (.int .i64 mid)), (20, (.int .i64 st)), (24, (.int .i64 (((mid + m) - st) : Nat)))] L' ∧ Sat w0 ([cL v 3 (encN .i64) (A ++ L1 ++ R1 ++ (L2 ++ R2 ++ B))] ++ cs) w') ?_ ?_
          · refine .seq <| .mid (fun L' w' => Weak [(0, v), (1, (.int .i64 a)), (2, (.int .i64 m)), (3, (.int .i64 b)), (4, (.func (.func fi) #[] cap)), (18, (.int .i64 mid)), (19, (.int .i64 ((mid + m) : Nat))), (20, (.int .i64 st)), (21, (.int .i64 r)), (22, (.int .i64 (((mid + m) - 1) : Nat))), (24, (.int .i64 (((mid + m) - st) : Nat))), (151, (.bool (decide (st < r)))), (185, (.bool (decide ((st < m) ∧ (m < ((mid + m) - st))))))] L' ∧ Sat w0 ([cL v 3 (encN .i64) (l)] ++ cs) w') ?_ ?_
            · refine .region <| .m rfl rfl <| .m rfl rfl <| .e rfl (.lssN rfl rfl) <| .m rfl rfl ?_
              by_cases hg_1 : st < m
              · refine .yes rfl rfl rfl (decide_eq_true hg_1) <| .m rfl rfl <| .yes rfl rfl rfl (decide_eq_true hg_1) <| .m rfl rfl <| .yes rfl rfl rfl (decide_eq_true hg_1) <| .e rfl (.lssN rfl rfl) <| .e rfl (.pickY rfl (decide_eq_true hg_1) rfl) <| .nil ?_
                exact ⟨⟨rfl, rfl, rfl, rfl, rfl, rfl, rfl, rfl, rfl, rfl, rfl, rfl, congrArg some (congrArg Value.bool (by simp [hg_1])), trivial⟩, hs_20⟩
              · refine .no rfl rfl rfl (decide_eq_false hg_1) rfl <| .no rfl rfl rfl (decide_eq_false hg_1) rfl <| .no rfl rfl rfl (decide_eq_false hg_1) rfl <| .e rfl (.pickN rfl (decide_eq_false hg_1) rfl) <| .nil ?_
                exact ⟨⟨rfl, rfl, rfl, rfl, rfl, rfl, rfl, rfl, rfl, rfl, rfl, rfl, congrArg some (congrArg Value.bool (by simp [hg_1])), trivial⟩, hs_20⟩
            · rintro L' w_14 ⟨hw_2, hs_23⟩
              refine .weaken _ hw_2 <| .condD rfl (fun hc_12 => ?_) (fun hc_12 => ?_)
              · have hs_24 : Sat w0 ([cL v 3 (encN .i64) ((A ++ L1) ++ L2 ++ R1 ++ (R2 ++ B))] ++ cs) w_14 := by
                  have hq : l = (A ++ L1) ++ L2 ++ R1 ++ (R2 ++ B) := by rw [hl, hLs, hRs]; simp
                  rw [← hq]; exact hs_23
                refine .region <| .m rfl rfl <| .m rfl rfl <| .m rfl rfl <| .m rfl rfl <| .m rfl rfl ?_
                have hA_1 : Sat w0 ([cL v 3 (encN .i64) ((A ++ L1) ++ L2 ++ R1 ++ (R2 ++ B))] ++ ([] ++ cs)) _ := (Sat.order [0] (by decide) hs_24).cut 1
                refine .f rfl (.call ent159 rfl ((rotIn _ _ _ _ _ (A ++ L1) (L2) (R1) (R2 ++ B) (st) (m) (((mid + m) - st)) hA_1 (by rw [List.length_append]; omega) (by omega) (by omega) (by omega) (by omega) (by simp only [List.length_append]; omega)).mono fun r_4 w_15 h_4 => ?_))
                obtain ⟨rfl, hp_4⟩ := h_4
                have hs_25 : Sat w0 ([cL v 3 (encN .i64) ((A ++ L1) ++ R1 ++ L2 ++ (R2 ++ B))] ++ cs) _ := hp_4
                refine .nil ?_
                have hs_26 : Sat w0 ([cL v 3 (encN .i64) (A ++ L1 ++ R1 ++ (L2 ++ R2 ++ B))] ++ cs) w_15 := by
                  have hq : (A ++ L1) ++ R1 ++ L2 ++ (R2 ++ B) = A ++ L1 ++ R1 ++ (L2 ++ R2 ++ B) := by simp
                  rw [← hq]; exact hs_25
                exact ⟨⟨rfl, rfl, rfl, rfl, rfl, rfl, rfl, rfl, trivial⟩, hs_26⟩
              · refine .skip ?_
                have hs_27 : Sat w0 ([cL v 3 (encN .i64) (A ++ L1 ++ R1 ++ (L2 ++ R2 ++ B))] ++ cs) w_14 := by
                  have hq : l = A ++ L1 ++ R1 ++ (L2 ++ R2 ++ B) := by rw [hl, hLs, hRs]; (rcases (show L2.length = 0 ∨ R1.length = 0 by omega) with h0 | h0) <;> simp [List.eq_nil_of_length_eq_zero h0]
                  rw [← hq]; exact hs_23
                exact ⟨⟨rfl, rfl, rfl, rfl, rfl, rfl, rfl, rfl, trivial⟩, hs_27⟩
          · rintro L' w_16 ⟨hw_3, hs_28⟩
            refine .weaken _ hw_3 <| .seqMid (fun L' w' => ∃ (M1 : List Nat), Weak [(0, v), (1, (.int .i64 a)), (2, (.int .i64 m)), (3, (.int .i64 b)), (4, (.func (.func fi) #[] cap)), (18, (.int .i64 mid)), (20, (.int .i64 st)), (24, (.int .i64 (((mid + m) - st) : Nat)))] L' ∧ Sat w0 ([cL v 3 (encN .i64) (A ++ M1 ++ (L2 ++ R2 ++ B))] ++ cs) w' ∧ (Srt key M1) ∧ (Stb key (L1 ++ R1) M1)) ?_ ?_
            · refine .seq <| .mid (fun L' w' => Weak [(0, v), (1, (.int .i64 a)), (2, (.int .i64 m)), (3, (.int .i64 b)), (4, (.func (.func fi) #[] cap)), (18, (.int .i64 mid)), (20, (.int .i64 st)), (24, (.int .i64 (((mid + m) - st) : Nat))), (199, (.bool (decide ((a < st) ∧ (st < mid)))))] L' ∧ Sat w0 ([cL v 3 (encN .i64) (A ++ L1 ++ R1 ++ (L2 ++ R2 ++ B))] ++ cs) w') ?_ ?_
              · refine .region <| .m rfl rfl <| .m rfl rfl <| .e rfl (.lssN rfl rfl) <| .m rfl rfl ?_
                by_cases hg_2 : a < st
                · refine .yes rfl rfl rfl (decide_eq_true hg_2) <| .m rfl rfl <| .yes rfl rfl rfl (decide_eq_true hg_2) <| .m rfl rfl <| .yes rfl rfl rfl (decide_eq_true hg_2) <| .e rfl (.lssN rfl rfl) <| .e rfl (.pickY rfl (decide_eq_true hg_2) rfl) <| .nil ?_
                  exact ⟨⟨rfl, rfl, rfl, rfl, rfl, rfl, rfl, rfl, congrArg some (congrArg Value.bool (by simp [hg_2])), trivial⟩, hs_28⟩
                · refine .no rfl rfl rfl (decide_eq_false hg_2) rfl <| .no rfl rfl rfl (decide_eq_false hg_2) rfl <| .no rfl rfl rfl (decide_eq_false hg_2) rfl <| .e rfl (.pickN rfl (decide_eq_false hg_2) rfl) <| .nil ?_
                  exact ⟨⟨rfl, rfl, rfl, rfl, rfl, rfl, rfl, rfl, congrArg some (congrArg Value.bool (by simp [hg_2])), trivial⟩, hs_28⟩
              · rintro L' w_17 ⟨hw_4, hs_29⟩
                refine .weaken _ hw_4 <| .condD rfl (fun hc_13 => ?_) (fun hc_13 => ?_)
                · refine .region <| .m rfl rfl <| .m rfl rfl <| .m rfl rfl <| .m rfl rfl <| .m rfl rfl ?_
                  have hA_2 : Sat w0 ([cL v 3 (encN .i64) (A ++ L1 ++ R1 ++ (L2 ++ R2 ++ B))] ++ ([] ++ cs)) _ := (Sat.order [0] (by decide) hs_29).cut 1
                  refine .f rfl (.call ent157 rfl ((IH _ (A) (L1) (R1) (L2 ++ R2 ++ B) (a) (st) (mid) (by omega) (hA_2) (ha) (by omega) (by omega) (hs1) (hs3) (by omega) (by omega) (hp0) (by simp only [List.length_append]; omega)).mono fun r_5 w_18 h_5 => ?_))
                  obtain ⟨rfl, M1, hp_5, hM1, hS1⟩ := h_5
                  have hs_30 : Sat w0 ([cL v 3 (encN .i64) (A ++ M1 ++ (L2 ++ R2 ++ B))] ++ cs) _ := hp_5
                  refine .nil ?_
                  exact ⟨M1, ⟨rfl, rfl, rfl, rfl, rfl, rfl, rfl, rfl, trivial⟩, hs_30, hM1, hS1⟩
                · refine .skip ?_
                  have hs_31 : Sat w0 ([cL v 3 (encN .i64) (A ++ (L1 ++ R1) ++ (L2 ++ R2 ++ B))] ++ cs) w_17 := by
                    have hq : A ++ L1 ++ R1 ++ (L2 ++ R2 ++ B) = A ++ (L1 ++ R1) ++ (L2 ++ R2 ++ B) := by simp
                    rw [← hq]; exact hs_29
                  exact ⟨L1 ++ R1, ⟨rfl, rfl, rfl, rfl, rfl, rfl, rfl, rfl, trivial⟩, hs_31, Srt.or (by omega) hs1 hs3, Stb.refl _⟩
            · rintro L' w_19 ⟨M1, hw_5, hs_32, hM1, hS1⟩
              refine .weaken _ hw_5 <| .seq <| .mid (fun L' w' => Weak [(0, v), (1, (.int .i64 a)), (2, (.int .i64 m)), (3, (.int .i64 b)), (4, (.func (.func fi) #[] cap)), (18, (.int .i64 mid)), (20, (.int .i64 st)), (24, (.int .i64 (((mid + m) - st) : Nat))), (213, (.bool (decide ((mid < ((mid + m) - st)) ∧ (((mid + m) - st) < b)))))] L' ∧ Sat w0 ([cL v 3 (encN .i64) (A ++ M1 ++ (L2 ++ R2 ++ B))] ++ cs) w') ?_ ?_
              · refine .region <| .m rfl rfl <| .m rfl rfl <| .e rfl (.lssN rfl rfl) <| .m rfl rfl ?_
                by_cases hg_3 : mid < ((mid + m) - st)
                · refine .yes rfl rfl rfl (decide_eq_true hg_3) <| .m rfl rfl <| .yes rfl rfl rfl (decide_eq_true hg_3) <| .m rfl rfl <| .yes rfl rfl rfl (decide_eq_true hg_3) <| .e rfl (.lssN rfl rfl) <| .e rfl (.pickY rfl (decide_eq_true hg_3) rfl) <| .nil ?_
                  exact ⟨⟨rfl, rfl, rfl, rfl, rfl, rfl, rfl, rfl, congrArg some (congrArg Value.bool (by simp [hg_3])), trivial⟩, hs_32⟩
                · refine .no rfl rfl rfl (decide_eq_false hg_3) rfl <| .no rfl rfl rfl (decide_eq_false hg_3) rfl <| .no rfl rfl rfl (decide_eq_false hg_3) rfl <| .e rfl (.pickN rfl (decide_eq_false hg_3) rfl) <| .nil ?_
                  exact ⟨⟨rfl, rfl, rfl, rfl, rfl, rfl, rfl, rfl, congrArg some (congrArg Value.bool (by simp [hg_3])), trivial⟩, hs_32⟩
              · rintro L' w_20 ⟨hw_6, hs_33⟩
                refine .weaken _ hw_6 <| .condD rfl (fun hc_14 => ?_) (fun hc_14 => ?_)
                · have hs_34 : Sat w0 ([cL v 3 (encN .i64) ((A ++ M1) ++ L2 ++ R2 ++ B)] ++ cs) w_20 := by
                    have hq : A ++ M1 ++ (L2 ++ R2 ++ B) = (A ++ M1) ++ L2 ++ R2 ++ B := by simp
                    rw [← hq]; exact hs_33
                  refine .region <| .m rfl rfl <| .m rfl rfl <| .m rfl rfl <| .m rfl rfl <| .m rfl rfl ?_
                  have hA_3 : Sat w0 ([cL v 3 (encN .i64) ((A ++ M1) ++ L2 ++ R2 ++ B)] ++ ([] ++ cs)) _ := (Sat.order [0] (by decide) hs_34).cut 1
                  refine .f rfl (.call ent157 rfl ((IH _ (A ++ M1) (L2) (R2) (B) (mid) (((mid + m) - st)) (b) (by omega) (hA_3) (by have := hS1.length; simp only [List.length_append] at this ⊢; omega) (by omega) (by omega) (hs2) (hs4) (by omega) (by omega) (fun x hx => hp0 x (by have := hS1.mem (x := x); simp only [List.mem_append] at hx this ⊢; grind)) (by have := hS1.length; simp only [List.length_append] at this ⊢; omega)).mono fun r_6 w_21 h_6 => ?_))
                  obtain ⟨rfl, M2, hp_6, hM2, hS2⟩ := h_6
                  have hs_35 : Sat w0 ([cL v 3 (encN .i64) ((A ++ M1) ++ M2 ++ B)] ++ cs) _ := hp_6
                  refine .nil ?_
                  show PostK _ _ _ _ _ _
                  refine post0 rfl ?_
                  obtain ⟨hf1, hf2⟩ := sym_fin hLs hRs hne hle hM1 hM2 hS1 hS2
                  have hs_36 : Sat w0 ([cL v 3 (encN .i64) (A ++ (M1 ++ M2) ++ B)] ++ cs) w_21 := by
                    have hq : (A ++ M1) ++ M2 ++ B = A ++ (M1 ++ M2) ++ B := by simp
                    rw [← hq]; exact hs_35
                  exact ⟨rfl, _, hs_36, hf1, hf2⟩
                · refine .skip ?_
                  show PostK _ _ _ _ _ _
                  refine post0 rfl ?_
                  obtain ⟨hf1, hf2⟩ := sym_fin hLs hRs hne hle hM1 (Srt.or (by omega) hs2 hs4) hS1 (Stb.refl _)
                  have hs_37 : Sat w0 ([cL v 3 (encN .i64) (A ++ (M1 ++ (L2 ++ R2)) ++ B)] ++ cs) w_20 := by
                    have hq : A ++ M1 ++ (L2 ++ R2 ++ B) = A ++ (M1 ++ (L2 ++ R2)) ++ B := by simp
                    rw [← hq]; exact hs_33
                  exact ⟨rfl, _, hs_37, hf1, hf2⟩
theorem symIn (w0 w : World) (cs : List Chunk) (v : Value) (key : Nat → Nat) (D : Nat → Prop) (fi : FuncId) (cap : Array Value) (hE : Enters Tryz.prog fi) (hcmp : CmpOk Tryz.prog fi cap (fun x : Nat => Value.int .i64 (x : Int)) key D w0 cs) (A L R B : List Nat) (a m b : Nat) (hs : Sat w0 ([cL v 3 (encN .i64) (A ++ L ++ R ++ B)] ++ cs) w) (ha : a = A.length) (hm : m = a + L.length) (hb : b = m + R.length) (hL : Srt key L) (hR : Srt key R) (hL0 : 0 < L.length) (hR0 : 0 < R.length) (hD : ∀ x ∈ A ++ L ++ R ++ B, D x) (hn : (A ++ L ++ R ++ B).length ≤ 1000000000000) :
    CallsV Tryz.prog 157 [v, (.int .i64 (a : Int)), (.int .i64 (m : Int)), (.int .i64 (b : Int)), (.func (.func fi) #[] cap)] w (fun r w' => r = .tuple #[] ∧ ∃ M, Sat w0 ([cL v 3 (encN .i64) (A ++ M ++ B)] ++ cs) w' ∧ Srt key M ∧ Stb key (L ++ R) M) := by
  suffices H : ∀ k (w : World) (A L R B : List Nat) (a m b : Nat), L.length + R.length = k → Sat w0 ([cL v 3 (encN .i64) (A ++ L ++ R ++ B)] ++ cs) w → a = A.length → m = a + L.length → b = m + R.length → Srt key L → Srt key R → 0 < L.length → 0 < R.length → (∀ x ∈ A ++ L ++ R ++ B, D x) → (A ++ L ++ R ++ B).length ≤ 1000000000000 → CallsV Tryz.prog 157 [v, (.int .i64 (a : Int)), (.int .i64 (m : Int)), (.int .i64 (b : Int)), (.func (.func fi) #[] cap)] w (fun r w' => r = .tuple #[] ∧ ∃ M, Sat w0 ([cL v 3 (encN .i64) (A ++ M ++ B)] ++ cs) w' ∧ Srt key M ∧ Stb key (L ++ R) M) from
    H _ w A L R B a m b rfl hs ha hm hb hL hR hL0 hR0 hD hn
  intro k
  induction k using Nat.strongRecOn with
  | _ k ih =>
    intro w A L R B a m b hk hs ha hm hb hL hR hL0 hR0 hD hn
    exact symIn_step w0 w cs v key D fi cap hE hcmp k (fun w A L R B a m b h1 => ih _ h1 w A L R B a m b rfl) A L R B _ rfl a m b hk.symm hs ha hm hb hL hR hL0 hR0 hD hn
theorem stbIn (w0 w : World) (cs : List Chunk) (v : Value) (l : List Nat) (n : Nat) (key : Nat → Nat) (D : Nat → Prop) (fi : FuncId) (cap : Array Value) (hE : Enters Tryz.prog fi) (hcmp : CmpOk Tryz.prog fi cap (fun x : Nat => Value.int .i64 (x : Int)) key D w0 cs) (hs : Sat w0 ([cL v 3 (encN .i64) (l)] ++ cs) w) (hD : ∀ x ∈ l, D x) (hnl : n = l.length) (hn : l.length ≤ 1000000000000) :
    CallsV Tryz.prog 153 [v, (.int .i64 n), (.func (.func fi) #[] cap)] w fun r w' => r = .tuple #[] ∧ Sat w0 ([cL v 3 (encN .i64) (ssort key l)] ++ cs) w' := by
  refine callsV_of Tryz.func153 rfl rfl ?_
  refine .seq <| .region <| .s rfl rfl <| .nil <| .seq <| .region <| .m rfl rfl <| .s rfl rfl <| .s rfl rfl <| .nil <| .seq <| .block <| .loop (α := List Nat × List Nat) (fun (Pre, Suf) => [(0, v), (1, (.int .i64 n)), (2, (.func (.func fi) #[] cap)), (6, (.int .i64 (20 : Nat))), (7, (.int .i64 Pre.length)), (8, (.int .i64 ((Pre.length + 20) : Nat)))]) (fun (Pre, Suf) w' => Sat w0 ([cL v 3 (encN .i64) (Pre ++ Suf)] ++ cs) w' ∧ (Full key 20 Pre) ∧ (Stb key l (Pre ++ Suf))) (fun (Pre, Suf) => Suf.length) ([], l) ⟨rfl, rfl, rfl, rfl, rfl, rfl, trivial⟩ ⟨hs, .nil, Stb.refl _⟩ ?_
  rintro ⟨Pre, Suf⟩ w_1 ⟨hs_1, hF, hT⟩
  show CW _ _ _ _ [(0, v), (1, (.int .i64 n)), (2, (.func (.func fi) #[] cap)), (6, (.int .i64 (20 : Nat))), (7, (.int .i64 Pre.length)), (8, (.int .i64 ((Pre.length + 20) : Nat)))] _
  have hlT := hT.length
  rw [List.length_append] at hlT
  refine .seq <| .seq <| .region <| .m rfl rfl <| .m rfl rfl <| .e rfl (.leqN rfl rfl) <| .nil <| .condD rfl (fun hc_1 => ?_) (fun hc_1 => ?_)
  · refine .skip <| .block <| .seq <| .region <| .m rfl rfl <| .m rfl rfl <| .m rfl rfl <| .m rfl rfl ?_
    have hA_1 : Sat w0 ([cL v 3 (encN .i64) (Pre ++ Suf)] ++ ([] ++ cs)) _ := (Sat.order [0] (by decide) hs_1).cut 1
    refine .f rfl (.call ent126 rfl ((insIn w0 _ cs v (Pre ++ Suf) (Pre.length) ((Pre.length + 20)) key D fi cap hE hcmp hA_1 (fun x hx => hD x (hT.mem.2 hx)) (by simp) (by rw [List.length_append]; omega) (by rw [List.length_append]; omega)).mono fun r_1 w_2 h_1 => ?_))
    obtain ⟨rfl, hp_1⟩ := h_1
    have hs_2 : Sat w0 ([cL v 3 (encN .i64) (insS key Pre.length (Pre ++ Suf) ((Pre.length + 20) - Pre.length - 1))] ++ cs) _ := hp_1
    refine .nil ?_
    obtain ⟨S', hS1, hS2, hS3, hS4⟩ := blk_step hF hT (by omega)
    have hs_3 : Sat w0 ([cL v 3 (encN .i64) (Pre ++ S' ++ Suf.drop 20)] ++ cs) w_2 := by
      have hq : insS key Pre.length (Pre ++ Suf) ((Pre.length + 20) - Pre.length - 1) = Pre ++ S' ++ Suf.drop 20 := hS1
      rw [← hq]; exact hs_2
    refine .seq <| .region <| .m rfl rfl <| .s rfl rfl <| .nil <| .region <| .m rfl rfl <| .m rfl rfl <| .e rfl (.addI (b := 20) rfl rfl (by omega)) <| .s rfl rfl <| .nil ?_
    exact ⟨(Pre ++ S', Suf.drop 20), ⟨rfl, rfl, rfl, rfl, congrArg some (congrArg (Value.int .i64) (by simp [hS4])), congrArg some (congrArg (Value.int .i64) (by simp [hS4])), trivial⟩, ⟨hs_3, hS2, hS3⟩, (show ((Suf.drop 20).length) < (Suf.length) from by simp only [List.length_drop]; omega)⟩
  · refine .exit0 <| .seq <| .region <| .m rfl rfl <| .m rfl rfl <| .m rfl rfl <| .m rfl rfl ?_
    have hA_2 : Sat w0 ([cL v 3 (encN .i64) (Pre ++ Suf)] ++ ([] ++ cs)) _ := (Sat.order [0] (by decide) hs_1).cut 1
    refine .f rfl (.call ent126 rfl ((insIn w0 _ cs v (Pre ++ Suf) (Pre.length) (n) key D fi cap hE hcmp hA_2 (fun x hx => hD x (hT.mem.2 hx)) (by simp) (by rw [List.length_append]; omega) (by rw [List.length_append]; omega)).mono fun r_2 w_3 h_2 => ?_))
    obtain ⟨rfl, hp_2⟩ := h_2
    have hs_4 : Sat w0 ([cL v 3 (encN .i64) (insS key Pre.length (Pre ++ Suf) (n - Pre.length - 1))] ++ cs) _ := hp_2
    refine .nil ?_
    obtain ⟨hB0, hT0⟩ := blk_end (n := n) hF hT (by omega) hnl
    refine .block <| .loop (α := Nat × List Nat) (fun (bs, cur) => [(0, v), (1, (.int .i64 n)), (2, (.func (.func fi) #[] cap)), (6, (.int .i64 bs))]) (fun (bs, cur) w' => Sat w0 ([cL v 3 (encN .i64) (cur)] ++ cs) w' ∧ (0 < bs) ∧ (bs ≤ 2000000000020) ∧ (Blks key bs cur) ∧ (Stb key l cur)) (fun (bs, cur) => n - bs) (20, insS key Pre.length (Pre ++ Suf) (n - Pre.length - 1)) ⟨rfl, rfl, rfl, rfl, trivial⟩ ⟨hs_4, by omega, by omega, hB0, hT0⟩ ?_
    rintro ⟨bs, cur⟩ w_4 ⟨hs_5, hbs, hbs2, hB, hTc⟩
    show CW _ _ _ _ [(0, v), (1, (.int .i64 n)), (2, (.func (.func fi) #[] cap)), (6, (.int .i64 bs))] _
    refine .seq <| .seq <| .region <| .m rfl rfl <| .m rfl rfl <| .e rfl (.lssN rfl rfl) <| .nil <| .condD rfl (fun hc_2 => ?_) (fun hc_2 => ?_)
    · refine .skip <| .block <| .seq <| .region <| .m rfl rfl <| .e rfl (.mulI (a := 2) rfl rfl (by omega)) <| .s rfl rfl <| .s rfl rfl <| .nil <| .seq <| .block <| .loop (α := List Nat × List Nat) (fun (Pre, Suf) => [(0, v), (1, (.int .i64 n)), (2, (.func (.func fi) #[] cap)), (6, (.int .i64 bs)), (7, (.int .i64 Pre.length)), (8, (.int .i64 ((Pre.length + 2 * bs) : Nat)))]) (fun (Pre, Suf) w' => Sat w0 ([cL v 3 (encN .i64) (Pre ++ Suf)] ++ cs) w' ∧ (Full key (2 * bs) Pre) ∧ (Blks key bs Suf) ∧ (Stb key l (Pre ++ Suf))) (fun (Pre, Suf) => Suf.length) ([], cur) ⟨rfl, rfl, rfl, rfl, rfl, congrArg some (congrArg (Value.int .i64) (by simp)), trivial⟩ ⟨hs_5, .nil, hB, hTc⟩ ?_
      rintro ⟨Pre, Suf⟩ w_5 ⟨hs_6, hF, hBs, hTi⟩
      show CW _ _ _ _ [(0, v), (1, (.int .i64 n)), (2, (.func (.func fi) #[] cap)), (6, (.int .i64 bs)), (7, (.int .i64 Pre.length)), (8, (.int .i64 ((Pre.length + 2 * bs) : Nat)))] _
      have hlT := hTi.length
      rw [List.length_append] at hlT
      refine .seq <| .seq <| .region <| .m rfl rfl <| .m rfl rfl <| .e rfl (.leqN rfl rfl) <| .nil <| .condD rfl (fun hc_3 => ?_) (fun hc_3 => ?_)
      · refine .skip <| .block <| .seq ?_
        have hlT := hTi.length
        rw [List.length_append] at hlT
        obtain ⟨L, R, B, hSuf, hLl, hRl, hLs, hRs, hBB⟩ := hBs.two (by omega) hbs
        have hs_7 : Sat w0 ([cL v 3 (encN .i64) (Pre ++ L ++ R ++ B)] ++ cs) w_5 := by
          have hq : Pre ++ Suf = Pre ++ L ++ R ++ B := by rw [hSuf]; simp
          rw [← hq]; exact hs_6
        refine .region <| .m rfl rfl <| .m rfl rfl <| .m rfl rfl <| .m rfl rfl <| .e rfl (.addI rfl rfl (by omega)) <| .m rfl rfl <| .m rfl rfl ?_
        have hA_3 : Sat w0 ([cL v 3 (encN .i64) (Pre ++ L ++ R ++ B)] ++ ([] ++ cs)) _ := (Sat.order [0] (by decide) hs_7).cut 1
        refine .f rfl (.call ent157 rfl ((symIn w0 _ cs v key D fi cap hE hcmp (Pre) (L) (R) (B) (Pre.length) ((Pre.length + bs)) ((Pre.length + 2 * bs)) (hA_3) (rfl) (by omega) (by omega) (hLs) (hRs) (by omega) (by omega) (fun x hx => hD x (hTi.mem.2 (by rw [hSuf]; simpa using hx))) (by have h := congrArg List.length hSuf; simp only [List.length_append] at h ⊢; omega)).mono fun r_3 w_6 h_3 => ?_))
        obtain ⟨rfl, M, hp_3, hM, hS⟩ := h_3
        have hs_8 : Sat w0 ([cL v 3 (encN .i64) (Pre ++ M ++ B)] ++ cs) _ := hp_3
        refine .nil ?_
        obtain ⟨hm1, hm2, hm3⟩ := mrg_step hF hTi hSuf hLl hRl hM hS
        refine .seq <| .region <| .m rfl rfl <| .s rfl rfl <| .nil <| .region <| .m rfl rfl <| .m rfl rfl <| .e rfl (.mulI (a := 2) rfl rfl (by omega)) <| .e rfl (.addI rfl rfl (by omega)) <| .s rfl rfl <| .nil ?_
        exact ⟨(Pre ++ M, B), ⟨rfl, rfl, rfl, rfl, congrArg some (congrArg (Value.int .i64) (by simp [hm3])), congrArg some (congrArg (Value.int .i64) (by simp [hm3])), trivial⟩, ⟨hs_8, hm1, hBB, hm2⟩, (show ((B).length) < (Suf.length) from by rw [hSuf]; simp only [List.length_append]; omega)⟩
      · refine .exit0 <| .seq <| .seq <| .region <| .m rfl rfl <| .m rfl rfl <| .e rfl (.addI rfl rfl (by omega)) <| .s rfl rfl <| .nil <| .seq <| .region <| .m rfl rfl <| .m rfl rfl <| .e rfl (.lssN rfl rfl) <| .nil <| .condD rfl (fun hc_4 => ?_) (fun hc_4 => ?_)
        · obtain ⟨L, R, hSuf, hLl, hLs, hRs⟩ := hBs.split (by omega) (by omega)
          have hSufl : Suf.length = L.length + R.length := by rw [hSuf, List.length_append]
          have hs_9 : Sat w0 ([cL v 3 (encN .i64) (Pre ++ L ++ R ++ [])] ++ cs) w_5 := by
            have hq : Pre ++ Suf = Pre ++ L ++ R ++ [] := by rw [hSuf]; simp
            rw [← hq]; exact hs_6
          refine .region <| .m rfl rfl <| .m rfl rfl <| .m rfl rfl <| .m rfl rfl <| .m rfl rfl ?_
          have hA_4 : Sat w0 ([cL v 3 (encN .i64) (Pre ++ L ++ R ++ [])] ++ ([] ++ cs)) _ := (Sat.order [0] (by decide) hs_9).cut 1
          refine .f rfl (.call ent157 rfl ((symIn w0 _ cs v key D fi cap hE hcmp (Pre) (L) (R) ([]) (Pre.length) ((Pre.length + bs)) (n) (hA_4) (rfl) (by omega) (by omega) (hLs) (hRs) (by omega) (by omega) (fun x hx => hD x (hTi.mem.2 (by rw [hSuf]; simpa using hx))) (by simp only [List.length_append, List.length_nil]; omega)).mono fun r_4 w_7 h_4 => ?_))
          obtain ⟨rfl, M, hp_4, hM, hS⟩ := h_4
          have hs_10 : Sat w0 ([cL v 3 (encN .i64) (Pre ++ M ++ ([]))] ++ cs) _ := hp_4
          refine .nil <| .region <| .m rfl rfl <| .e rfl (.mulI (b := 2) rfl rfl (by omega)) <| .s rfl rfl <| .nil ?_
          exact ⟨(bs * 2, Pre ++ M ++ []), ⟨rfl, rfl, rfl, rfl, trivial⟩, ⟨hs_10, by omega, by omega, (mrg_fin hF hTi hSuf (by omega) hM hS).1, (mrg_fin hF hTi hSuf (by omega) hM hS).2⟩, (show (n - (bs * 2)) < (n - bs) from by omega)⟩
        · refine .skip <| .region <| .m rfl rfl <| .e rfl (.mulI (b := 2) rfl rfl (by omega)) <| .s rfl rfl <| .nil ?_
          exact ⟨(bs * 2, Pre ++ Suf), ⟨rfl, rfl, rfl, rfl, trivial⟩, ⟨hs_6, by omega, by omega, mrg_none hF hBs (by omega), hTi⟩, (show (n - (bs * 2)) < (n - bs) from by omega)⟩
    · refine .exit0 ?_
      show PostK _ _ _ _ _ _
      refine post0 rfl ?_
      have hs_11 : Sat w0 ([cL v 3 (encN .i64) (ssort key l)] ++ cs) w_4 := by
        have hq : cur = ssort key l := ssort_eq (hB.srt (by have := hTc.length; omega)) hTc
        rw [← hq]; exact hs_5
      exact ⟨rfl, hs_11⟩
theorem srtIn (w0 w : World) (cs : List Chunk) (v : Value) (l : List Nat) (key : Nat → Nat) (D : Nat → Prop) (fi : FuncId) (cap : Array Value) (hE : Enters Tryz.prog fi) (hcmp : CmpOk Tryz.prog fi cap (fun x : Nat => Value.int .i64 (x : Int)) key D w0 cs) (hs : Sat w0 ([cL v 3 (encN .i64) (l)] ++ cs) w) (hD : ∀ x ∈ l, D x) (hn : l.length ≤ 1000000000000) :
    CallsV Tryz.prog 143 [v, (.func (.func fi) #[] cap)] w fun r w' => r = .tuple #[] ∧ Sat w0 ([cL v 3 (encN .i64) (ssort key l)] ++ cs) w' := by
  refine callsV_of Tryz.func143 rfl rfl ?_
  refine .region <| .m rfl rfl <| .m rfl rfl <| .e rfl (.lenL Tryz.underlying27 rfl (hs.rdL 0 rfl)) <| .m rfl rfl ?_
  have hA_1 : Sat w0 ([cL v 3 (encN .i64) (l)] ++ ([] ++ cs)) _ := (Sat.order [0] (by decide) hs).cut 1
  refine .f rfl (.call ent153 rfl ((stbIn w0 _ cs v (l) (l.length) key D fi cap hE hcmp hA_1 hD rfl hn).mono fun r_1 w_1 h_1 => ?_))
  obtain ⟨rfl, hp_1⟩ := h_1
  have hs_1 : Sat w0 ([cL v 3 (encN .i64) (ssort key (l))] ++ cs) _ := hp_1
  refine .nil ?_
  show PostK _ _ _ _ _ _
  refine post0 rfl ?_
  exact ⟨rfl, hs_1⟩
end Go.Proofs.YtecfgjdpghddgaaGreat
