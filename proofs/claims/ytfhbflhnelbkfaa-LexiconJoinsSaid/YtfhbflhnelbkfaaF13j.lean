/- The walks of the functions of F13j, printed by our own program (kwgen.py) out of our descriptions (base.py). -/
import Derived.Test.YtfhbflhnelbkfaaF13g
import Derived.Test.YtfhbflhnelbkfaaF13e
import Derived.Test.YtfhbflhnelbkfaaTab
namespace Go.Proofs.Ytfhbflhnelbkfaa
open Go.RowKit Go.Kw
set_option maxRecDepth 100000
set_option linter.unusedVariables false
set_option linter.unusedSimpArgs false
theorem long80_ok (v : Value) (vs : List ByteArray) (w : World) (hv : RdL w v encTx vs) (hn : vs.length ≤ 9223372036854775807) :
    CallsV Try.prog 35 [v] w fun r w' => (∃ b, r = .bool b ∧ (b = false → vs.length ≤ 80)) ∧ Sat w [] w' := by
  have hs0 := Sat.start w
  refine callsV_of Try.func35 rfl rfl ?_
  refine CW.seq ?_
  refine CW.region ?_
  refine RT.ev rfl rfl (Ev.assign rfl) ?_
  refine RT.nil ?_
  refine CW.seq ?_
  refine CW.region ?_
  refine RT.ev rfl rfl (Ev.assign rfl) ?_
  refine RT.nil ?_
  refine CW.seq ?_
  refine CW.seq ?_
  refine CW.region ?_
  refine RT.ev rfl rfl (Ev.move rfl) ?_
  refine RT.ev rfl rfl (Ev.lenL Try.underlying45 rfl (hv.ext hs0.ext)) ?_
  refine RT.ev rfl rfl (Ev.move rfl) ?_
  refine RT.nil ?_
  refine CW.block ?_
  refine CW.loop (α := Nat × Int) (fun (k, z) => [(0, v), (3, (Value.int .i64 (z))), (6, v), (7, (Value.int .i64 ((vs.length : Nat) : Int))), (8, (Value.int .i64 ((k : Nat) : Int)))]) (fun (k, z) w' => Sat w [] w' ∧ (k ≤ vs.length)) (fun (k, z) => vs.length - k) (0, 0) ⟨rfl, rfl, rfl, rfl, rfl, trivial⟩ ⟨hs0, Nat.zero_le _⟩ ?_
  rintro ⟨k, z⟩ w_1 ⟨hs_1, hk⟩
  show CW _ _ _ _ [(0, v), (3, (Value.int .i64 (z))), (6, v), (7, (Value.int .i64 ((vs.length : Nat) : Int))), (8, (Value.int .i64 ((k : Nat) : Int)))] _
  refine CW.seq ?_
  refine CW.region ?_
  refine RT.ev rfl rfl (Ev.lssN rfl rfl) ?_
  refine RT.nil ?_
  refine CW.seq ?_
  refine CW.condD rfl (fun hc_1 => ?_) (fun hc_1 => ?_)
  · refine CW.skip ?_
    refine CW.seq ?_
    refine CW.block ?_
    refine CW.seq ?_
    obtain ⟨x, hx⟩ : ∃ x, (vs)[k]? = some x := ⟨_, List.getElem?_eq_getElem hc_1⟩
    refine CW.region ?_
    refine RT.ev rfl rfl (Ev.idxL (E := encTx) sl45 rfl rfl (hv.ext hs_1.ext) (by omega)) ?_
    refine RT.ev rfl rfl (Ev.ldL (E := encTx) scal9 rfl (hv.ext hs_1.ext) hx (by decide) rfl) ?_
    refine RT.ev rfl rfl (Ev.assign rfl) ?_
    refine RT.nil ?_
    refine CW.seq ?_
    refine CW.region ?_
    refine RT.ev rfl rfl (Ev.move rfl) ?_
    refine RT.ev rfl rfl (Ev.move rfl) ?_
    refine RT.ev rfl rfl (Ev.lenStr Try.underlying9 rfl) ?_
    refine RT.ev rfl rfl (Ev.addW (a := z) (b := ((x.size : Nat) : Int)) rfl rfl) ?_
    refine RT.ev rfl rfl (Ev.assign rfl) ?_
    refine RT.nil ?_
    refine CW.seq ?_
    refine CW.region ?_
    refine RT.ev rfl rfl (Ev.move rfl) ?_
    refine RT.ev rfl rfl (Ev.gtr rfl rfl) ?_
    refine RT.nil ?_
    refine CW.condD rfl (fun hc_2 => ?_) (fun hc_2 => ?_)
    · refine CW.seq ?_
      refine CW.region ?_
      refine RT.ev rfl rfl (Ev.assign rfl) ?_
      refine RT.nil ?_
      refine CW.ret ?_
      show PostK _ _ _ _ _ _
      refine post1 rfl rfl ?_
      exact ⟨⟨_, rfl, fun h9 => by first | cases h9 | (have := of_decide_eq_false h9; omega)⟩, hs_1⟩
    · refine CW.skip ?_
      refine CW.region ?_
      refine RT.ev rfl rfl (Ev.addI (b := 1) rfl rfl (by omega)) ?_
      refine RT.ev rfl rfl (Ev.move rfl) ?_
      refine RT.nil ?_
      exact ⟨(k + 1, (IntKind.i64.wrap (z + ((x.size : Nat) : Int)))), ⟨rfl, rfl, rfl, rfl, rfl, trivial⟩, ⟨hs_1, by omega⟩, (show (vs.length - (k + 1)) < (vs.length - k) from by omega)⟩
  · refine CW.exit0 ?_
    refine CW.seq ?_
    refine CW.region ?_
    refine RT.ev rfl rfl (Ev.move rfl) ?_
    refine RT.ev rfl rfl (Ev.lenL Try.underlying45 rfl (hv.ext hs_1.ext)) ?_
    refine RT.ev rfl rfl (Ev.gtrN (b := 80) rfl rfl) ?_
    refine RT.ev rfl rfl (Ev.assign rfl) ?_
    refine RT.nil ?_
    refine CW.ret ?_
    show PostK _ _ _ _ _ _
    refine post1 rfl rfl ?_
    exact ⟨⟨_, rfl, fun h9 => by first | cases h9 | (have := of_decide_eq_false h9; omega)⟩, hs_1⟩

theorem chk_of2 {vs : List ByteArray} (h : ∀ v ∈ vs, v.size ≤ 120 ∧ validN v = true) : chkN vs = 0 := by
  induction vs with
  | nil => rfl
  | cons v r ih =>
    have h1 := h v (List.mem_cons_self ..)
    rw [chkN, if_neg (by omega), if_neg (by rw [h1.2]; decide)]
    exact ih fun x hx => h x (List.mem_cons_of_mem _ hx)
theorem bld_of {l : List ByteArray} (h : ∀ x ∈ l, x.size ≤ 120 ∧ validN x = true) (hl : l.length ≤ 1024) : bldE l = 0 := by
  unfold bldE
  have := wordsN_length l
  rw [if_neg (by omega), if_neg (by rw [chk_of2 h]; decide), if_neg (by omega)]
theorem mem_allN {x : ByteArray} : ∀ {W : List ByteArray} {C : List Nat}, x ∈ allN W C → x ∈ W
  | [], _, h => by simp [allN] at h
  | _ :: _, [], h => by simp [allN] at h
  | y :: W, d :: C, h => by
    simp only [allN, List.mem_append] at h
    rcases h with h | h
    · rw [(List.mem_replicate.1 h).2]; exact List.mem_cons_self ..
    · exact List.mem_cons_of_mem _ (mem_allN h)
theorem all_iff {vs : List ByteArray} {x : ByteArray} : x ∈ allN (wordsN vs) (countsN vs) ↔ x ∈ vs :=
  ⟨fun h => wordsN_mem.1 (mem_allN h), fun h => allN_mem (countsN_length vs) cnt_one (wordsN_mem.2 h)⟩
theorem cnt_append (a b : List ByteArray) (x : ByteArray) : cnt (a ++ b) x = cnt a x + cnt b x := List.countP_append
theorem cnt_allN (f : ByteArray → Nat) (x : ByteArray) : ∀ {W : List ByteArray}, W.Nodup → (x ∈ W → cnt (allN W (W.map f)) x = f x) ∧ (¬ x ∈ W → cnt (allN W (W.map f)) x = 0)
  | [], _ => ⟨fun h => absurd h (by simp), fun _ => rfl⟩
  | y :: W, h => by
    have h2 := List.nodup_cons.1 h
    obtain ⟨i1, i2⟩ := cnt_allN f x h2.2
    have hr : cnt (List.replicate (f y) y) x = if y = x then f y else 0 := by
      unfold cnt; rw [List.countP_replicate]; simp
    simp only [List.map_cons, allN, cnt_append, hr]
    by_cases e : y = x
    · subst e
      rw [if_pos rfl, i2 h2.1]
      exact ⟨fun _ => rfl, fun h9 => absurd (List.mem_cons_self ..) h9⟩
    · rw [if_neg e, Nat.zero_add]
      refine ⟨fun h9 => ?_, fun h9 => i2 fun h8 => h9 (List.mem_cons_of_mem _ h8)⟩
      rcases List.mem_cons.1 h9 with h9 | h9
      · exact absurd h9.symm e
      · exact i1 h9
theorem asc_nodup {l : List ByteArray} (h : Asc l) : l.Nodup := List.Pairwise.imp (S := fun a b => a ≠ b) (fun {a b} (hab : SLt a b) (e : a = b) => SLt.irr a (by rw [← e] at hab; exact hab)) h
theorem cnt_all (vs : List ByteArray) (x : ByteArray) : cnt (allN (wordsN vs) (countsN vs)) x = cnt vs x := by
  unfold countsN
  have h := cnt_allN (cnt vs) x (asc_nodup (wordsN_asc vs))
  rcases Classical.em (x ∈ wordsN vs) with hm | hm
  · exact h.1 hm
  · rw [h.2 hm]; exact (cnt_zero fun h9 => hm (wordsN_mem.2 h9)).symm
theorem words_congr {a b : List ByteArray} (h : ∀ x, x ∈ a ↔ x ∈ b) : wordsN a = wordsN b := (wordsN_asc a).eq (wordsN_asc b) fun x => by rw [wordsN_mem, wordsN_mem]; exact h x
theorem counts_congr {a b : List ByteArray} (h : ∀ x, x ∈ a ↔ x ∈ b) (hc : ∀ x, cnt a x = cnt b x) : countsN a = countsN b := by
  unfold countsN; rw [words_congr h]; exact List.map_congr_left fun x _ => hc x
theorem jn_len {vs us : List ByteArray} : (allN (wordsN vs) (countsN vs) ++ allN (wordsN us) (countsN us)).length = vs.length + us.length := by
  rw [List.length_append, allN_length (countsN_length vs), allN_length (countsN_length us), counts_sum, counts_sum]
theorem jn_mem {vs us : List ByteArray} {x : ByteArray} : x ∈ allN (wordsN vs) (countsN vs) ++ allN (wordsN us) (countsN us) ↔ x ∈ vs ∨ x ∈ us := by rw [List.mem_append, all_iff, all_iff]
theorem jn_bld {vs us : List ByteArray} (h : bldE vs = 0) (h2 : bldE us = 0) (hl : vs.length ≤ 80) (hl2 : us.length ≤ 80) : bldE (allN (wordsN vs) (countsN vs) ++ allN (wordsN us) (countsN us)) = 0 := by
  refine bld_of (fun x hx => ?_) (by rw [jn_len]; omega)
  rcases jn_mem.1 hx with hx | hx
  · exact chk_all (bld_chk h) x hx
  · exact chk_all (bld_chk h2) x hx
theorem jn_bld2 {vs us : List ByteArray} (h : bldE vs = 0) (h2 : bldE us = 0) (hl : vs.length ≤ 80) (hl2 : us.length ≤ 80) : bldE (vs ++ us) = 0 := by
  refine bld_of (fun x hx => ?_) (by rw [List.length_append]; omega)
  rcases List.mem_append.1 hx with hx | hx
  · exact chk_all (bld_chk h) x hx
  · exact chk_all (bld_chk h2) x hx
theorem jn_w1 (vs us : List ByteArray) : wordsN (allN (wordsN vs) (countsN vs) ++ allN (wordsN us) (countsN us)) = wordsN (vs ++ us) := words_congr fun x => by rw [jn_mem, List.mem_append]
theorem jn_w2 (vs us : List ByteArray) : wordsN (allN (wordsN us) (countsN us) ++ allN (wordsN vs) (countsN vs)) = wordsN (vs ++ us) := words_congr fun x => by rw [jn_mem, List.mem_append]; exact Or.comm
theorem jn_c1 (vs us : List ByteArray) : countsN (allN (wordsN vs) (countsN vs) ++ allN (wordsN us) (countsN us)) = countsN (vs ++ us) := counts_congr (fun x => by rw [jn_mem, List.mem_append]) fun x => by rw [cnt_append, cnt_append, cnt_all, cnt_all]
theorem jn_c2 (vs us : List ByteArray) : countsN (allN (wordsN us) (countsN us) ++ allN (wordsN vs) (countsN vs)) = countsN (vs ++ us) := counts_congr (fun x => by rw [jn_mem, List.mem_append]; exact Or.comm) fun x => by rw [cnt_append, cnt_append, cnt_all, cnt_all]; omega
theorem bld_120 {vs : List ByteArray} (h : bldE vs = 0) : ∀ x ∈ wordsN vs, x.size ≤ 120 := fun x hx => (chk_all (bld_chk h) x (wordsN_mem.1 hx)).1
theorem bld_c1 {vs : List ByteArray} (h : bldE vs = 0) : ∀ c ∈ countsN vs, 1 ≤ c ∧ c ≤ 1000000 := fun c hc => by
  obtain ⟨i, hi⟩ := List.getElem?_of_mem hc
  have := counts_le hi
  have := bld_vlen h
  exact ⟨cnt_one c hc, by omega⟩
theorem bld_w {vs : List ByteArray} (h : bldE vs = 0) : (wordsN vs).length ≤ 10000 := by have := wordsN_length vs; have := bld_vlen h; omega

theorem lexiconJoins_ok (v : Value) (vs : List ByteArray) (u : Value) (us : List ByteArray) (w : World) (hv : RdL w v encTx vs) (hn : vs.length ≤ 9223372036854775807) (hu : RdL w u encTx us) (hn2 : us.length ≤ 9223372036854775807) :
    CallsV Try.prog 16 [v, u] w fun r w' => r = .bool true ∧ Sat w [] w' := by
  have hs0 := Sat.start w
  refine callsV_of Try.func16 rfl rfl ?_
  refine CW.seq ?_
  refine CW.region ?_
  refine RT.ev rfl rfl (Ev.assign rfl) ?_
  refine RT.nil ?_
  refine CW.seq ?_
  rcases Decidable.em (bldE (vs) = 0) with he | he
  · refine CW.region ?_
    refine RT.ev rfl rfl (Ev.move rfl) ?_
    refine RT.eff rfl rfl (OpE.call ent32 rfl ((lbuild_good (hv.ext hs0.ext) he).mono fun r_1 w_1 h_1 => ?_))
    obtain ⟨lg_1, lvw_1, lvc_1, lvo_1, lvn_1, rfl, hp_1⟩ := h_1
    have hs_1 : Sat w [cObj lg_1 92 [lvw_1, lvc_1, lvo_1], cL lvw_1 9 (encTx) (wordsN vs), cL lvc_1 3 (encN .i64) (countsN vs), cL lvo_1 3 (encN .i64) (ordN (wordsN vs)), cL lvn_1 3 (encN .i64) (vs.map (lbW (wordsN vs)))] _ := hs0.adds hp_1
    refine RT.ev rfl rfl (Ev.move rfl) ?_
    refine RT.ev rfl rfl (Ev.extract rfl rfl) ?_
    refine RT.ev rfl rfl (Ev.extract rfl rfl) ?_
    refine RT.ev rfl rfl (Ev.extract rfl rfl) ?_
    refine RT.ev rfl rfl (Ev.assign rfl) ?_
    refine RT.ev rfl rfl (Ev.assign rfl) ?_
    refine RT.ev rfl rfl (Ev.assign rfl) ?_
    refine RT.nil ?_
    refine CW.seq ?_
    rcases Decidable.em (bldE (us) = 0) with he2 | he2
    · refine CW.region ?_
      refine RT.ev rfl rfl (Ev.move rfl) ?_
      refine RT.eff rfl rfl (OpE.call ent32 rfl ((lbuild_good (hu.ext hs_1.ext) he2).mono fun r_2 w_2 h_2 => ?_))
      obtain ⟨lg_2, lvw_2, lvc_2, lvo_2, lvn_2, rfl, hp_2⟩ := h_2
      have hs_2 : Sat w [cObj lg_1 92 [lvw_1, lvc_1, lvo_1], cL lvw_1 9 (encTx) (wordsN vs), cL lvc_1 3 (encN .i64) (countsN vs), cL lvo_1 3 (encN .i64) (ordN (wordsN vs)), cL lvn_1 3 (encN .i64) (vs.map (lbW (wordsN vs))), cObj lg_2 92 [lvw_2, lvc_2, lvo_2], cL lvw_2 9 (encTx) (wordsN us), cL lvc_2 3 (encN .i64) (countsN us), cL lvo_2 3 (encN .i64) (ordN (wordsN us)), cL lvn_2 3 (encN .i64) (us.map (lbW (wordsN us)))] _ := hs_1.adds hp_2
      refine RT.ev rfl rfl (Ev.move rfl) ?_
      refine RT.ev rfl rfl (Ev.extract rfl rfl) ?_
      refine RT.ev rfl rfl (Ev.extract rfl rfl) ?_
      refine RT.ev rfl rfl (Ev.extract rfl rfl) ?_
      refine RT.ev rfl rfl (Ev.assign rfl) ?_
      refine RT.ev rfl rfl (Ev.assign rfl) ?_
      refine RT.ev rfl rfl (Ev.assign rfl) ?_
      refine RT.nil ?_
      refine CW.seq ?_
      refine CW.seq ?_
      refine CW.region ?_
      refine RT.ev rfl rfl (Ev.move rfl) ?_
      refine RT.eff rfl rfl (OpE.call ent35 rfl ((long80_ok _ _ _ (hv.ext hs_2.ext) (by assumption)).mono fun r_3 w_3 h_3 => ?_))
      obtain ⟨⟨lb_1, rfl, hlg_1⟩, hp_3⟩ := h_3
      have hs_3 : Sat w [cObj lg_1 92 [lvw_1, lvc_1, lvo_1], cL lvw_1 9 (encTx) (wordsN vs), cL lvc_1 3 (encN .i64) (countsN vs), cL lvo_1 3 (encN .i64) (ordN (wordsN vs)), cL lvn_1 3 (encN .i64) (vs.map (lbW (wordsN vs))), cObj lg_2 92 [lvw_2, lvc_2, lvo_2], cL lvw_2 9 (encTx) (wordsN us), cL lvc_2 3 (encN .i64) (countsN us), cL lvo_2 3 (encN .i64) (ordN (wordsN us)), cL lvn_2 3 (encN .i64) (us.map (lbW (wordsN us)))] _ := hs_2.adds hp_3
      refine RT.ev rfl rfl (Ev.move rfl) ?_
      by_cases hg_1 : lb_1 = true
      · refine RT.no rfl rfl rfl (hg_1) rfl ?_
        refine RT.no rfl rfl rfl (hg_1) rfl ?_
        refine RT.ev rfl rfl (Ev.pickY rfl (hg_1) rfl) ?_
        refine RT.ev rfl rfl (Ev.move rfl) ?_
        refine RT.no rfl rfl rfl (rfl) rfl ?_
        refine RT.no rfl rfl rfl (rfl) rfl ?_
        refine RT.ev rfl rfl (Ev.pickY rfl (rfl) rfl) ?_
        refine RT.ev rfl rfl (Ev.move rfl) ?_
        refine RT.no rfl rfl rfl (rfl) rfl ?_
        refine RT.no rfl rfl rfl (rfl) rfl ?_
        refine RT.ev rfl rfl (Ev.pickY rfl (rfl) rfl) ?_
        refine RT.nil ?_
        refine CW.condT rfl (rfl) ?_
        refine CW.seq ?_
        refine CW.region ?_
        refine RT.ev rfl rfl (Ev.assign rfl) ?_
        refine RT.nil ?_
        refine CW.ret ?_
        show PostK _ _ _ _ _ _
        refine post1 rfl rfl ?_
        have hs_4 : Sat w [] w_3 := hs_3.sub ((.cons _ (.cons _ (.cons _ (.cons _ (.cons _ (.cons _ (.cons _ (.cons _ (.cons _ (.cons _ .slnil)))))))))))
        exact ⟨rfl, hs_4⟩
      · refine RT.yes rfl rfl rfl (by simpa using hg_1) ?_
        refine RT.ev rfl rfl (Ev.move rfl) ?_
        refine RT.yes rfl rfl rfl (by simpa using hg_1) ?_
        refine RT.eff rfl rfl (OpE.call ent35 rfl ((long80_ok _ _ _ (hu.ext hs_3.ext) (by assumption)).mono fun r_4 w_4 h_4 => ?_))
        obtain ⟨⟨lb_2, rfl, hlg_2⟩, hp_4⟩ := h_4
        have hs_5 : Sat w [cObj lg_1 92 [lvw_1, lvc_1, lvo_1], cL lvw_1 9 (encTx) (wordsN vs), cL lvc_1 3 (encN .i64) (countsN vs), cL lvo_1 3 (encN .i64) (ordN (wordsN vs)), cL lvn_1 3 (encN .i64) (vs.map (lbW (wordsN vs))), cObj lg_2 92 [lvw_2, lvc_2, lvo_2], cL lvw_2 9 (encTx) (wordsN us), cL lvc_2 3 (encN .i64) (countsN us), cL lvo_2 3 (encN .i64) (ordN (wordsN us)), cL lvn_2 3 (encN .i64) (us.map (lbW (wordsN us)))] _ := hs_3.adds hp_4
        refine RT.ev rfl rfl (Ev.pickN rfl (by simpa using hg_1) rfl) ?_
        refine RT.ev rfl rfl (Ev.move rfl) ?_
        by_cases hg_2 : lb_2 = true
        · refine RT.no rfl rfl rfl (hg_2) rfl ?_
          refine RT.no rfl rfl rfl (hg_2) rfl ?_
          refine RT.ev rfl rfl (Ev.pickY rfl (hg_2) rfl) ?_
          refine RT.ev rfl rfl (Ev.move rfl) ?_
          refine RT.no rfl rfl rfl (rfl) rfl ?_
          refine RT.no rfl rfl rfl (rfl) rfl ?_
          refine RT.ev rfl rfl (Ev.pickY rfl (rfl) rfl) ?_
          refine RT.nil ?_
          refine CW.condT rfl (rfl) ?_
          refine CW.seq ?_
          refine CW.region ?_
          refine RT.ev rfl rfl (Ev.assign rfl) ?_
          refine RT.nil ?_
          refine CW.ret ?_
          show PostK _ _ _ _ _ _
          refine post1 rfl rfl ?_
          have hs_6 : Sat w [] w_4 := hs_5.sub ((.cons _ (.cons _ (.cons _ (.cons _ (.cons _ (.cons _ (.cons _ (.cons _ (.cons _ (.cons _ .slnil)))))))))))
          exact ⟨rfl, hs_6⟩
        · refine RT.yes rfl rfl rfl (by simpa using hg_2) ?_
          refine RT.ev rfl rfl (Ev.move rfl) ?_
          refine RT.yes rfl rfl rfl (by simpa using hg_2) ?_
          refine RT.ev rfl rfl (Ev.neqN (a := 0) (b := 0) rfl rfl) ?_
          refine RT.ev rfl rfl (Ev.pickN rfl (by simpa using hg_2) rfl) ?_
          refine RT.ev rfl rfl (Ev.move rfl) ?_
          refine RT.yes rfl rfl rfl (rfl) ?_
          refine RT.ev rfl rfl (Ev.move rfl) ?_
          refine RT.yes rfl rfl rfl (rfl) ?_
          refine RT.ev rfl rfl (Ev.neqN (a := 0) (b := 0) rfl rfl) ?_
          refine RT.ev rfl rfl (Ev.pickN rfl (rfl) rfl) ?_
          refine RT.nil ?_
          refine CW.condF rfl (rfl) ?_
          refine CW.skip ?_
          refine CW.seq ?_
          refine CW.seq ?_
          have hv80 : vs.length ≤ 80 := hlg_1 (by simpa using ‹¬ lb_1 = true›)
          have hu80 : us.length ≤ 80 := hlg_2 (by simpa using ‹¬ lb_2 = true›)
          have heL := jn_bld he he2 hv80 hu80
          have heR := jn_bld he2 he hu80 hv80
          have heJ := jn_bld2 he he2 hv80 hu80
          refine CW.region ?_
          refine RT.ev rfl rfl (Ev.move rfl) ?_
          refine RT.ev rfl rfl (Ev.eqlPt Try.underlying46 rfl rfl) ?_
          refine RT.ev rfl rfl (Ev.move rfl) ?_
          refine RT.yes rfl rfl rfl (rfl) ?_
          refine RT.ev rfl rfl (Ev.move rfl) ?_
          refine RT.yes rfl rfl rfl (rfl) ?_
          refine RT.ev rfl rfl (Ev.eqlPt Try.underlying46 rfl rfl) ?_
          refine RT.ev rfl rfl (Ev.pickN rfl (rfl) rfl) ?_
          refine RT.nil ?_
          refine CW.condF rfl (rfl) ?_
          refine CW.skip ?_
          refine CW.seq ?_
          refine CW.weaken [(0, _), (1, _), (4, _), (5, _), (7, _), (8, _), (10, _), (59, _), (65, _)] ⟨rfl, rfl, rfl, rfl, rfl, rfl, rfl, rfl, rfl, trivial⟩ ?_
          refine CW.region ?_
          refine RT.ev rfl rfl (Ev.move rfl) ?_
          refine RT.ev rfl rfl (Ev.move rfl) ?_
          refine RT.eff rfl rfl (OpE.call ent47 rfl ((merge_good _ _ _ _ _ _ _ _ _ _ _ _ _ _ _ (hs_5.lexAt 0 1 2 3 rfl rfl rfl rfl) (hs_5.lexAt 5 6 7 8 rfl rfl rfl rfl) (countsN_length vs) (countsN_length us) (sum_le he) (sum_le he2) (bld_len he) (bld_len he2) heL).mono fun r_5 w_5 h_5 => ?_))
          obtain ⟨lg_3, lvw_3, lvc_3, lvo_3, lv1_1, lv2_1, rfl, hp_5⟩ := h_5
          have hs_7 : Sat w [cObj lg_1 92 [lvw_1, lvc_1, lvo_1], cL lvw_1 9 (encTx) (wordsN vs), cL lvc_1 3 (encN .i64) (countsN vs), cL lvo_1 3 (encN .i64) (ordN (wordsN vs)), cL lvn_1 3 (encN .i64) (vs.map (lbW (wordsN vs))), cObj lg_2 92 [lvw_2, lvc_2, lvo_2], cL lvw_2 9 (encTx) (wordsN us), cL lvc_2 3 (encN .i64) (countsN us), cL lvo_2 3 (encN .i64) (ordN (wordsN us)), cL lvn_2 3 (encN .i64) (us.map (lbW (wordsN us))), cObj lg_3 92 [lvw_3, lvc_3, lvo_3], cL lvw_3 9 (encTx) (wordsN (allN (wordsN vs) (countsN vs) ++ allN (wordsN us) (countsN us))), cL lvc_3 3 (encN .i64) (countsN (allN (wordsN vs) (countsN vs) ++ allN (wordsN us) (countsN us))), cL lvo_3 3 (encN .i64) (ordN (wordsN (allN (wordsN vs) (countsN vs) ++ allN (wordsN us) (countsN us)))), cL lv1_1 3 (encN .i64) (((wordsN vs).map fun y => (numN (wordsN (allN (wordsN vs) (countsN vs) ++ allN (wordsN us) (countsN us))) y).1)), cL lv2_1 3 (encN .i64) (((wordsN us).map fun y => (numN (wordsN (allN (wordsN vs) (countsN vs) ++ allN (wordsN us) (countsN us))) y).1))] _ := hs_5.adds hp_5
          refine RT.ev rfl rfl (Ev.move rfl) ?_
          refine RT.ev rfl rfl (Ev.extract rfl rfl) ?_
          refine RT.ev rfl rfl (Ev.extract rfl rfl) ?_
          refine RT.ev rfl rfl (Ev.extract rfl rfl) ?_
          refine RT.ev rfl rfl (Ev.extract rfl rfl) ?_
          refine RT.ev rfl rfl (Ev.assign rfl) ?_
          refine RT.ev rfl rfl (Ev.assign rfl) ?_
          refine RT.ev rfl rfl (Ev.assign rfl) ?_
          refine RT.ev rfl rfl (Ev.assign rfl) ?_
          refine RT.nil ?_
          refine CW.seq ?_
          refine CW.region ?_
          refine RT.ev rfl rfl (Ev.move rfl) ?_
          refine RT.ev rfl rfl (Ev.move rfl) ?_
          refine RT.eff rfl rfl (OpE.call ent47 rfl ((merge_good _ _ _ _ _ _ _ _ _ _ _ _ _ _ _ (hs_7.lexAt 5 6 7 8 rfl rfl rfl rfl) (hs_7.lexAt 0 1 2 3 rfl rfl rfl rfl) (countsN_length us) (countsN_length vs) (sum_le he2) (sum_le he) (bld_len he2) (bld_len he) heR).mono fun r_6 w_6 h_6 => ?_))
          obtain ⟨lg_4, lvw_4, lvc_4, lvo_4, lv1_2, lv2_2, rfl, hp_6⟩ := h_6
          have hs_8 : Sat w [cObj lg_1 92 [lvw_1, lvc_1, lvo_1], cL lvw_1 9 (encTx) (wordsN vs), cL lvc_1 3 (encN .i64) (countsN vs), cL lvo_1 3 (encN .i64) (ordN (wordsN vs)), cL lvn_1 3 (encN .i64) (vs.map (lbW (wordsN vs))), cObj lg_2 92 [lvw_2, lvc_2, lvo_2], cL lvw_2 9 (encTx) (wordsN us), cL lvc_2 3 (encN .i64) (countsN us), cL lvo_2 3 (encN .i64) (ordN (wordsN us)), cL lvn_2 3 (encN .i64) (us.map (lbW (wordsN us))), cObj lg_3 92 [lvw_3, lvc_3, lvo_3], cL lvw_3 9 (encTx) (wordsN (allN (wordsN vs) (countsN vs) ++ allN (wordsN us) (countsN us))), cL lvc_3 3 (encN .i64) (countsN (allN (wordsN vs) (countsN vs) ++ allN (wordsN us) (countsN us))), cL lvo_3 3 (encN .i64) (ordN (wordsN (allN (wordsN vs) (countsN vs) ++ allN (wordsN us) (countsN us)))), cL lv1_1 3 (encN .i64) (((wordsN vs).map fun y => (numN (wordsN (allN (wordsN vs) (countsN vs) ++ allN (wordsN us) (countsN us))) y).1)), cL lv2_1 3 (encN .i64) (((wordsN us).map fun y => (numN (wordsN (allN (wordsN vs) (countsN vs) ++ allN (wordsN us) (countsN us))) y).1)), cObj lg_4 92 [lvw_4, lvc_4, lvo_4], cL lvw_4 9 (encTx) (wordsN (allN (wordsN us) (countsN us) ++ allN (wordsN vs) (countsN vs))), cL lvc_4 3 (encN .i64) (countsN (allN (wordsN us) (countsN us) ++ allN (wordsN vs) (countsN vs))), cL lvo_4 3 (encN .i64) (ordN (wordsN (allN (wordsN us) (countsN us) ++ allN (wordsN vs) (countsN vs)))), cL lv1_2 3 (encN .i64) (((wordsN us).map fun y => (numN (wordsN (allN (wordsN us) (countsN us) ++ allN (wordsN vs) (countsN vs))) y).1)), cL lv2_2 3 (encN .i64) (((wordsN vs).map fun y => (numN (wordsN (allN (wordsN us) (countsN us) ++ allN (wordsN vs) (countsN vs))) y).1))] _ := hs_7.adds hp_6
          refine RT.ev rfl rfl (Ev.move rfl) ?_
          refine RT.ev rfl rfl (Ev.extract rfl rfl) ?_
          refine RT.ev rfl rfl (Ev.extract rfl rfl) ?_
          refine RT.ev rfl rfl (Ev.extract rfl rfl) ?_
          refine RT.ev rfl rfl (Ev.extract rfl rfl) ?_
          refine RT.ev rfl rfl (Ev.assign rfl) ?_
          refine RT.ev rfl rfl (Ev.assign rfl) ?_
          refine RT.ev rfl rfl (Ev.assign rfl) ?_
          refine RT.ev rfl rfl (Ev.assign rfl) ?_
          refine RT.nil ?_
          refine CW.seq ?_
          refine CW.region ?_
          refine RT.ev rfl rfl (Ev.move rfl) ?_
          have hs_9 : Sat w [cObj lg_1 92 [lvw_1, lvc_1, lvo_1], cL lvw_1 9 (encTx) (wordsN vs), cL lvc_1 3 (encN .i64) (countsN vs), cL lvo_1 3 (encN .i64) (ordN (wordsN vs)), cL lvn_1 3 (encN .i64) (vs.map (lbW (wordsN vs))), cObj lg_2 92 [lvw_2, lvc_2, lvo_2], cL lvw_2 9 (encTx) (wordsN us), cL lvc_2 3 (encN .i64) (countsN us), cL lvo_2 3 (encN .i64) (ordN (wordsN us)), cL lvn_2 3 (encN .i64) (us.map (lbW (wordsN us))), cObj lg_3 92 [lvw_3, lvc_3, lvo_3], cL lvw_3 9 (encTx) (wordsN (allN (wordsN vs) (countsN vs) ++ allN (wordsN us) (countsN us))), cL lvc_3 3 (encN .i64) (countsN (allN (wordsN vs) (countsN vs) ++ allN (wordsN us) (countsN us))), cL lvo_3 3 (encN .i64) (ordN (wordsN (allN (wordsN vs) (countsN vs) ++ allN (wordsN us) (countsN us)))), cL lv1_1 3 (encN .i64) (((wordsN vs).map fun y => (numN (wordsN (allN (wordsN vs) (countsN vs) ++ allN (wordsN us) (countsN us))) y).1)), cL lv2_1 3 (encN .i64) (((wordsN us).map fun y => (numN (wordsN (allN (wordsN vs) (countsN vs) ++ allN (wordsN us) (countsN us))) y).1)), cObj lg_4 92 [lvw_4, lvc_4, lvo_4], cL lvw_4 9 (encTx) (wordsN (allN (wordsN us) (countsN us) ++ allN (wordsN vs) (countsN vs))), cL lvc_4 3 (encN .i64) (countsN (allN (wordsN us) (countsN us) ++ allN (wordsN vs) (countsN vs))), cL lvo_4 3 (encN .i64) (ordN (wordsN (allN (wordsN us) (countsN us) ++ allN (wordsN vs) (countsN vs)))), cL lv1_2 3 (encN .i64) (((wordsN us).map fun y => (numN (wordsN (allN (wordsN us) (countsN us) ++ allN (wordsN vs) (countsN vs))) y).1)), cL lv2_2 3 (encN .i64) (((wordsN vs).map fun y => (numN (wordsN (allN (wordsN us) (countsN us) ++ allN (wordsN vs) (countsN vs))) y).1)), cL (Value.slice none 0 0) 9 (encTx) ([])] _ := hs_8.newNilL 9 (encTx)
          refine RT.eff rfl rfl (OpE.appendL 22 sl45 hs_9 rfl rfl rfl Try.underlying45 (hv.ext hs_9.ext) (by simp only [List.length_nil]; omega) (by simp only [List.length_nil]; omega) fun v_1 w_7 hs_10 hch_1 => ?_)
          have hs_10d : Sat w [cObj lg_1 92 [lvw_1, lvc_1, lvo_1], cL lvw_1 9 (encTx) (wordsN vs), cL lvc_1 3 (encN .i64) (countsN vs), cL lvo_1 3 (encN .i64) (ordN (wordsN vs)), cL lvn_1 3 (encN .i64) (vs.map (lbW (wordsN vs))), cObj lg_2 92 [lvw_2, lvc_2, lvo_2], cL lvw_2 9 (encTx) (wordsN us), cL lvc_2 3 (encN .i64) (countsN us), cL lvo_2 3 (encN .i64) (ordN (wordsN us)), cL lvn_2 3 (encN .i64) (us.map (lbW (wordsN us))), cObj lg_3 92 [lvw_3, lvc_3, lvo_3], cL lvw_3 9 (encTx) (wordsN (allN (wordsN vs) (countsN vs) ++ allN (wordsN us) (countsN us))), cL lvc_3 3 (encN .i64) (countsN (allN (wordsN vs) (countsN vs) ++ allN (wordsN us) (countsN us))), cL lvo_3 3 (encN .i64) (ordN (wordsN (allN (wordsN vs) (countsN vs) ++ allN (wordsN us) (countsN us)))), cL lv1_1 3 (encN .i64) (((wordsN vs).map fun y => (numN (wordsN (allN (wordsN vs) (countsN vs) ++ allN (wordsN us) (countsN us))) y).1)), cL lv2_1 3 (encN .i64) (((wordsN us).map fun y => (numN (wordsN (allN (wordsN vs) (countsN vs) ++ allN (wordsN us) (countsN us))) y).1)), cObj lg_4 92 [lvw_4, lvc_4, lvo_4], cL lvw_4 9 (encTx) (wordsN (allN (wordsN us) (countsN us) ++ allN (wordsN vs) (countsN vs))), cL lvc_4 3 (encN .i64) (countsN (allN (wordsN us) (countsN us) ++ allN (wordsN vs) (countsN vs))), cL lvo_4 3 (encN .i64) (ordN (wordsN (allN (wordsN us) (countsN us) ++ allN (wordsN vs) (countsN vs)))), cL lv1_2 3 (encN .i64) (((wordsN us).map fun y => (numN (wordsN (allN (wordsN us) (countsN us) ++ allN (wordsN vs) (countsN vs))) y).1)), cL lv2_2 3 (encN .i64) (((wordsN vs).map fun y => (numN (wordsN (allN (wordsN us) (countsN us) ++ allN (wordsN vs) (countsN vs))) y).1)), cL v_1 9 (encTx) (vs)] _ := hs_10
          refine RT.ev rfl rfl (Ev.move rfl) ?_
          refine RT.eff rfl rfl (OpE.appendL 22 sl45 hs_10d rfl rfl rfl Try.underlying45 (hu.ext hs_10d.ext) (by omega) (by omega) fun v_2 w_8 hs_11 hch_2 => ?_)
          have hs_11d : Sat w [cObj lg_1 92 [lvw_1, lvc_1, lvo_1], cL lvw_1 9 (encTx) (wordsN vs), cL lvc_1 3 (encN .i64) (countsN vs), cL lvo_1 3 (encN .i64) (ordN (wordsN vs)), cL lvn_1 3 (encN .i64) (vs.map (lbW (wordsN vs))), cObj lg_2 92 [lvw_2, lvc_2, lvo_2], cL lvw_2 9 (encTx) (wordsN us), cL lvc_2 3 (encN .i64) (countsN us), cL lvo_2 3 (encN .i64) (ordN (wordsN us)), cL lvn_2 3 (encN .i64) (us.map (lbW (wordsN us))), cObj lg_3 92 [lvw_3, lvc_3, lvo_3], cL lvw_3 9 (encTx) (wordsN (allN (wordsN vs) (countsN vs) ++ allN (wordsN us) (countsN us))), cL lvc_3 3 (encN .i64) (countsN (allN (wordsN vs) (countsN vs) ++ allN (wordsN us) (countsN us))), cL lvo_3 3 (encN .i64) (ordN (wordsN (allN (wordsN vs) (countsN vs) ++ allN (wordsN us) (countsN us)))), cL lv1_1 3 (encN .i64) (((wordsN vs).map fun y => (numN (wordsN (allN (wordsN vs) (countsN vs) ++ allN (wordsN us) (countsN us))) y).1)), cL lv2_1 3 (encN .i64) (((wordsN us).map fun y => (numN (wordsN (allN (wordsN vs) (countsN vs) ++ allN (wordsN us) (countsN us))) y).1)), cObj lg_4 92 [lvw_4, lvc_4, lvo_4], cL lvw_4 9 (encTx) (wordsN (allN (wordsN us) (countsN us) ++ allN (wordsN vs) (countsN vs))), cL lvc_4 3 (encN .i64) (countsN (allN (wordsN us) (countsN us) ++ allN (wordsN vs) (countsN vs))), cL lvo_4 3 (encN .i64) (ordN (wordsN (allN (wordsN us) (countsN us) ++ allN (wordsN vs) (countsN vs)))), cL lv1_2 3 (encN .i64) (((wordsN us).map fun y => (numN (wordsN (allN (wordsN us) (countsN us) ++ allN (wordsN vs) (countsN vs))) y).1)), cL lv2_2 3 (encN .i64) (((wordsN vs).map fun y => (numN (wordsN (allN (wordsN us) (countsN us) ++ allN (wordsN vs) (countsN vs))) y).1)), cL v_2 9 (encTx) (vs ++ us)] _ := hs_11
          refine RT.eff rfl rfl (OpE.call ent32 rfl ((lbuild_good (hs_11d.rdL 22 rfl) heJ).mono fun r_7 w_9 h_7 => ?_))
          obtain ⟨lg_5, lvw_5, lvc_5, lvo_5, lvn_3, rfl, hp_7⟩ := h_7
          have hs_12 : Sat w [cObj lg_1 92 [lvw_1, lvc_1, lvo_1], cL lvw_1 9 (encTx) (wordsN vs), cL lvc_1 3 (encN .i64) (countsN vs), cL lvo_1 3 (encN .i64) (ordN (wordsN vs)), cL lvn_1 3 (encN .i64) (vs.map (lbW (wordsN vs))), cObj lg_2 92 [lvw_2, lvc_2, lvo_2], cL lvw_2 9 (encTx) (wordsN us), cL lvc_2 3 (encN .i64) (countsN us), cL lvo_2 3 (encN .i64) (ordN (wordsN us)), cL lvn_2 3 (encN .i64) (us.map (lbW (wordsN us))), cObj lg_3 92 [lvw_3, lvc_3, lvo_3], cL lvw_3 9 (encTx) (wordsN (allN (wordsN vs) (countsN vs) ++ allN (wordsN us) (countsN us))), cL lvc_3 3 (encN .i64) (countsN (allN (wordsN vs) (countsN vs) ++ allN (wordsN us) (countsN us))), cL lvo_3 3 (encN .i64) (ordN (wordsN (allN (wordsN vs) (countsN vs) ++ allN (wordsN us) (countsN us)))), cL lv1_1 3 (encN .i64) (((wordsN vs).map fun y => (numN (wordsN (allN (wordsN vs) (countsN vs) ++ allN (wordsN us) (countsN us))) y).1)), cL lv2_1 3 (encN .i64) (((wordsN us).map fun y => (numN (wordsN (allN (wordsN vs) (countsN vs) ++ allN (wordsN us) (countsN us))) y).1)), cObj lg_4 92 [lvw_4, lvc_4, lvo_4], cL lvw_4 9 (encTx) (wordsN (allN (wordsN us) (countsN us) ++ allN (wordsN vs) (countsN vs))), cL lvc_4 3 (encN .i64) (countsN (allN (wordsN us) (countsN us) ++ allN (wordsN vs) (countsN vs))), cL lvo_4 3 (encN .i64) (ordN (wordsN (allN (wordsN us) (countsN us) ++ allN (wordsN vs) (countsN vs)))), cL lv1_2 3 (encN .i64) (((wordsN us).map fun y => (numN (wordsN (allN (wordsN us) (countsN us) ++ allN (wordsN vs) (countsN vs))) y).1)), cL lv2_2 3 (encN .i64) (((wordsN vs).map fun y => (numN (wordsN (allN (wordsN us) (countsN us) ++ allN (wordsN vs) (countsN vs))) y).1)), cL v_2 9 (encTx) (vs ++ us), cObj lg_5 92 [lvw_5, lvc_5, lvo_5], cL lvw_5 9 (encTx) (wordsN (vs ++ us)), cL lvc_5 3 (encN .i64) (countsN (vs ++ us)), cL lvo_5 3 (encN .i64) (ordN (wordsN (vs ++ us))), cL lvn_3 3 (encN .i64) ((vs ++ us).map (lbW (wordsN (vs ++ us))))] _ := hs_11d.adds hp_7
          refine RT.ev rfl rfl (Ev.move rfl) ?_
          refine RT.ev rfl rfl (Ev.extract rfl rfl) ?_
          refine RT.ev rfl rfl (Ev.extract rfl rfl) ?_
          refine RT.ev rfl rfl (Ev.extract rfl rfl) ?_
          refine RT.ev rfl rfl (Ev.assign rfl) ?_
          refine RT.ev rfl rfl (Ev.assign rfl) ?_
          refine RT.ev rfl rfl (Ev.assign rfl) ?_
          refine RT.nil ?_
          refine CW.seq ?_
          refine CW.seq ?_
          refine CW.weaken [(0, _), (1, _), (4, _), (5, _), (7, _), (8, _), (10, _), (11, _), (12, _), (13, _), (14, _), (15, _), (18, _), (19, _), (21, _), (59, _), (65, _)] ⟨rfl, rfl, rfl, rfl, rfl, rfl, rfl, rfl, rfl, rfl, rfl, rfl, rfl, rfl, rfl, rfl, rfl, trivial⟩ ?_
          refine CW.region ?_
          refine RT.ev rfl rfl (Ev.move rfl) ?_
          refine RT.ev rfl rfl (Ev.neqN (a := 0) (b := 0) rfl rfl) ?_
          refine RT.ev rfl rfl (Ev.move rfl) ?_
          refine RT.yes rfl rfl rfl (rfl) ?_
          refine RT.ev rfl rfl (Ev.move rfl) ?_
          refine RT.yes rfl rfl rfl (rfl) ?_
          refine RT.ev rfl rfl (Ev.neqN (a := 0) (b := 0) rfl rfl) ?_
          refine RT.ev rfl rfl (Ev.pickN rfl (rfl) rfl) ?_
          refine RT.ev rfl rfl (Ev.move rfl) ?_
          refine RT.yes rfl rfl rfl (rfl) ?_
          refine RT.ev rfl rfl (Ev.move rfl) ?_
          refine RT.yes rfl rfl rfl (rfl) ?_
          refine RT.ev rfl rfl (Ev.neqN (a := 0) (b := 0) rfl rfl) ?_
          refine RT.ev rfl rfl (Ev.pickN rfl (rfl) rfl) ?_
          refine RT.ev rfl rfl (Ev.move rfl) ?_
          refine RT.yes rfl rfl rfl (rfl) ?_
          refine RT.ev rfl rfl (Ev.move rfl) ?_
          refine RT.yes rfl rfl rfl (rfl) ?_
          refine RT.ev rfl rfl (Ev.eqlPt Try.underlying46 rfl rfl) ?_
          refine RT.ev rfl rfl (Ev.pickN rfl (rfl) rfl) ?_
          refine RT.ev rfl rfl (Ev.move rfl) ?_
          refine RT.yes rfl rfl rfl (rfl) ?_
          refine RT.ev rfl rfl (Ev.move rfl) ?_
          refine RT.yes rfl rfl rfl (rfl) ?_
          refine RT.ev rfl rfl (Ev.eqlPt Try.underlying46 rfl rfl) ?_
          refine RT.ev rfl rfl (Ev.pickN rfl (rfl) rfl) ?_
          refine RT.ev rfl rfl (Ev.move rfl) ?_
          refine RT.yes rfl rfl rfl (rfl) ?_
          refine RT.ev rfl rfl (Ev.move rfl) ?_
          refine RT.yes rfl rfl rfl (rfl) ?_
          refine RT.ev rfl rfl (Ev.eqlPt Try.underlying46 rfl rfl) ?_
          refine RT.ev rfl rfl (Ev.pickN rfl (rfl) rfl) ?_
          refine RT.ev rfl rfl (Ev.move rfl) ?_
          refine RT.yes rfl rfl rfl (rfl) ?_
          refine RT.ev rfl rfl (Ev.move rfl) ?_
          refine RT.yes rfl rfl rfl (rfl) ?_
          refine RT.ev rfl rfl (Ev.lenL Try.underlying22 rfl (hs_12.rdL 14 rfl)) ?_
          refine RT.yes rfl rfl rfl (rfl) ?_
          refine RT.ev rfl rfl (Ev.move rfl) ?_
          refine RT.yes rfl rfl rfl (rfl) ?_
          refine RT.eff rfl rfl (OpE.call ent34 rfl ((size_ok _ _ _ _ _ _ _ _ (hs_12.lexAt 0 1 2 3 rfl rfl rfl rfl)).mono fun r_8 w_10 h_8 => ?_))
          obtain ⟨rfl, hp_8⟩ := h_8
          have hs_13 : Sat w [cObj lg_1 92 [lvw_1, lvc_1, lvo_1], cL lvw_1 9 (encTx) (wordsN vs), cL lvc_1 3 (encN .i64) (countsN vs), cL lvo_1 3 (encN .i64) (ordN (wordsN vs)), cL lvn_1 3 (encN .i64) (vs.map (lbW (wordsN vs))), cObj lg_2 92 [lvw_2, lvc_2, lvo_2], cL lvw_2 9 (encTx) (wordsN us), cL lvc_2 3 (encN .i64) (countsN us), cL lvo_2 3 (encN .i64) (ordN (wordsN us)), cL lvn_2 3 (encN .i64) (us.map (lbW (wordsN us))), cObj lg_3 92 [lvw_3, lvc_3, lvo_3], cL lvw_3 9 (encTx) (wordsN (allN (wordsN vs) (countsN vs) ++ allN (wordsN us) (countsN us))), cL lvc_3 3 (encN .i64) (countsN (allN (wordsN vs) (countsN vs) ++ allN (wordsN us) (countsN us))), cL lvo_3 3 (encN .i64) (ordN (wordsN (allN (wordsN vs) (countsN vs) ++ allN (wordsN us) (countsN us)))), cL lv1_1 3 (encN .i64) (((wordsN vs).map fun y => (numN (wordsN (allN (wordsN vs) (countsN vs) ++ allN (wordsN us) (countsN us))) y).1)), cL lv2_1 3 (encN .i64) (((wordsN us).map fun y => (numN (wordsN (allN (wordsN vs) (countsN vs) ++ allN (wordsN us) (countsN us))) y).1)), cObj lg_4 92 [lvw_4, lvc_4, lvo_4], cL lvw_4 9 (encTx) (wordsN (allN (wordsN us) (countsN us) ++ allN (wordsN vs) (countsN vs))), cL lvc_4 3 (encN .i64) (countsN (allN (wordsN us) (countsN us) ++ allN (wordsN vs) (countsN vs))), cL lvo_4 3 (encN .i64) (ordN (wordsN (allN (wordsN us) (countsN us) ++ allN (wordsN vs) (countsN vs)))), cL lv1_2 3 (encN .i64) (((wordsN us).map fun y => (numN (wordsN (allN (wordsN us) (countsN us) ++ allN (wordsN vs) (countsN vs))) y).1)), cL lv2_2 3 (encN .i64) (((wordsN vs).map fun y => (numN (wordsN (allN (wordsN us) (countsN us) ++ allN (wordsN vs) (countsN vs))) y).1)), cL v_2 9 (encTx) (vs ++ us), cObj lg_5 92 [lvw_5, lvc_5, lvo_5], cL lvw_5 9 (encTx) (wordsN (vs ++ us)), cL lvc_5 3 (encN .i64) (countsN (vs ++ us)), cL lvo_5 3 (encN .i64) (ordN (wordsN (vs ++ us))), cL lvn_3 3 (encN .i64) ((vs ++ us).map (lbW (wordsN (vs ++ us))))] _ := hs_12.adds hp_8
          refine RT.yes rfl rfl rfl (rfl) ?_
          refine RT.ev rfl rfl (Ev.neqN rfl rfl) ?_
          refine RT.ev rfl rfl (Ev.pickN rfl (rfl) rfl) ?_
          refine RT.ev rfl rfl (Ev.move rfl) ?_
          refine RT.yes rfl rfl rfl (decide_eq_false (fun h9 => h9 (List.length_map ..))) ?_
          refine RT.ev rfl rfl (Ev.move rfl) ?_
          refine RT.yes rfl rfl rfl (decide_eq_false (fun h9 => h9 (List.length_map ..))) ?_
          refine RT.ev rfl rfl (Ev.lenL Try.underlying22 rfl (hs_13.rdL 15 rfl)) ?_
          refine RT.yes rfl rfl rfl (decide_eq_false (fun h9 => h9 (List.length_map ..))) ?_
          refine RT.ev rfl rfl (Ev.move rfl) ?_
          refine RT.yes rfl rfl rfl (decide_eq_false (fun h9 => h9 (List.length_map ..))) ?_
          refine RT.eff rfl rfl (OpE.call ent34 rfl ((size_ok _ _ _ _ _ _ _ _ (hs_13.lexAt 5 6 7 8 rfl rfl rfl rfl)).mono fun r_9 w_11 h_9 => ?_))
          obtain ⟨rfl, hp_9⟩ := h_9
          have hs_14 : Sat w [cObj lg_1 92 [lvw_1, lvc_1, lvo_1], cL lvw_1 9 (encTx) (wordsN vs), cL lvc_1 3 (encN .i64) (countsN vs), cL lvo_1 3 (encN .i64) (ordN (wordsN vs)), cL lvn_1 3 (encN .i64) (vs.map (lbW (wordsN vs))), cObj lg_2 92 [lvw_2, lvc_2, lvo_2], cL lvw_2 9 (encTx) (wordsN us), cL lvc_2 3 (encN .i64) (countsN us), cL lvo_2 3 (encN .i64) (ordN (wordsN us)), cL lvn_2 3 (encN .i64) (us.map (lbW (wordsN us))), cObj lg_3 92 [lvw_3, lvc_3, lvo_3], cL lvw_3 9 (encTx) (wordsN (allN (wordsN vs) (countsN vs) ++ allN (wordsN us) (countsN us))), cL lvc_3 3 (encN .i64) (countsN (allN (wordsN vs) (countsN vs) ++ allN (wordsN us) (countsN us))), cL lvo_3 3 (encN .i64) (ordN (wordsN (allN (wordsN vs) (countsN vs) ++ allN (wordsN us) (countsN us)))), cL lv1_1 3 (encN .i64) (((wordsN vs).map fun y => (numN (wordsN (allN (wordsN vs) (countsN vs) ++ allN (wordsN us) (countsN us))) y).1)), cL lv2_1 3 (encN .i64) (((wordsN us).map fun y => (numN (wordsN (allN (wordsN vs) (countsN vs) ++ allN (wordsN us) (countsN us))) y).1)), cObj lg_4 92 [lvw_4, lvc_4, lvo_4], cL lvw_4 9 (encTx) (wordsN (allN (wordsN us) (countsN us) ++ allN (wordsN vs) (countsN vs))), cL lvc_4 3 (encN .i64) (countsN (allN (wordsN us) (countsN us) ++ allN (wordsN vs) (countsN vs))), cL lvo_4 3 (encN .i64) (ordN (wordsN (allN (wordsN us) (countsN us) ++ allN (wordsN vs) (countsN vs)))), cL lv1_2 3 (encN .i64) (((wordsN us).map fun y => (numN (wordsN (allN (wordsN us) (countsN us) ++ allN (wordsN vs) (countsN vs))) y).1)), cL lv2_2 3 (encN .i64) (((wordsN vs).map fun y => (numN (wordsN (allN (wordsN us) (countsN us) ++ allN (wordsN vs) (countsN vs))) y).1)), cL v_2 9 (encTx) (vs ++ us), cObj lg_5 92 [lvw_5, lvc_5, lvo_5], cL lvw_5 9 (encTx) (wordsN (vs ++ us)), cL lvc_5 3 (encN .i64) (countsN (vs ++ us)), cL lvo_5 3 (encN .i64) (ordN (wordsN (vs ++ us))), cL lvn_3 3 (encN .i64) ((vs ++ us).map (lbW (wordsN (vs ++ us))))] _ := hs_13.adds hp_9
          refine RT.yes rfl rfl rfl (decide_eq_false (fun h9 => h9 (List.length_map ..))) ?_
          refine RT.ev rfl rfl (Ev.neqN rfl rfl) ?_
          refine RT.ev rfl rfl (Ev.pickN rfl (decide_eq_false (fun h9 => h9 (List.length_map ..))) rfl) ?_
          refine RT.nil ?_
          refine CW.condF rfl (decide_eq_false (fun h9 => h9 (List.length_map ..))) ?_
          refine CW.skip ?_
          refine CW.seq ?_
          refine CW.seq ?_
          refine CW.weaken [(0, _), (1, _), (4, _), (5, _), (7, _), (8, _), (10, _), (11, _), (12, _), (13, _), (14, _), (15, _), (18, _), (19, _), (21, _), (59, _), (65, _), (126, _)] ⟨rfl, rfl, rfl, rfl, rfl, rfl, rfl, rfl, rfl, rfl, rfl, rfl, rfl, rfl, rfl, rfl, rfl, rfl, trivial⟩ ?_
          have hll_vs : ((wordsN vs).map (lbW (wordsN (allN (wordsN vs) (countsN vs) ++ allN (wordsN us) (countsN us))))).length = (wordsN vs).length := List.length_map ..
          have hlb_vs := bld_w he
          have hll_us : ((wordsN us).map (lbW (wordsN (allN (wordsN vs) (countsN vs) ++ allN (wordsN us) (countsN us))))).length = (wordsN us).length := List.length_map ..
          have hlb_us := bld_w he2
          have hs_15 : Sat w [cObj lg_1 92 [lvw_1, lvc_1, lvo_1], cL lvw_1 9 (encTx) (wordsN vs), cL lvc_1 3 (encN .i64) (countsN vs), cL lvo_1 3 (encN .i64) (ordN (wordsN vs)), cL lvn_1 3 (encN .i64) (vs.map (lbW (wordsN vs))), cObj lg_2 92 [lvw_2, lvc_2, lvo_2], cL lvw_2 9 (encTx) (wordsN us), cL lvc_2 3 (encN .i64) (countsN us), cL lvo_2 3 (encN .i64) (ordN (wordsN us)), cL lvn_2 3 (encN .i64) (us.map (lbW (wordsN us))), cObj lg_3 92 [lvw_3, lvc_3, lvo_3], cL lvw_3 9 (encTx) (wordsN (allN (wordsN vs) (countsN vs) ++ allN (wordsN us) (countsN us))), cL lvc_3 3 (encN .i64) (countsN (allN (wordsN vs) (countsN vs) ++ allN (wordsN us) (countsN us))), cL lvo_3 3 (encN .i64) (ordN (wordsN (allN (wordsN vs) (countsN vs) ++ allN (wordsN us) (countsN us)))), cL lv1_1 3 (encN .i64) ((wordsN vs).map (lbW (wordsN (allN (wordsN vs) (countsN vs) ++ allN (wordsN us) (countsN us))))), cL lv2_1 3 (encN .i64) (((wordsN us).map fun y => (numN (wordsN (allN (wordsN vs) (countsN vs) ++ allN (wordsN us) (countsN us))) y).1)), cObj lg_4 92 [lvw_4, lvc_4, lvo_4], cL lvw_4 9 (encTx) (wordsN (allN (wordsN us) (countsN us) ++ allN (wordsN vs) (countsN vs))), cL lvc_4 3 (encN .i64) (countsN (allN (wordsN us) (countsN us) ++ allN (wordsN vs) (countsN vs))), cL lvo_4 3 (encN .i64) (ordN (wordsN (allN (wordsN us) (countsN us) ++ allN (wordsN vs) (countsN vs)))), cL lv1_2 3 (encN .i64) (((wordsN us).map fun y => (numN (wordsN (allN (wordsN us) (countsN us) ++ allN (wordsN vs) (countsN vs))) y).1)), cL lv2_2 3 (encN .i64) (((wordsN vs).map fun y => (numN (wordsN (allN (wordsN us) (countsN us) ++ allN (wordsN vs) (countsN vs))) y).1)), cL v_2 9 (encTx) (vs ++ us), cObj lg_5 92 [lvw_5, lvc_5, lvo_5], cL lvw_5 9 (encTx) (wordsN (vs ++ us)), cL lvc_5 3 (encN .i64) (countsN (vs ++ us)), cL lvo_5 3 (encN .i64) (ordN (wordsN (vs ++ us))), cL lvn_3 3 (encN .i64) ((vs ++ us).map (lbW (wordsN (vs ++ us))))] w_11 := hs_14.reL 14 rfl (show ((wordsN vs).map fun y => (numN (wordsN (allN (wordsN vs) (countsN vs) ++ allN (wordsN us) (countsN us))) y).1) = (wordsN vs).map (lbW (wordsN (allN (wordsN vs) (countsN vs) ++ allN (wordsN us) (countsN us)))) from nums_eq all_mem1)
          have hs_16 : Sat w [cObj lg_1 92 [lvw_1, lvc_1, lvo_1], cL lvw_1 9 (encTx) (wordsN vs), cL lvc_1 3 (encN .i64) (countsN vs), cL lvo_1 3 (encN .i64) (ordN (wordsN vs)), cL lvn_1 3 (encN .i64) (vs.map (lbW (wordsN vs))), cObj lg_2 92 [lvw_2, lvc_2, lvo_2], cL lvw_2 9 (encTx) (wordsN us), cL lvc_2 3 (encN .i64) (countsN us), cL lvo_2 3 (encN .i64) (ordN (wordsN us)), cL lvn_2 3 (encN .i64) (us.map (lbW (wordsN us))), cObj lg_3 92 [lvw_3, lvc_3, lvo_3], cL lvw_3 9 (encTx) (wordsN (allN (wordsN vs) (countsN vs) ++ allN (wordsN us) (countsN us))), cL lvc_3 3 (encN .i64) (countsN (allN (wordsN vs) (countsN vs) ++ allN (wordsN us) (countsN us))), cL lvo_3 3 (encN .i64) (ordN (wordsN (allN (wordsN vs) (countsN vs) ++ allN (wordsN us) (countsN us)))), cL lv1_1 3 (encN .i64) ((wordsN vs).map (lbW (wordsN (allN (wordsN vs) (countsN vs) ++ allN (wordsN us) (countsN us))))), cL lv2_1 3 (encN .i64) ((wordsN us).map (lbW (wordsN (allN (wordsN vs) (countsN vs) ++ allN (wordsN us) (countsN us))))), cObj lg_4 92 [lvw_4, lvc_4, lvo_4], cL lvw_4 9 (encTx) (wordsN (allN (wordsN us) (countsN us) ++ allN (wordsN vs) (countsN vs))), cL lvc_4 3 (encN .i64) (countsN (allN (wordsN us) (countsN us) ++ allN (wordsN vs) (countsN vs))), cL lvo_4 3 (encN .i64) (ordN (wordsN (allN (wordsN us) (countsN us) ++ allN (wordsN vs) (countsN vs)))), cL lv1_2 3 (encN .i64) (((wordsN us).map fun y => (numN (wordsN (allN (wordsN us) (countsN us) ++ allN (wordsN vs) (countsN vs))) y).1)), cL lv2_2 3 (encN .i64) (((wordsN vs).map fun y => (numN (wordsN (allN (wordsN us) (countsN us) ++ allN (wordsN vs) (countsN vs))) y).1)), cL v_2 9 (encTx) (vs ++ us), cObj lg_5 92 [lvw_5, lvc_5, lvo_5], cL lvw_5 9 (encTx) (wordsN (vs ++ us)), cL lvc_5 3 (encN .i64) (countsN (vs ++ us)), cL lvo_5 3 (encN .i64) (ordN (wordsN (vs ++ us))), cL lvn_3 3 (encN .i64) ((vs ++ us).map (lbW (wordsN (vs ++ us))))] w_11 := hs_15.reL 15 rfl (show ((wordsN us).map fun y => (numN (wordsN (allN (wordsN vs) (countsN vs) ++ allN (wordsN us) (countsN us))) y).1) = (wordsN us).map (lbW (wordsN (allN (wordsN vs) (countsN vs) ++ allN (wordsN us) (countsN us)))) from nums_eq all_mem2)
          refine CW.region ?_
          refine RT.ev rfl rfl (Ev.move rfl) ?_
          refine RT.ev rfl rfl (Ev.lenL Try.underlying22 rfl (hs_16.rdL 14 rfl)) ?_
          refine RT.ev rfl rfl (Ev.move rfl) ?_
          refine RT.nil ?_
          refine CW.block ?_
          refine CW.loop (α := Nat) (fun k => [(5, (Value.pointer (some ⟨lg_1, 0, none⟩))), (8, (Value.pointer (some ⟨lg_2, 0, none⟩))), (11, (Value.pointer (some ⟨lg_3, 0, none⟩))), (13, lv2_1), (15, (Value.pointer (some ⟨lg_4, 0, none⟩))), (19, (Value.pointer (some ⟨lg_5, 0, none⟩))), (127, lv1_1), (128, (Value.int .i64 ((((wordsN vs).map (lbW (wordsN (allN (wordsN vs) (countsN vs) ++ allN (wordsN us) (countsN us))))).length : Nat) : Int))), (129, (Value.int .i64 ((k : Nat) : Int)))]) (fun k w' => Sat w [cObj lg_1 92 [lvw_1, lvc_1, lvo_1], cL lvw_1 9 (encTx) (wordsN vs), cL lvc_1 3 (encN .i64) (countsN vs), cL lvo_1 3 (encN .i64) (ordN (wordsN vs)), cL lvn_1 3 (encN .i64) (vs.map (lbW (wordsN vs))), cObj lg_2 92 [lvw_2, lvc_2, lvo_2], cL lvw_2 9 (encTx) (wordsN us), cL lvc_2 3 (encN .i64) (countsN us), cL lvo_2 3 (encN .i64) (ordN (wordsN us)), cL lvn_2 3 (encN .i64) (us.map (lbW (wordsN us))), cObj lg_3 92 [lvw_3, lvc_3, lvo_3], cL lvw_3 9 (encTx) (wordsN (allN (wordsN vs) (countsN vs) ++ allN (wordsN us) (countsN us))), cL lvc_3 3 (encN .i64) (countsN (allN (wordsN vs) (countsN vs) ++ allN (wordsN us) (countsN us))), cL lvo_3 3 (encN .i64) (ordN (wordsN (allN (wordsN vs) (countsN vs) ++ allN (wordsN us) (countsN us)))), cL lv1_1 3 (encN .i64) ((wordsN vs).map (lbW (wordsN (allN (wordsN vs) (countsN vs) ++ allN (wordsN us) (countsN us))))), cL lv2_1 3 (encN .i64) ((wordsN us).map (lbW (wordsN (allN (wordsN vs) (countsN vs) ++ allN (wordsN us) (countsN us))))), cObj lg_4 92 [lvw_4, lvc_4, lvo_4], cL lvw_4 9 (encTx) (wordsN (allN (wordsN us) (countsN us) ++ allN (wordsN vs) (countsN vs))), cL lvc_4 3 (encN .i64) (countsN (allN (wordsN us) (countsN us) ++ allN (wordsN vs) (countsN vs))), cL lvo_4 3 (encN .i64) (ordN (wordsN (allN (wordsN us) (countsN us) ++ allN (wordsN vs) (countsN vs)))), cL lv1_2 3 (encN .i64) (((wordsN us).map fun y => (numN (wordsN (allN (wordsN us) (countsN us) ++ allN (wordsN vs) (countsN vs))) y).1)), cL lv2_2 3 (encN .i64) (((wordsN vs).map fun y => (numN (wordsN (allN (wordsN us) (countsN us) ++ allN (wordsN vs) (countsN vs))) y).1)), cL v_2 9 (encTx) (vs ++ us), cObj lg_5 92 [lvw_5, lvc_5, lvo_5], cL lvw_5 9 (encTx) (wordsN (vs ++ us)), cL lvc_5 3 (encN .i64) (countsN (vs ++ us)), cL lvo_5 3 (encN .i64) (ordN (wordsN (vs ++ us))), cL lvn_3 3 (encN .i64) ((vs ++ us).map (lbW (wordsN (vs ++ us))))] w' ∧ (k ≤ ((wordsN vs).map (lbW (wordsN (allN (wordsN vs) (countsN vs) ++ allN (wordsN us) (countsN us))))).length)) (fun k => ((wordsN vs).map (lbW (wordsN (allN (wordsN vs) (countsN vs) ++ allN (wordsN us) (countsN us))))).length - k) 0 ⟨rfl, rfl, rfl, rfl, rfl, rfl, rfl, rfl, rfl, trivial⟩ ⟨hs_16, Nat.zero_le _⟩ ?_
          rintro k w_12 ⟨hs_17, hk⟩
          show CW _ _ _ _ [(5, (Value.pointer (some ⟨lg_1, 0, none⟩))), (8, (Value.pointer (some ⟨lg_2, 0, none⟩))), (11, (Value.pointer (some ⟨lg_3, 0, none⟩))), (13, lv2_1), (15, (Value.pointer (some ⟨lg_4, 0, none⟩))), (19, (Value.pointer (some ⟨lg_5, 0, none⟩))), (127, lv1_1), (128, (Value.int .i64 ((((wordsN vs).map (lbW (wordsN (allN (wordsN vs) (countsN vs) ++ allN (wordsN us) (countsN us))))).length : Nat) : Int))), (129, (Value.int .i64 ((k : Nat) : Int)))] _
          refine CW.seq ?_
          refine CW.region ?_
          refine RT.ev rfl rfl (Ev.lssN rfl rfl) ?_
          refine RT.nil ?_
          refine CW.seq ?_
          refine CW.condD rfl (fun hc_1 => ?_) (fun hc_1 => ?_)
          · refine CW.skip ?_
            refine CW.seq ?_
            refine CW.block ?_
            refine CW.seq ?_
            obtain ⟨y, hy⟩ : ∃ y, (wordsN vs)[k]? = some y := ⟨_, List.getElem?_eq_getElem (by have h9 := hc_1; rw [List.length_map] at h9; exact h9)⟩
            have hx : ((wordsN vs).map (lbW (wordsN (allN (wordsN vs) (countsN vs) ++ allN (wordsN us) (countsN us)))))[k]? = some (lbW (wordsN (allN (wordsN vs) (countsN vs) ++ allN (wordsN us) (countsN us))) y) := by rw [List.getElem?_map, hy]; rfl
            have hmy := wordsN_get (vs := allN (wordsN vs) (countsN vs) ++ allN (wordsN us) (countsN us)) (all_mem1 y (List.mem_of_getElem? hy))
            refine CW.region ?_
            refine RT.ev rfl rfl (Ev.move rfl) ?_
            refine RT.ev rfl rfl (Ev.idxL (E := encN .i64) sl22 rfl rfl (hs_17.rdL 14 rfl) (by omega)) ?_
            refine RT.ev rfl rfl (Ev.ldL (E := encN .i64) scal3 rfl (hs_17.rdL 14 rfl) hx (by decide) rfl) ?_
            refine RT.ev rfl rfl (Ev.assign rfl) ?_
            refine RT.ev rfl rfl (Ev.assign rfl) ?_
            refine RT.nil ?_
            refine CW.seq ?_
            refine CW.region ?_
            refine RT.ev rfl rfl (Ev.move rfl) ?_
            refine RT.ev rfl rfl (Ev.move rfl) ?_
            refine RT.eff rfl rfl (OpE.call ent39 rfl ((word_ok _ _ _ _ _ _ _ ((k : Nat) : Int) _ (hs_17.lexAt 0 1 2 3 rfl rfl rfl rfl)).mono fun r_10 w_13 h_10 => ?_))
            obtain ⟨rfl, hp_10⟩ := h_10
            have hs_18 : Sat w [cObj lg_1 92 [lvw_1, lvc_1, lvo_1], cL lvw_1 9 (encTx) (wordsN vs), cL lvc_1 3 (encN .i64) (countsN vs), cL lvo_1 3 (encN .i64) (ordN (wordsN vs)), cL lvn_1 3 (encN .i64) (vs.map (lbW (wordsN vs))), cObj lg_2 92 [lvw_2, lvc_2, lvo_2], cL lvw_2 9 (encTx) (wordsN us), cL lvc_2 3 (encN .i64) (countsN us), cL lvo_2 3 (encN .i64) (ordN (wordsN us)), cL lvn_2 3 (encN .i64) (us.map (lbW (wordsN us))), cObj lg_3 92 [lvw_3, lvc_3, lvo_3], cL lvw_3 9 (encTx) (wordsN (allN (wordsN vs) (countsN vs) ++ allN (wordsN us) (countsN us))), cL lvc_3 3 (encN .i64) (countsN (allN (wordsN vs) (countsN vs) ++ allN (wordsN us) (countsN us))), cL lvo_3 3 (encN .i64) (ordN (wordsN (allN (wordsN vs) (countsN vs) ++ allN (wordsN us) (countsN us)))), cL lv1_1 3 (encN .i64) ((wordsN vs).map (lbW (wordsN (allN (wordsN vs) (countsN vs) ++ allN (wordsN us) (countsN us))))), cL lv2_1 3 (encN .i64) ((wordsN us).map (lbW (wordsN (allN (wordsN vs) (countsN vs) ++ allN (wordsN us) (countsN us))))), cObj lg_4 92 [lvw_4, lvc_4, lvo_4], cL lvw_4 9 (encTx) (wordsN (allN (wordsN us) (countsN us) ++ allN (wordsN vs) (countsN vs))), cL lvc_4 3 (encN .i64) (countsN (allN (wordsN us) (countsN us) ++ allN (wordsN vs) (countsN vs))), cL lvo_4 3 (encN .i64) (ordN (wordsN (allN (wordsN us) (countsN us) ++ allN (wordsN vs) (countsN vs)))), cL lv1_2 3 (encN .i64) (((wordsN us).map fun y => (numN (wordsN (allN (wordsN us) (countsN us) ++ allN (wordsN vs) (countsN vs))) y).1)), cL lv2_2 3 (encN .i64) (((wordsN vs).map fun y => (numN (wordsN (allN (wordsN us) (countsN us) ++ allN (wordsN vs) (countsN vs))) y).1)), cL v_2 9 (encTx) (vs ++ us), cObj lg_5 92 [lvw_5, lvc_5, lvo_5], cL lvw_5 9 (encTx) (wordsN (vs ++ us)), cL lvc_5 3 (encN .i64) (countsN (vs ++ us)), cL lvo_5 3 (encN .i64) (ordN (wordsN (vs ++ us))), cL lvn_3 3 (encN .i64) ((vs ++ us).map (lbW (wordsN (vs ++ us))))] _ := hs_17.adds hp_10
            refine RT.ev rfl rfl (Ev.move rfl) ?_
            refine RT.ev rfl rfl (Ev.extract rfl rfl) ?_
            refine RT.ev rfl rfl (Ev.extract rfl rfl) ?_
            refine RT.ev rfl rfl (Ev.assign rfl) ?_
            refine RT.ev rfl rfl (Ev.assign rfl) ?_
            refine RT.nil ?_
            refine CW.seq ?_
            refine CW.region ?_
            refine RT.ev rfl rfl (Ev.move rfl) ?_
            refine RT.ev rfl rfl (Ev.move rfl) ?_
            refine RT.eff rfl rfl (OpE.call ent39 rfl ((word_ok _ _ _ _ _ _ _ (((lbW (wordsN (allN (wordsN vs) (countsN vs) ++ allN (wordsN us) (countsN us))) y) : Nat) : Int) _ (hs_18.lexAt 10 11 12 13 rfl rfl rfl rfl)).mono fun r_11 w_14 h_11 => ?_))
            obtain ⟨rfl, hp_11⟩ := h_11
            have hs_19 : Sat w [cObj lg_1 92 [lvw_1, lvc_1, lvo_1], cL lvw_1 9 (encTx) (wordsN vs), cL lvc_1 3 (encN .i64) (countsN vs), cL lvo_1 3 (encN .i64) (ordN (wordsN vs)), cL lvn_1 3 (encN .i64) (vs.map (lbW (wordsN vs))), cObj lg_2 92 [lvw_2, lvc_2, lvo_2], cL lvw_2 9 (encTx) (wordsN us), cL lvc_2 3 (encN .i64) (countsN us), cL lvo_2 3 (encN .i64) (ordN (wordsN us)), cL lvn_2 3 (encN .i64) (us.map (lbW (wordsN us))), cObj lg_3 92 [lvw_3, lvc_3, lvo_3], cL lvw_3 9 (encTx) (wordsN (allN (wordsN vs) (countsN vs) ++ allN (wordsN us) (countsN us))), cL lvc_3 3 (encN .i64) (countsN (allN (wordsN vs) (countsN vs) ++ allN (wordsN us) (countsN us))), cL lvo_3 3 (encN .i64) (ordN (wordsN (allN (wordsN vs) (countsN vs) ++ allN (wordsN us) (countsN us)))), cL lv1_1 3 (encN .i64) ((wordsN vs).map (lbW (wordsN (allN (wordsN vs) (countsN vs) ++ allN (wordsN us) (countsN us))))), cL lv2_1 3 (encN .i64) ((wordsN us).map (lbW (wordsN (allN (wordsN vs) (countsN vs) ++ allN (wordsN us) (countsN us))))), cObj lg_4 92 [lvw_4, lvc_4, lvo_4], cL lvw_4 9 (encTx) (wordsN (allN (wordsN us) (countsN us) ++ allN (wordsN vs) (countsN vs))), cL lvc_4 3 (encN .i64) (countsN (allN (wordsN us) (countsN us) ++ allN (wordsN vs) (countsN vs))), cL lvo_4 3 (encN .i64) (ordN (wordsN (allN (wordsN us) (countsN us) ++ allN (wordsN vs) (countsN vs)))), cL lv1_2 3 (encN .i64) (((wordsN us).map fun y => (numN (wordsN (allN (wordsN us) (countsN us) ++ allN (wordsN vs) (countsN vs))) y).1)), cL lv2_2 3 (encN .i64) (((wordsN vs).map fun y => (numN (wordsN (allN (wordsN us) (countsN us) ++ allN (wordsN vs) (countsN vs))) y).1)), cL v_2 9 (encTx) (vs ++ us), cObj lg_5 92 [lvw_5, lvc_5, lvo_5], cL lvw_5 9 (encTx) (wordsN (vs ++ us)), cL lvc_5 3 (encN .i64) (countsN (vs ++ us)), cL lvo_5 3 (encN .i64) (ordN (wordsN (vs ++ us))), cL lvn_3 3 (encN .i64) ((vs ++ us).map (lbW (wordsN (vs ++ us))))] _ := hs_18.adds hp_11
            refine RT.ev rfl rfl (Ev.move rfl) ?_
            refine RT.ev rfl rfl (Ev.extract rfl rfl) ?_
            refine RT.ev rfl rfl (Ev.extract rfl rfl) ?_
            refine RT.ev rfl rfl (Ev.assign rfl) ?_
            refine RT.ev rfl rfl (Ev.assign rfl) ?_
            refine RT.nil ?_
            refine CW.seq ?_
            refine CW.weaken [(5, _), (8, _), (11, _), (13, _), (15, _), (19, _), (22, _), (23, _), (24, (Value.string y)), (25, _), (26, _), (27, _), (127, _), (128, _), (129, _), (130, _), (131, _), (132, _), (133, _), (134, _), (135, _), (136, _), (137, _), (138, _), (139, _), (140, _), (141, _), (142, _), (143, _), (144, _), (145, _)] ⟨rfl, rfl, rfl, rfl, rfl, rfl, rfl, rfl, congrArg some (congrArg (fun q : ByteArray × Bool => Value.string q.1) (wordAt_get hy)), rfl, rfl, rfl, rfl, rfl, rfl, rfl, rfl, rfl, rfl, rfl, rfl, rfl, rfl, rfl, rfl, rfl, rfl, rfl, rfl, rfl, rfl, trivial⟩ ?_
            refine CW.weaken [(5, _), (8, _), (11, _), (13, _), (15, _), (19, _), (22, _), (23, _), (24, _), (25, (Value.bool true)), (26, _), (27, _), (127, _), (128, _), (129, _), (130, _), (131, _), (132, _), (133, _), (134, _), (135, _), (136, _), (137, _), (138, _), (139, _), (140, _), (141, _), (142, _), (143, _), (144, _), (145, _)] ⟨rfl, rfl, rfl, rfl, rfl, rfl, rfl, rfl, rfl, congrArg some (congrArg (fun q : ByteArray × Bool => Value.bool q.2) (wordAt_get hy)), rfl, rfl, rfl, rfl, rfl, rfl, rfl, rfl, rfl, rfl, rfl, rfl, rfl, rfl, rfl, rfl, rfl, rfl, rfl, rfl, rfl, trivial⟩ ?_
            refine CW.weaken [(5, _), (8, _), (11, _), (13, _), (15, _), (19, _), (22, _), (23, _), (24, _), (25, _), (26, (Value.string y)), (27, _), (127, _), (128, _), (129, _), (130, _), (131, _), (132, _), (133, _), (134, _), (135, _), (136, _), (137, _), (138, _), (139, _), (140, _), (141, _), (142, _), (143, _), (144, _), (145, _)] ⟨rfl, rfl, rfl, rfl, rfl, rfl, rfl, rfl, rfl, rfl, congrArg some (congrArg (fun q : ByteArray × Bool => Value.string q.1) (wordAt_get hmy)), rfl, rfl, rfl, rfl, rfl, rfl, rfl, rfl, rfl, rfl, rfl, rfl, rfl, rfl, rfl, rfl, rfl, rfl, rfl, rfl, trivial⟩ ?_
            refine CW.weaken [(5, _), (8, _), (11, _), (13, _), (15, _), (19, _), (22, _), (23, _), (24, _), (25, _), (26, _), (27, (Value.bool true)), (127, _), (128, _), (129, _), (130, _), (131, _), (132, _), (133, _), (134, _), (135, _), (136, _), (137, _), (138, _), (139, _), (140, _), (141, _), (142, _), (143, _), (144, _), (145, _)] ⟨rfl, rfl, rfl, rfl, rfl, rfl, rfl, rfl, rfl, rfl, rfl, congrArg some (congrArg (fun q : ByteArray × Bool => Value.bool q.2) (wordAt_get hmy)), rfl, rfl, rfl, rfl, rfl, rfl, rfl, rfl, rfl, rfl, rfl, rfl, rfl, rfl, rfl, rfl, rfl, rfl, rfl, trivial⟩ ?_
            refine CW.region ?_
            refine RT.ev rfl rfl (Ev.move rfl) ?_
            refine RT.ev rfl rfl (Ev.notB rfl) ?_
            refine RT.ev rfl rfl (Ev.move rfl) ?_
            refine RT.yes rfl rfl rfl (rfl) ?_
            refine RT.ev rfl rfl (Ev.move rfl) ?_
            refine RT.yes rfl rfl rfl (rfl) ?_
            refine RT.ev rfl rfl (Ev.move rfl) ?_
            refine RT.yes rfl rfl rfl (rfl) ?_
            refine RT.ev rfl rfl (Ev.strNeq rfl rfl) ?_
            refine RT.ev rfl rfl (Ev.pickN rfl (rfl) rfl) ?_
            refine RT.nil ?_
            refine CW.condF rfl (decide_eq_false (fun h9 => h9 rfl)) ?_
            refine CW.skip ?_
            refine CW.region ?_
            refine RT.ev rfl rfl (Ev.addI (b := 1) rfl rfl (by omega)) ?_
            refine RT.ev rfl rfl (Ev.move rfl) ?_
            refine RT.nil ?_
            exact ⟨k + 1, ⟨rfl, rfl, rfl, rfl, rfl, rfl, rfl, rfl, rfl, trivial⟩, ⟨hs_19, by omega⟩, (show (((wordsN vs).map (lbW (wordsN (allN (wordsN vs) (countsN vs) ++ allN (wordsN us) (countsN us))))).length - (k + 1)) < (((wordsN vs).map (lbW (wordsN (allN (wordsN vs) (countsN vs) ++ allN (wordsN us) (countsN us))))).length - k) from by omega)⟩
          · refine CW.exit0 ?_
            refine CW.seq ?_
            refine CW.seq ?_
            refine CW.region ?_
            refine RT.ev rfl rfl (Ev.move rfl) ?_
            refine RT.ev rfl rfl (Ev.lenL Try.underlying22 rfl (hs_17.rdL 15 rfl)) ?_
            refine RT.ev rfl rfl (Ev.move rfl) ?_
            refine RT.nil ?_
            refine CW.block ?_
            refine CW.loop (α := Nat) (fun j => [(5, (Value.pointer (some ⟨lg_1, 0, none⟩))), (8, (Value.pointer (some ⟨lg_2, 0, none⟩))), (11, (Value.pointer (some ⟨lg_3, 0, none⟩))), (15, (Value.pointer (some ⟨lg_4, 0, none⟩))), (19, (Value.pointer (some ⟨lg_5, 0, none⟩))), (154, lv2_1), (155, (Value.int .i64 ((((wordsN us).map (lbW (wordsN (allN (wordsN vs) (countsN vs) ++ allN (wordsN us) (countsN us))))).length : Nat) : Int))), (156, (Value.int .i64 ((j : Nat) : Int)))]) (fun j w' => Sat w [cObj lg_1 92 [lvw_1, lvc_1, lvo_1], cL lvw_1 9 (encTx) (wordsN vs), cL lvc_1 3 (encN .i64) (countsN vs), cL lvo_1 3 (encN .i64) (ordN (wordsN vs)), cL lvn_1 3 (encN .i64) (vs.map (lbW (wordsN vs))), cObj lg_2 92 [lvw_2, lvc_2, lvo_2], cL lvw_2 9 (encTx) (wordsN us), cL lvc_2 3 (encN .i64) (countsN us), cL lvo_2 3 (encN .i64) (ordN (wordsN us)), cL lvn_2 3 (encN .i64) (us.map (lbW (wordsN us))), cObj lg_3 92 [lvw_3, lvc_3, lvo_3], cL lvw_3 9 (encTx) (wordsN (allN (wordsN vs) (countsN vs) ++ allN (wordsN us) (countsN us))), cL lvc_3 3 (encN .i64) (countsN (allN (wordsN vs) (countsN vs) ++ allN (wordsN us) (countsN us))), cL lvo_3 3 (encN .i64) (ordN (wordsN (allN (wordsN vs) (countsN vs) ++ allN (wordsN us) (countsN us)))), cL lv1_1 3 (encN .i64) ((wordsN vs).map (lbW (wordsN (allN (wordsN vs) (countsN vs) ++ allN (wordsN us) (countsN us))))), cL lv2_1 3 (encN .i64) ((wordsN us).map (lbW (wordsN (allN (wordsN vs) (countsN vs) ++ allN (wordsN us) (countsN us))))), cObj lg_4 92 [lvw_4, lvc_4, lvo_4], cL lvw_4 9 (encTx) (wordsN (allN (wordsN us) (countsN us) ++ allN (wordsN vs) (countsN vs))), cL lvc_4 3 (encN .i64) (countsN (allN (wordsN us) (countsN us) ++ allN (wordsN vs) (countsN vs))), cL lvo_4 3 (encN .i64) (ordN (wordsN (allN (wordsN us) (countsN us) ++ allN (wordsN vs) (countsN vs)))), cL lv1_2 3 (encN .i64) (((wordsN us).map fun y => (numN (wordsN (allN (wordsN us) (countsN us) ++ allN (wordsN vs) (countsN vs))) y).1)), cL lv2_2 3 (encN .i64) (((wordsN vs).map fun y => (numN (wordsN (allN (wordsN us) (countsN us) ++ allN (wordsN vs) (countsN vs))) y).1)), cL v_2 9 (encTx) (vs ++ us), cObj lg_5 92 [lvw_5, lvc_5, lvo_5], cL lvw_5 9 (encTx) (wordsN (vs ++ us)), cL lvc_5 3 (encN .i64) (countsN (vs ++ us)), cL lvo_5 3 (encN .i64) (ordN (wordsN (vs ++ us))), cL lvn_3 3 (encN .i64) ((vs ++ us).map (lbW (wordsN (vs ++ us))))] w' ∧ (j ≤ ((wordsN us).map (lbW (wordsN (allN (wordsN vs) (countsN vs) ++ allN (wordsN us) (countsN us))))).length)) (fun j => ((wordsN us).map (lbW (wordsN (allN (wordsN vs) (countsN vs) ++ allN (wordsN us) (countsN us))))).length - j) 0 ⟨rfl, rfl, rfl, rfl, rfl, rfl, rfl, rfl, trivial⟩ ⟨hs_17, Nat.zero_le _⟩ ?_
            rintro j w_15 ⟨hs_20, hj⟩
            show CW _ _ _ _ [(5, (Value.pointer (some ⟨lg_1, 0, none⟩))), (8, (Value.pointer (some ⟨lg_2, 0, none⟩))), (11, (Value.pointer (some ⟨lg_3, 0, none⟩))), (15, (Value.pointer (some ⟨lg_4, 0, none⟩))), (19, (Value.pointer (some ⟨lg_5, 0, none⟩))), (154, lv2_1), (155, (Value.int .i64 ((((wordsN us).map (lbW (wordsN (allN (wordsN vs) (countsN vs) ++ allN (wordsN us) (countsN us))))).length : Nat) : Int))), (156, (Value.int .i64 ((j : Nat) : Int)))] _
            refine CW.seq ?_
            refine CW.region ?_
            refine RT.ev rfl rfl (Ev.lssN rfl rfl) ?_
            refine RT.nil ?_
            refine CW.seq ?_
            refine CW.condD rfl (fun hc_2 => ?_) (fun hc_2 => ?_)
            · refine CW.skip ?_
              refine CW.seq ?_
              refine CW.block ?_
              refine CW.seq ?_
              obtain ⟨y, hy⟩ : ∃ y, (wordsN us)[j]? = some y := ⟨_, List.getElem?_eq_getElem (by have h9 := hc_2; rw [List.length_map] at h9; exact h9)⟩
              have hx : ((wordsN us).map (lbW (wordsN (allN (wordsN vs) (countsN vs) ++ allN (wordsN us) (countsN us)))))[j]? = some (lbW (wordsN (allN (wordsN vs) (countsN vs) ++ allN (wordsN us) (countsN us))) y) := by rw [List.getElem?_map, hy]; rfl
              have hmy := wordsN_get (vs := allN (wordsN vs) (countsN vs) ++ allN (wordsN us) (countsN us)) (all_mem2 y (List.mem_of_getElem? hy))
              refine CW.region ?_
              refine RT.ev rfl rfl (Ev.move rfl) ?_
              refine RT.ev rfl rfl (Ev.idxL (E := encN .i64) sl22 rfl rfl (hs_20.rdL 15 rfl) (by omega)) ?_
              refine RT.ev rfl rfl (Ev.ldL (E := encN .i64) scal3 rfl (hs_20.rdL 15 rfl) hx (by decide) rfl) ?_
              refine RT.ev rfl rfl (Ev.assign rfl) ?_
              refine RT.ev rfl rfl (Ev.assign rfl) ?_
              refine RT.nil ?_
              refine CW.seq ?_
              refine CW.region ?_
              refine RT.ev rfl rfl (Ev.move rfl) ?_
              refine RT.ev rfl rfl (Ev.move rfl) ?_
              refine RT.eff rfl rfl (OpE.call ent39 rfl ((word_ok _ _ _ _ _ _ _ ((j : Nat) : Int) _ (hs_20.lexAt 5 6 7 8 rfl rfl rfl rfl)).mono fun r_12 w_16 h_12 => ?_))
              obtain ⟨rfl, hp_12⟩ := h_12
              have hs_21 : Sat w [cObj lg_1 92 [lvw_1, lvc_1, lvo_1], cL lvw_1 9 (encTx) (wordsN vs), cL lvc_1 3 (encN .i64) (countsN vs), cL lvo_1 3 (encN .i64) (ordN (wordsN vs)), cL lvn_1 3 (encN .i64) (vs.map (lbW (wordsN vs))), cObj lg_2 92 [lvw_2, lvc_2, lvo_2], cL lvw_2 9 (encTx) (wordsN us), cL lvc_2 3 (encN .i64) (countsN us), cL lvo_2 3 (encN .i64) (ordN (wordsN us)), cL lvn_2 3 (encN .i64) (us.map (lbW (wordsN us))), cObj lg_3 92 [lvw_3, lvc_3, lvo_3], cL lvw_3 9 (encTx) (wordsN (allN (wordsN vs) (countsN vs) ++ allN (wordsN us) (countsN us))), cL lvc_3 3 (encN .i64) (countsN (allN (wordsN vs) (countsN vs) ++ allN (wordsN us) (countsN us))), cL lvo_3 3 (encN .i64) (ordN (wordsN (allN (wordsN vs) (countsN vs) ++ allN (wordsN us) (countsN us)))), cL lv1_1 3 (encN .i64) ((wordsN vs).map (lbW (wordsN (allN (wordsN vs) (countsN vs) ++ allN (wordsN us) (countsN us))))), cL lv2_1 3 (encN .i64) ((wordsN us).map (lbW (wordsN (allN (wordsN vs) (countsN vs) ++ allN (wordsN us) (countsN us))))), cObj lg_4 92 [lvw_4, lvc_4, lvo_4], cL lvw_4 9 (encTx) (wordsN (allN (wordsN us) (countsN us) ++ allN (wordsN vs) (countsN vs))), cL lvc_4 3 (encN .i64) (countsN (allN (wordsN us) (countsN us) ++ allN (wordsN vs) (countsN vs))), cL lvo_4 3 (encN .i64) (ordN (wordsN (allN (wordsN us) (countsN us) ++ allN (wordsN vs) (countsN vs)))), cL lv1_2 3 (encN .i64) (((wordsN us).map fun y => (numN (wordsN (allN (wordsN us) (countsN us) ++ allN (wordsN vs) (countsN vs))) y).1)), cL lv2_2 3 (encN .i64) (((wordsN vs).map fun y => (numN (wordsN (allN (wordsN us) (countsN us) ++ allN (wordsN vs) (countsN vs))) y).1)), cL v_2 9 (encTx) (vs ++ us), cObj lg_5 92 [lvw_5, lvc_5, lvo_5], cL lvw_5 9 (encTx) (wordsN (vs ++ us)), cL lvc_5 3 (encN .i64) (countsN (vs ++ us)), cL lvo_5 3 (encN .i64) (ordN (wordsN (vs ++ us))), cL lvn_3 3 (encN .i64) ((vs ++ us).map (lbW (wordsN (vs ++ us))))] _ := hs_20.adds hp_12
              refine RT.ev rfl rfl (Ev.move rfl) ?_
              refine RT.ev rfl rfl (Ev.extract rfl rfl) ?_
              refine RT.ev rfl rfl (Ev.extract rfl rfl) ?_
              refine RT.ev rfl rfl (Ev.assign rfl) ?_
              refine RT.ev rfl rfl (Ev.assign rfl) ?_
              refine RT.nil ?_
              refine CW.seq ?_
              refine CW.region ?_
              refine RT.ev rfl rfl (Ev.move rfl) ?_
              refine RT.ev rfl rfl (Ev.move rfl) ?_
              refine RT.eff rfl rfl (OpE.call ent39 rfl ((word_ok _ _ _ _ _ _ _ (((lbW (wordsN (allN (wordsN vs) (countsN vs) ++ allN (wordsN us) (countsN us))) y) : Nat) : Int) _ (hs_21.lexAt 10 11 12 13 rfl rfl rfl rfl)).mono fun r_13 w_17 h_13 => ?_))
              obtain ⟨rfl, hp_13⟩ := h_13
              have hs_22 : Sat w [cObj lg_1 92 [lvw_1, lvc_1, lvo_1], cL lvw_1 9 (encTx) (wordsN vs), cL lvc_1 3 (encN .i64) (countsN vs), cL lvo_1 3 (encN .i64) (ordN (wordsN vs)), cL lvn_1 3 (encN .i64) (vs.map (lbW (wordsN vs))), cObj lg_2 92 [lvw_2, lvc_2, lvo_2], cL lvw_2 9 (encTx) (wordsN us), cL lvc_2 3 (encN .i64) (countsN us), cL lvo_2 3 (encN .i64) (ordN (wordsN us)), cL lvn_2 3 (encN .i64) (us.map (lbW (wordsN us))), cObj lg_3 92 [lvw_3, lvc_3, lvo_3], cL lvw_3 9 (encTx) (wordsN (allN (wordsN vs) (countsN vs) ++ allN (wordsN us) (countsN us))), cL lvc_3 3 (encN .i64) (countsN (allN (wordsN vs) (countsN vs) ++ allN (wordsN us) (countsN us))), cL lvo_3 3 (encN .i64) (ordN (wordsN (allN (wordsN vs) (countsN vs) ++ allN (wordsN us) (countsN us)))), cL lv1_1 3 (encN .i64) ((wordsN vs).map (lbW (wordsN (allN (wordsN vs) (countsN vs) ++ allN (wordsN us) (countsN us))))), cL lv2_1 3 (encN .i64) ((wordsN us).map (lbW (wordsN (allN (wordsN vs) (countsN vs) ++ allN (wordsN us) (countsN us))))), cObj lg_4 92 [lvw_4, lvc_4, lvo_4], cL lvw_4 9 (encTx) (wordsN (allN (wordsN us) (countsN us) ++ allN (wordsN vs) (countsN vs))), cL lvc_4 3 (encN .i64) (countsN (allN (wordsN us) (countsN us) ++ allN (wordsN vs) (countsN vs))), cL lvo_4 3 (encN .i64) (ordN (wordsN (allN (wordsN us) (countsN us) ++ allN (wordsN vs) (countsN vs)))), cL lv1_2 3 (encN .i64) (((wordsN us).map fun y => (numN (wordsN (allN (wordsN us) (countsN us) ++ allN (wordsN vs) (countsN vs))) y).1)), cL lv2_2 3 (encN .i64) (((wordsN vs).map fun y => (numN (wordsN (allN (wordsN us) (countsN us) ++ allN (wordsN vs) (countsN vs))) y).1)), cL v_2 9 (encTx) (vs ++ us), cObj lg_5 92 [lvw_5, lvc_5, lvo_5], cL lvw_5 9 (encTx) (wordsN (vs ++ us)), cL lvc_5 3 (encN .i64) (countsN (vs ++ us)), cL lvo_5 3 (encN .i64) (ordN (wordsN (vs ++ us))), cL lvn_3 3 (encN .i64) ((vs ++ us).map (lbW (wordsN (vs ++ us))))] _ := hs_21.adds hp_13
              refine RT.ev rfl rfl (Ev.move rfl) ?_
              refine RT.ev rfl rfl (Ev.extract rfl rfl) ?_
              refine RT.ev rfl rfl (Ev.extract rfl rfl) ?_
              refine RT.ev rfl rfl (Ev.assign rfl) ?_
              refine RT.ev rfl rfl (Ev.assign rfl) ?_
              refine RT.nil ?_
              refine CW.seq ?_
              refine CW.weaken [(5, _), (8, _), (11, _), (15, _), (19, _), (28, _), (29, _), (30, (Value.string y)), (31, _), (32, _), (33, _), (154, _), (155, _), (156, _), (157, _), (158, _), (159, _), (160, _), (161, _), (162, _), (163, _), (164, _), (165, _), (166, _), (167, _), (168, _), (169, _), (170, _), (171, _), (172, _)] ⟨rfl, rfl, rfl, rfl, rfl, rfl, rfl, congrArg some (congrArg (fun q : ByteArray × Bool => Value.string q.1) (wordAt_get hy)), rfl, rfl, rfl, rfl, rfl, rfl, rfl, rfl, rfl, rfl, rfl, rfl, rfl, rfl, rfl, rfl, rfl, rfl, rfl, rfl, rfl, rfl, trivial⟩ ?_
              refine CW.weaken [(5, _), (8, _), (11, _), (15, _), (19, _), (28, _), (29, _), (30, _), (31, (Value.bool true)), (32, _), (33, _), (154, _), (155, _), (156, _), (157, _), (158, _), (159, _), (160, _), (161, _), (162, _), (163, _), (164, _), (165, _), (166, _), (167, _), (168, _), (169, _), (170, _), (171, _), (172, _)] ⟨rfl, rfl, rfl, rfl, rfl, rfl, rfl, rfl, congrArg some (congrArg (fun q : ByteArray × Bool => Value.bool q.2) (wordAt_get hy)), rfl, rfl, rfl, rfl, rfl, rfl, rfl, rfl, rfl, rfl, rfl, rfl, rfl, rfl, rfl, rfl, rfl, rfl, rfl, rfl, rfl, trivial⟩ ?_
              refine CW.weaken [(5, _), (8, _), (11, _), (15, _), (19, _), (28, _), (29, _), (30, _), (31, _), (32, (Value.string y)), (33, _), (154, _), (155, _), (156, _), (157, _), (158, _), (159, _), (160, _), (161, _), (162, _), (163, _), (164, _), (165, _), (166, _), (167, _), (168, _), (169, _), (170, _), (171, _), (172, _)] ⟨rfl, rfl, rfl, rfl, rfl, rfl, rfl, rfl, rfl, congrArg some (congrArg (fun q : ByteArray × Bool => Value.string q.1) (wordAt_get hmy)), rfl, rfl, rfl, rfl, rfl, rfl, rfl, rfl, rfl, rfl, rfl, rfl, rfl, rfl, rfl, rfl, rfl, rfl, rfl, rfl, trivial⟩ ?_
              refine CW.weaken [(5, _), (8, _), (11, _), (15, _), (19, _), (28, _), (29, _), (30, _), (31, _), (32, _), (33, (Value.bool true)), (154, _), (155, _), (156, _), (157, _), (158, _), (159, _), (160, _), (161, _), (162, _), (163, _), (164, _), (165, _), (166, _), (167, _), (168, _), (169, _), (170, _), (171, _), (172, _)] ⟨rfl, rfl, rfl, rfl, rfl, rfl, rfl, rfl, rfl, rfl, congrArg some (congrArg (fun q : ByteArray × Bool => Value.bool q.2) (wordAt_get hmy)), rfl, rfl, rfl, rfl, rfl, rfl, rfl, rfl, rfl, rfl, rfl, rfl, rfl, rfl, rfl, rfl, rfl, rfl, rfl, trivial⟩ ?_
              refine CW.region ?_
              refine RT.ev rfl rfl (Ev.move rfl) ?_
              refine RT.ev rfl rfl (Ev.notB rfl) ?_
              refine RT.ev rfl rfl (Ev.move rfl) ?_
              refine RT.yes rfl rfl rfl (rfl) ?_
              refine RT.ev rfl rfl (Ev.move rfl) ?_
              refine RT.yes rfl rfl rfl (rfl) ?_
              refine RT.ev rfl rfl (Ev.move rfl) ?_
              refine RT.yes rfl rfl rfl (rfl) ?_
              refine RT.ev rfl rfl (Ev.strNeq rfl rfl) ?_
              refine RT.ev rfl rfl (Ev.pickN rfl (rfl) rfl) ?_
              refine RT.nil ?_
              refine CW.condF rfl (decide_eq_false (fun h9 => h9 rfl)) ?_
              refine CW.skip ?_
              refine CW.region ?_
              refine RT.ev rfl rfl (Ev.addI (b := 1) rfl rfl (by omega)) ?_
              refine RT.ev rfl rfl (Ev.move rfl) ?_
              refine RT.nil ?_
              exact ⟨j + 1, ⟨rfl, rfl, rfl, rfl, rfl, rfl, rfl, rfl, trivial⟩, ⟨hs_22, by omega⟩, (show (((wordsN us).map (lbW (wordsN (allN (wordsN vs) (countsN vs) ++ allN (wordsN us) (countsN us))))).length - (j + 1)) < (((wordsN us).map (lbW (wordsN (allN (wordsN vs) (countsN vs) ++ allN (wordsN us) (countsN us))))).length - j) from by omega)⟩
            · refine CW.exit0 ?_
              refine CW.seq ?_
              refine CW.draw (fun w' => Sat w [cObj lg_1 92 [lvw_1, lvc_1, lvo_1], cL lvw_1 9 (encTx) (wordsN vs), cL lvc_1 3 (encN .i64) (countsN vs), cL lvo_1 3 (encN .i64) (ordN (wordsN vs)), cL lvn_1 3 (encN .i64) (vs.map (lbW (wordsN vs))), cObj lg_2 92 [lvw_2, lvc_2, lvo_2], cL lvw_2 9 (encTx) (wordsN us), cL lvc_2 3 (encN .i64) (countsN us), cL lvo_2 3 (encN .i64) (ordN (wordsN us)), cL lvn_2 3 (encN .i64) (us.map (lbW (wordsN us))), cObj lg_3 92 [lvw_3, lvc_3, lvo_3], cL lvw_3 9 (encTx) (wordsN (allN (wordsN vs) (countsN vs) ++ allN (wordsN us) (countsN us))), cL lvc_3 3 (encN .i64) (countsN (allN (wordsN vs) (countsN vs) ++ allN (wordsN us) (countsN us))), cL lvo_3 3 (encN .i64) (ordN (wordsN (allN (wordsN vs) (countsN vs) ++ allN (wordsN us) (countsN us)))), cL lv1_1 3 (encN .i64) ((wordsN vs).map (lbW (wordsN (allN (wordsN vs) (countsN vs) ++ allN (wordsN us) (countsN us))))), cL lv2_1 3 (encN .i64) ((wordsN us).map (lbW (wordsN (allN (wordsN vs) (countsN vs) ++ allN (wordsN us) (countsN us))))), cObj lg_4 92 [lvw_4, lvc_4, lvo_4], cL lvw_4 9 (encTx) (wordsN (allN (wordsN us) (countsN us) ++ allN (wordsN vs) (countsN vs))), cL lvc_4 3 (encN .i64) (countsN (allN (wordsN us) (countsN us) ++ allN (wordsN vs) (countsN vs))), cL lvo_4 3 (encN .i64) (ordN (wordsN (allN (wordsN us) (countsN us) ++ allN (wordsN vs) (countsN vs)))), cL lv1_2 3 (encN .i64) (((wordsN us).map fun y => (numN (wordsN (allN (wordsN us) (countsN us) ++ allN (wordsN vs) (countsN vs))) y).1)), cL lv2_2 3 (encN .i64) (((wordsN vs).map fun y => (numN (wordsN (allN (wordsN us) (countsN us) ++ allN (wordsN vs) (countsN vs))) y).1)), cL v_2 9 (encTx) (vs ++ us), cObj lg_5 92 [lvw_5, lvc_5, lvo_5], cL lvw_5 9 (encTx) (wordsN (vs ++ us)), cL lvc_5 3 (encN .i64) (countsN (vs ++ us)), cL lvo_5 3 (encN .i64) (ordN (wordsN (vs ++ us))), cL lvn_3 3 (encN .i64) ((vs ++ us).map (lbW (wordsN (vs ++ us))))] w') (.free 0 (.free 3 (.one 1 (.two 2 4 (.one 4 (.one 5 (.free 6 (.free 7 (.free 8 (.free 11 (.one 9 (.two 10 12 (.one 12 (.one 13 (.free 14 (.free 15 (.free 16 (.one 17 (.free 18 (.free 19 .fin)))))))) (.two 10 13 (.one 13 (.free 14 (.free 15 (.free 16 (.one 17 (.free 18 (.free 19 .fin))))))) (.one 10 (.free 14 (.free 15 (.free 16 (.one 17 (.free 18 (.free 19 .fin)))))))))))))))) (.two 2 5 (.one 5 (.free 6 (.free 7 (.free 8 (.free 11 (.one 9 (.two 10 12 (.one 12 (.one 13 (.free 14 (.free 15 (.free 16 (.one 17 (.free 18 (.free 19 .fin)))))))) (.two 10 13 (.one 13 (.free 14 (.free 15 (.free 16 (.one 17 (.free 18 (.free 19 .fin))))))) (.one 10 (.free 14 (.free 15 (.free 16 (.one 17 (.free 18 (.free 19 .fin))))))))))))))) (.one 2 (.free 6 (.free 7 (.free 8 (.free 11 (.one 9 (.two 10 12 (.one 12 (.one 13 (.free 14 (.free 15 (.free 16 (.one 17 (.free 18 (.free 19 .fin)))))))) (.two 10 13 (.one 13 (.free 14 (.free 15 (.free 16 (.one 17 (.free 18 (.free 19 .fin))))))) (.one 10 (.free 14 (.free 15 (.free 16 (.one 17 (.free 18 (.free 19 .fin)))))))))))))))))))) mixed (by kernel_rfl) ?_
              have hs_23 := hs_20.drew
              refine RP.ev rfl rfl rfl (fun w' hS' => Ev.move rfl) hs_23 ?_
              refine RP.ev rfl rfl rfl (fun w' hS' => Ev.move rfl) hs_23 ?_
              refine RP.eff rfl rfl rfl (OpE.call ent50 rfl ((lexEnc_ok _ _ _ _ _ _ _ _ (hs_23.lexAt 10 11 12 13 rfl rfl rfl rfl) (countsN_length _) (bld_120 heL) (bld_c1 heL) (bld_w heL)).mono fun r_14 w_18 h_14 => ?_))
              have hp_14 := h_14
              have hs_24 : Sat w [cObj lg_1 92 [lvw_1, lvc_1, lvo_1], cL lvw_1 9 (encTx) (wordsN vs), cL lvc_1 3 (encN .i64) (countsN vs), cL lvo_1 3 (encN .i64) (ordN (wordsN vs)), cL lvn_1 3 (encN .i64) (vs.map (lbW (wordsN vs))), cObj lg_2 92 [lvw_2, lvc_2, lvo_2], cL lvw_2 9 (encTx) (wordsN us), cL lvc_2 3 (encN .i64) (countsN us), cL lvo_2 3 (encN .i64) (ordN (wordsN us)), cL lvn_2 3 (encN .i64) (us.map (lbW (wordsN us))), cObj lg_3 92 [lvw_3, lvc_3, lvo_3], cL lvw_3 9 (encTx) (wordsN (allN (wordsN vs) (countsN vs) ++ allN (wordsN us) (countsN us))), cL lvc_3 3 (encN .i64) (countsN (allN (wordsN vs) (countsN vs) ++ allN (wordsN us) (countsN us))), cL lvo_3 3 (encN .i64) (ordN (wordsN (allN (wordsN vs) (countsN vs) ++ allN (wordsN us) (countsN us)))), cL lv1_1 3 (encN .i64) ((wordsN vs).map (lbW (wordsN (allN (wordsN vs) (countsN vs) ++ allN (wordsN us) (countsN us))))), cL lv2_1 3 (encN .i64) ((wordsN us).map (lbW (wordsN (allN (wordsN vs) (countsN vs) ++ allN (wordsN us) (countsN us))))), cObj lg_4 92 [lvw_4, lvc_4, lvo_4], cL lvw_4 9 (encTx) (wordsN (allN (wordsN us) (countsN us) ++ allN (wordsN vs) (countsN vs))), cL lvc_4 3 (encN .i64) (countsN (allN (wordsN us) (countsN us) ++ allN (wordsN vs) (countsN vs))), cL lvo_4 3 (encN .i64) (ordN (wordsN (allN (wordsN us) (countsN us) ++ allN (wordsN vs) (countsN vs)))), cL lv1_2 3 (encN .i64) (((wordsN us).map fun y => (numN (wordsN (allN (wordsN us) (countsN us) ++ allN (wordsN vs) (countsN vs))) y).1)), cL lv2_2 3 (encN .i64) (((wordsN vs).map fun y => (numN (wordsN (allN (wordsN us) (countsN us) ++ allN (wordsN vs) (countsN vs))) y).1)), cL v_2 9 (encTx) (vs ++ us), cObj lg_5 92 [lvw_5, lvc_5, lvo_5], cL lvw_5 9 (encTx) (wordsN (vs ++ us)), cL lvc_5 3 (encN .i64) (countsN (vs ++ us)), cL lvo_5 3 (encN .i64) (ordN (wordsN (vs ++ us))), cL lvn_3 3 (encN .i64) ((vs ++ us).map (lbW (wordsN (vs ++ us)))), cL r_14 5 (encN .u8) (sealN (encA (wordsN (allN (wordsN vs) (countsN vs) ++ allN (wordsN us) (countsN us))) (countsN (allN (wordsN vs) (countsN vs) ++ allN (wordsN us) (countsN us))) (wordsN (allN (wordsN vs) (countsN vs) ++ allN (wordsN us) (countsN us))).length))] _ := hs_23.adds hp_14
              have hS_1 : Sat w [cObj lg_1 92 [lvw_1, lvc_1, lvo_1], cL lvw_1 9 (encTx) (wordsN vs), cL lvc_1 3 (encN .i64) (countsN vs), cL lvo_1 3 (encN .i64) (ordN (wordsN vs)), cL lvn_1 3 (encN .i64) (vs.map (lbW (wordsN vs))), cObj lg_2 92 [lvw_2, lvc_2, lvo_2], cL lvw_2 9 (encTx) (wordsN us), cL lvc_2 3 (encN .i64) (countsN us), cL lvo_2 3 (encN .i64) (ordN (wordsN us)), cL lvn_2 3 (encN .i64) (us.map (lbW (wordsN us))), cObj lg_3 92 [lvw_3, lvc_3, lvo_3], cL lvw_3 9 (encTx) (wordsN (allN (wordsN vs) (countsN vs) ++ allN (wordsN us) (countsN us))), cL lvc_3 3 (encN .i64) (countsN (allN (wordsN vs) (countsN vs) ++ allN (wordsN us) (countsN us))), cL lvo_3 3 (encN .i64) (ordN (wordsN (allN (wordsN vs) (countsN vs) ++ allN (wordsN us) (countsN us)))), cL lv1_1 3 (encN .i64) ((wordsN vs).map (lbW (wordsN (allN (wordsN vs) (countsN vs) ++ allN (wordsN us) (countsN us))))), cL lv2_1 3 (encN .i64) ((wordsN us).map (lbW (wordsN (allN (wordsN vs) (countsN vs) ++ allN (wordsN us) (countsN us))))), cObj lg_4 92 [lvw_4, lvc_4, lvo_4], cL lvw_4 9 (encTx) (wordsN (allN (wordsN us) (countsN us) ++ allN (wordsN vs) (countsN vs))), cL lvc_4 3 (encN .i64) (countsN (allN (wordsN us) (countsN us) ++ allN (wordsN vs) (countsN vs))), cL lvo_4 3 (encN .i64) (ordN (wordsN (allN (wordsN us) (countsN us) ++ allN (wordsN vs) (countsN vs)))), cL lv1_2 3 (encN .i64) (((wordsN us).map fun y => (numN (wordsN (allN (wordsN us) (countsN us) ++ allN (wordsN vs) (countsN vs))) y).1)), cL lv2_2 3 (encN .i64) (((wordsN vs).map fun y => (numN (wordsN (allN (wordsN us) (countsN us) ++ allN (wordsN vs) (countsN vs))) y).1)), cL v_2 9 (encTx) (vs ++ us), cObj lg_5 92 [lvw_5, lvc_5, lvo_5], cL lvw_5 9 (encTx) (wordsN (vs ++ us)), cL lvc_5 3 (encN .i64) (countsN (vs ++ us)), cL lvo_5 3 (encN .i64) (ordN (wordsN (vs ++ us))), cL lvn_3 3 (encN .i64) ((vs ++ us).map (lbW (wordsN (vs ++ us))))] _ := hs_24.sub ((.cons_cons _ (.cons_cons _ (.cons_cons _ (.cons_cons _ (.cons_cons _ (.cons_cons _ (.cons_cons _ (.cons_cons _ (.cons_cons _ (.cons_cons _ (.cons_cons _ (.cons_cons _ (.cons_cons _ (.cons_cons _ (.cons_cons _ (.cons_cons _ (.cons_cons _ (.cons_cons _ (.cons_cons _ (.cons_cons _ (.cons_cons _ (.cons_cons _ (.cons_cons _ (.cons_cons _ (.cons_cons _ (.cons_cons _ (.cons_cons _ (.cons_cons _ (.cons _ .slnil))))))))))))))))))))))))))))))
              refine ⟨hS_1, ?_⟩
              refine RP.two rfl rfl rfl rfl rfl rfl (OpE.ev (Ev.bytesStr Try.underlying40 Try.underlying9 Try.underlying5 rfl (hs_24.rdL 28 rfl)) ⟨hS_1, ?_⟩) (OpE.call ent50 rfl ((lexEnc_ok _ _ _ _ _ _ _ _ (hs_24.lexAt 23 24 25 26 rfl rfl rfl rfl) (countsN_length _) (bld_120 heJ) (bld_c1 heJ) (bld_w heJ)).mono fun r_15 w_19 h_15 => ?_))
              · refine RP.eff rfl rfl rfl (OpE.call ent50 rfl ((lexEnc_ok _ _ _ _ _ _ _ _ (hs_24.lexAt 23 24 25 26 rfl rfl rfl rfl) (countsN_length _) (bld_120 heJ) (bld_c1 heJ) (bld_w heJ)).mono fun r_16 w_20 h_16 => ?_))
                have hp_16 := h_16
                have hs_25 : Sat w [cObj lg_1 92 [lvw_1, lvc_1, lvo_1], cL lvw_1 9 (encTx) (wordsN vs), cL lvc_1 3 (encN .i64) (countsN vs), cL lvo_1 3 (encN .i64) (ordN (wordsN vs)), cL lvn_1 3 (encN .i64) (vs.map (lbW (wordsN vs))), cObj lg_2 92 [lvw_2, lvc_2, lvo_2], cL lvw_2 9 (encTx) (wordsN us), cL lvc_2 3 (encN .i64) (countsN us), cL lvo_2 3 (encN .i64) (ordN (wordsN us)), cL lvn_2 3 (encN .i64) (us.map (lbW (wordsN us))), cObj lg_3 92 [lvw_3, lvc_3, lvo_3], cL lvw_3 9 (encTx) (wordsN (allN (wordsN vs) (countsN vs) ++ allN (wordsN us) (countsN us))), cL lvc_3 3 (encN .i64) (countsN (allN (wordsN vs) (countsN vs) ++ allN (wordsN us) (countsN us))), cL lvo_3 3 (encN .i64) (ordN (wordsN (allN (wordsN vs) (countsN vs) ++ allN (wordsN us) (countsN us)))), cL lv1_1 3 (encN .i64) ((wordsN vs).map (lbW (wordsN (allN (wordsN vs) (countsN vs) ++ allN (wordsN us) (countsN us))))), cL lv2_1 3 (encN .i64) ((wordsN us).map (lbW (wordsN (allN (wordsN vs) (countsN vs) ++ allN (wordsN us) (countsN us))))), cObj lg_4 92 [lvw_4, lvc_4, lvo_4], cL lvw_4 9 (encTx) (wordsN (allN (wordsN us) (countsN us) ++ allN (wordsN vs) (countsN vs))), cL lvc_4 3 (encN .i64) (countsN (allN (wordsN us) (countsN us) ++ allN (wordsN vs) (countsN vs))), cL lvo_4 3 (encN .i64) (ordN (wordsN (allN (wordsN us) (countsN us) ++ allN (wordsN vs) (countsN vs)))), cL lv1_2 3 (encN .i64) (((wordsN us).map fun y => (numN (wordsN (allN (wordsN us) (countsN us) ++ allN (wordsN vs) (countsN vs))) y).1)), cL lv2_2 3 (encN .i64) (((wordsN vs).map fun y => (numN (wordsN (allN (wordsN us) (countsN us) ++ allN (wordsN vs) (countsN vs))) y).1)), cL v_2 9 (encTx) (vs ++ us), cObj lg_5 92 [lvw_5, lvc_5, lvo_5], cL lvw_5 9 (encTx) (wordsN (vs ++ us)), cL lvc_5 3 (encN .i64) (countsN (vs ++ us)), cL lvo_5 3 (encN .i64) (ordN (wordsN (vs ++ us))), cL lvn_3 3 (encN .i64) ((vs ++ us).map (lbW (wordsN (vs ++ us)))), cL r_14 5 (encN .u8) (sealN (encA (wordsN (allN (wordsN vs) (countsN vs) ++ allN (wordsN us) (countsN us))) (countsN (allN (wordsN vs) (countsN vs) ++ allN (wordsN us) (countsN us))) (wordsN (allN (wordsN vs) (countsN vs) ++ allN (wordsN us) (countsN us))).length)), cL r_16 5 (encN .u8) (sealN (encA (wordsN (vs ++ us)) (countsN (vs ++ us)) (wordsN (vs ++ us)).length))] _ := hs_24.adds hp_16
                have hS_2 : Sat w [cObj lg_1 92 [lvw_1, lvc_1, lvo_1], cL lvw_1 9 (encTx) (wordsN vs), cL lvc_1 3 (encN .i64) (countsN vs), cL lvo_1 3 (encN .i64) (ordN (wordsN vs)), cL lvn_1 3 (encN .i64) (vs.map (lbW (wordsN vs))), cObj lg_2 92 [lvw_2, lvc_2, lvo_2], cL lvw_2 9 (encTx) (wordsN us), cL lvc_2 3 (encN .i64) (countsN us), cL lvo_2 3 (encN .i64) (ordN (wordsN us)), cL lvn_2 3 (encN .i64) (us.map (lbW (wordsN us))), cObj lg_3 92 [lvw_3, lvc_3, lvo_3], cL lvw_3 9 (encTx) (wordsN (allN (wordsN vs) (countsN vs) ++ allN (wordsN us) (countsN us))), cL lvc_3 3 (encN .i64) (countsN (allN (wordsN vs) (countsN vs) ++ allN (wordsN us) (countsN us))), cL lvo_3 3 (encN .i64) (ordN (wordsN (allN (wordsN vs) (countsN vs) ++ allN (wordsN us) (countsN us)))), cL lv1_1 3 (encN .i64) ((wordsN vs).map (lbW (wordsN (allN (wordsN vs) (countsN vs) ++ allN (wordsN us) (countsN us))))), cL lv2_1 3 (encN .i64) ((wordsN us).map (lbW (wordsN (allN (wordsN vs) (countsN vs) ++ allN (wordsN us) (countsN us))))), cObj lg_4 92 [lvw_4, lvc_4, lvo_4], cL lvw_4 9 (encTx) (wordsN (allN (wordsN us) (countsN us) ++ allN (wordsN vs) (countsN vs))), cL lvc_4 3 (encN .i64) (countsN (allN (wordsN us) (countsN us) ++ allN (wordsN vs) (countsN vs))), cL lvo_4 3 (encN .i64) (ordN (wordsN (allN (wordsN us) (countsN us) ++ allN (wordsN vs) (countsN vs)))), cL lv1_2 3 (encN .i64) (((wordsN us).map fun y => (numN (wordsN (allN (wordsN us) (countsN us) ++ allN (wordsN vs) (countsN vs))) y).1)), cL lv2_2 3 (encN .i64) (((wordsN vs).map fun y => (numN (wordsN (allN (wordsN us) (countsN us) ++ allN (wordsN vs) (countsN vs))) y).1)), cL v_2 9 (encTx) (vs ++ us), cObj lg_5 92 [lvw_5, lvc_5, lvo_5], cL lvw_5 9 (encTx) (wordsN (vs ++ us)), cL lvc_5 3 (encN .i64) (countsN (vs ++ us)), cL lvo_5 3 (encN .i64) (ordN (wordsN (vs ++ us))), cL lvn_3 3 (encN .i64) ((vs ++ us).map (lbW (wordsN (vs ++ us))))] _ := hs_25.sub ((.cons_cons _ (.cons_cons _ (.cons_cons _ (.cons_cons _ (.cons_cons _ (.cons_cons _ (.cons_cons _ (.cons_cons _ (.cons_cons _ (.cons_cons _ (.cons_cons _ (.cons_cons _ (.cons_cons _ (.cons_cons _ (.cons_cons _ (.cons_cons _ (.cons_cons _ (.cons_cons _ (.cons_cons _ (.cons_cons _ (.cons_cons _ (.cons_cons _ (.cons_cons _ (.cons_cons _ (.cons_cons _ (.cons_cons _ (.cons_cons _ (.cons_cons _ (.cons _ (.cons _ .slnil)))))))))))))))))))))))))))))))
                refine ⟨hS_2, ?_⟩
                refine RP.eff rfl rfl rfl (OpE.ev (Ev.bytesStr Try.underlying40 Try.underlying9 Try.underlying5 rfl (hs_25.rdL 29 rfl)) ⟨hS_2, ?_⟩)
                refine RP.ev rfl rfl rfl (fun w' hS' => Ev.strEql rfl rfl) hS_2 ?_
                refine RP.ev rfl rfl rfl (fun w' hS' => Ev.move rfl) hS_2 ?_
                refine RP.evYes rfl rfl rfl rfl (decide_eq_true (by rw [jn_w1, jn_c1])) rfl (fun w' hS' => Ev.move rfl) hS_2 ?_
                refine RP.evYes rfl rfl rfl rfl (decide_eq_true (by rw [jn_w1, jn_c1])) rfl (fun w' hS' => Ev.move rfl) hS_2 ?_
                refine RP.effYes rfl rfl rfl rfl (decide_eq_true (by rw [jn_w1, jn_c1])) rfl (OpE.call ent50 rfl ((lexEnc_ok _ _ _ _ _ _ _ _ (hs_25.lexAt 16 17 18 19 rfl rfl rfl rfl) (countsN_length _) (bld_120 heR) (bld_c1 heR) (bld_w heR)).mono fun r_17 w_21 h_17 => ?_))
                have hp_17 := h_17
                have hs_26 : Sat w [cObj lg_1 92 [lvw_1, lvc_1, lvo_1], cL lvw_1 9 (encTx) (wordsN vs), cL lvc_1 3 (encN .i64) (countsN vs), cL lvo_1 3 (encN .i64) (ordN (wordsN vs)), cL lvn_1 3 (encN .i64) (vs.map (lbW (wordsN vs))), cObj lg_2 92 [lvw_2, lvc_2, lvo_2], cL lvw_2 9 (encTx) (wordsN us), cL lvc_2 3 (encN .i64) (countsN us), cL lvo_2 3 (encN .i64) (ordN (wordsN us)), cL lvn_2 3 (encN .i64) (us.map (lbW (wordsN us))), cObj lg_3 92 [lvw_3, lvc_3, lvo_3], cL lvw_3 9 (encTx) (wordsN (allN (wordsN vs) (countsN vs) ++ allN (wordsN us) (countsN us))), cL lvc_3 3 (encN .i64) (countsN (allN (wordsN vs) (countsN vs) ++ allN (wordsN us) (countsN us))), cL lvo_3 3 (encN .i64) (ordN (wordsN (allN (wordsN vs) (countsN vs) ++ allN (wordsN us) (countsN us)))), cL lv1_1 3 (encN .i64) ((wordsN vs).map (lbW (wordsN (allN (wordsN vs) (countsN vs) ++ allN (wordsN us) (countsN us))))), cL lv2_1 3 (encN .i64) ((wordsN us).map (lbW (wordsN (allN (wordsN vs) (countsN vs) ++ allN (wordsN us) (countsN us))))), cObj lg_4 92 [lvw_4, lvc_4, lvo_4], cL lvw_4 9 (encTx) (wordsN (allN (wordsN us) (countsN us) ++ allN (wordsN vs) (countsN vs))), cL lvc_4 3 (encN .i64) (countsN (allN (wordsN us) (countsN us) ++ allN (wordsN vs) (countsN vs))), cL lvo_4 3 (encN .i64) (ordN (wordsN (allN (wordsN us) (countsN us) ++ allN (wordsN vs) (countsN vs)))), cL lv1_2 3 (encN .i64) (((wordsN us).map fun y => (numN (wordsN (allN (wordsN us) (countsN us) ++ allN (wordsN vs) (countsN vs))) y).1)), cL lv2_2 3 (encN .i64) (((wordsN vs).map fun y => (numN (wordsN (allN (wordsN us) (countsN us) ++ allN (wordsN vs) (countsN vs))) y).1)), cL v_2 9 (encTx) (vs ++ us), cObj lg_5 92 [lvw_5, lvc_5, lvo_5], cL lvw_5 9 (encTx) (wordsN (vs ++ us)), cL lvc_5 3 (encN .i64) (countsN (vs ++ us)), cL lvo_5 3 (encN .i64) (ordN (wordsN (vs ++ us))), cL lvn_3 3 (encN .i64) ((vs ++ us).map (lbW (wordsN (vs ++ us)))), cL r_14 5 (encN .u8) (sealN (encA (wordsN (allN (wordsN vs) (countsN vs) ++ allN (wordsN us) (countsN us))) (countsN (allN (wordsN vs) (countsN vs) ++ allN (wordsN us) (countsN us))) (wordsN (allN (wordsN vs) (countsN vs) ++ allN (wordsN us) (countsN us))).length)), cL r_16 5 (encN .u8) (sealN (encA (wordsN (vs ++ us)) (countsN (vs ++ us)) (wordsN (vs ++ us)).length)), cL r_17 5 (encN .u8) (sealN (encA (wordsN (allN (wordsN us) (countsN us) ++ allN (wordsN vs) (countsN vs))) (countsN (allN (wordsN us) (countsN us) ++ allN (wordsN vs) (countsN vs))) (wordsN (allN (wordsN us) (countsN us) ++ allN (wordsN vs) (countsN vs))).length))] _ := hs_25.adds hp_17
                have hS_3 : Sat w [cObj lg_1 92 [lvw_1, lvc_1, lvo_1], cL lvw_1 9 (encTx) (wordsN vs), cL lvc_1 3 (encN .i64) (countsN vs), cL lvo_1 3 (encN .i64) (ordN (wordsN vs)), cL lvn_1 3 (encN .i64) (vs.map (lbW (wordsN vs))), cObj lg_2 92 [lvw_2, lvc_2, lvo_2], cL lvw_2 9 (encTx) (wordsN us), cL lvc_2 3 (encN .i64) (countsN us), cL lvo_2 3 (encN .i64) (ordN (wordsN us)), cL lvn_2 3 (encN .i64) (us.map (lbW (wordsN us))), cObj lg_3 92 [lvw_3, lvc_3, lvo_3], cL lvw_3 9 (encTx) (wordsN (allN (wordsN vs) (countsN vs) ++ allN (wordsN us) (countsN us))), cL lvc_3 3 (encN .i64) (countsN (allN (wordsN vs) (countsN vs) ++ allN (wordsN us) (countsN us))), cL lvo_3 3 (encN .i64) (ordN (wordsN (allN (wordsN vs) (countsN vs) ++ allN (wordsN us) (countsN us)))), cL lv1_1 3 (encN .i64) ((wordsN vs).map (lbW (wordsN (allN (wordsN vs) (countsN vs) ++ allN (wordsN us) (countsN us))))), cL lv2_1 3 (encN .i64) ((wordsN us).map (lbW (wordsN (allN (wordsN vs) (countsN vs) ++ allN (wordsN us) (countsN us))))), cObj lg_4 92 [lvw_4, lvc_4, lvo_4], cL lvw_4 9 (encTx) (wordsN (allN (wordsN us) (countsN us) ++ allN (wordsN vs) (countsN vs))), cL lvc_4 3 (encN .i64) (countsN (allN (wordsN us) (countsN us) ++ allN (wordsN vs) (countsN vs))), cL lvo_4 3 (encN .i64) (ordN (wordsN (allN (wordsN us) (countsN us) ++ allN (wordsN vs) (countsN vs)))), cL lv1_2 3 (encN .i64) (((wordsN us).map fun y => (numN (wordsN (allN (wordsN us) (countsN us) ++ allN (wordsN vs) (countsN vs))) y).1)), cL lv2_2 3 (encN .i64) (((wordsN vs).map fun y => (numN (wordsN (allN (wordsN us) (countsN us) ++ allN (wordsN vs) (countsN vs))) y).1)), cL v_2 9 (encTx) (vs ++ us), cObj lg_5 92 [lvw_5, lvc_5, lvo_5], cL lvw_5 9 (encTx) (wordsN (vs ++ us)), cL lvc_5 3 (encN .i64) (countsN (vs ++ us)), cL lvo_5 3 (encN .i64) (ordN (wordsN (vs ++ us))), cL lvn_3 3 (encN .i64) ((vs ++ us).map (lbW (wordsN (vs ++ us))))] _ := hs_26.sub ((.cons_cons _ (.cons_cons _ (.cons_cons _ (.cons_cons _ (.cons_cons _ (.cons_cons _ (.cons_cons _ (.cons_cons _ (.cons_cons _ (.cons_cons _ (.cons_cons _ (.cons_cons _ (.cons_cons _ (.cons_cons _ (.cons_cons _ (.cons_cons _ (.cons_cons _ (.cons_cons _ (.cons_cons _ (.cons_cons _ (.cons_cons _ (.cons_cons _ (.cons_cons _ (.cons_cons _ (.cons_cons _ (.cons_cons _ (.cons_cons _ (.cons_cons _ (.cons _ (.cons _ (.cons _ .slnil))))))))))))))))))))))))))))))))
                refine ⟨hS_3, ?_⟩
                refine RP.twoYes rfl rfl rfl rfl (decide_eq_true (by rw [jn_w1, jn_c1])) rfl rfl rfl rfl rfl (decide_eq_true (by rw [jn_w1, jn_c1])) rfl (OpE.ev (Ev.bytesStr Try.underlying40 Try.underlying9 Try.underlying5 rfl (hs_26.rdL 30 rfl)) ⟨hS_3, ?_⟩) (OpE.call ent50 rfl ((lexEnc_ok _ _ _ _ _ _ _ _ (hs_26.lexAt 23 24 25 26 rfl rfl rfl rfl) (countsN_length _) (bld_120 heJ) (bld_c1 heJ) (bld_w heJ)).mono fun r_18 w_22 h_18 => ?_))
                · refine RP.effYes rfl rfl rfl rfl (decide_eq_true (by rw [jn_w1, jn_c1])) rfl (OpE.call ent50 rfl ((lexEnc_ok _ _ _ _ _ _ _ _ (hs_26.lexAt 23 24 25 26 rfl rfl rfl rfl) (countsN_length _) (bld_120 heJ) (bld_c1 heJ) (bld_w heJ)).mono fun r_19 w_23 h_19 => ?_))
                  have hp_19 := h_19
                  have hs_27 : Sat w [cObj lg_1 92 [lvw_1, lvc_1, lvo_1], cL lvw_1 9 (encTx) (wordsN vs), cL lvc_1 3 (encN .i64) (countsN vs), cL lvo_1 3 (encN .i64) (ordN (wordsN vs)), cL lvn_1 3 (encN .i64) (vs.map (lbW (wordsN vs))), cObj lg_2 92 [lvw_2, lvc_2, lvo_2], cL lvw_2 9 (encTx) (wordsN us), cL lvc_2 3 (encN .i64) (countsN us), cL lvo_2 3 (encN .i64) (ordN (wordsN us)), cL lvn_2 3 (encN .i64) (us.map (lbW (wordsN us))), cObj lg_3 92 [lvw_3, lvc_3, lvo_3], cL lvw_3 9 (encTx) (wordsN (allN (wordsN vs) (countsN vs) ++ allN (wordsN us) (countsN us))), cL lvc_3 3 (encN .i64) (countsN (allN (wordsN vs) (countsN vs) ++ allN (wordsN us) (countsN us))), cL lvo_3 3 (encN .i64) (ordN (wordsN (allN (wordsN vs) (countsN vs) ++ allN (wordsN us) (countsN us)))), cL lv1_1 3 (encN .i64) ((wordsN vs).map (lbW (wordsN (allN (wordsN vs) (countsN vs) ++ allN (wordsN us) (countsN us))))), cL lv2_1 3 (encN .i64) ((wordsN us).map (lbW (wordsN (allN (wordsN vs) (countsN vs) ++ allN (wordsN us) (countsN us))))), cObj lg_4 92 [lvw_4, lvc_4, lvo_4], cL lvw_4 9 (encTx) (wordsN (allN (wordsN us) (countsN us) ++ allN (wordsN vs) (countsN vs))), cL lvc_4 3 (encN .i64) (countsN (allN (wordsN us) (countsN us) ++ allN (wordsN vs) (countsN vs))), cL lvo_4 3 (encN .i64) (ordN (wordsN (allN (wordsN us) (countsN us) ++ allN (wordsN vs) (countsN vs)))), cL lv1_2 3 (encN .i64) (((wordsN us).map fun y => (numN (wordsN (allN (wordsN us) (countsN us) ++ allN (wordsN vs) (countsN vs))) y).1)), cL lv2_2 3 (encN .i64) (((wordsN vs).map fun y => (numN (wordsN (allN (wordsN us) (countsN us) ++ allN (wordsN vs) (countsN vs))) y).1)), cL v_2 9 (encTx) (vs ++ us), cObj lg_5 92 [lvw_5, lvc_5, lvo_5], cL lvw_5 9 (encTx) (wordsN (vs ++ us)), cL lvc_5 3 (encN .i64) (countsN (vs ++ us)), cL lvo_5 3 (encN .i64) (ordN (wordsN (vs ++ us))), cL lvn_3 3 (encN .i64) ((vs ++ us).map (lbW (wordsN (vs ++ us)))), cL r_14 5 (encN .u8) (sealN (encA (wordsN (allN (wordsN vs) (countsN vs) ++ allN (wordsN us) (countsN us))) (countsN (allN (wordsN vs) (countsN vs) ++ allN (wordsN us) (countsN us))) (wordsN (allN (wordsN vs) (countsN vs) ++ allN (wordsN us) (countsN us))).length)), cL r_16 5 (encN .u8) (sealN (encA (wordsN (vs ++ us)) (countsN (vs ++ us)) (wordsN (vs ++ us)).length)), cL r_17 5 (encN .u8) (sealN (encA (wordsN (allN (wordsN us) (countsN us) ++ allN (wordsN vs) (countsN vs))) (countsN (allN (wordsN us) (countsN us) ++ allN (wordsN vs) (countsN vs))) (wordsN (allN (wordsN us) (countsN us) ++ allN (wordsN vs) (countsN vs))).length)), cL r_19 5 (encN .u8) (sealN (encA (wordsN (vs ++ us)) (countsN (vs ++ us)) (wordsN (vs ++ us)).length))] _ := hs_26.adds hp_19
                  have hS_4 : Sat w [cObj lg_1 92 [lvw_1, lvc_1, lvo_1], cL lvw_1 9 (encTx) (wordsN vs), cL lvc_1 3 (encN .i64) (countsN vs), cL lvo_1 3 (encN .i64) (ordN (wordsN vs)), cL lvn_1 3 (encN .i64) (vs.map (lbW (wordsN vs))), cObj lg_2 92 [lvw_2, lvc_2, lvo_2], cL lvw_2 9 (encTx) (wordsN us), cL lvc_2 3 (encN .i64) (countsN us), cL lvo_2 3 (encN .i64) (ordN (wordsN us)), cL lvn_2 3 (encN .i64) (us.map (lbW (wordsN us))), cObj lg_3 92 [lvw_3, lvc_3, lvo_3], cL lvw_3 9 (encTx) (wordsN (allN (wordsN vs) (countsN vs) ++ allN (wordsN us) (countsN us))), cL lvc_3 3 (encN .i64) (countsN (allN (wordsN vs) (countsN vs) ++ allN (wordsN us) (countsN us))), cL lvo_3 3 (encN .i64) (ordN (wordsN (allN (wordsN vs) (countsN vs) ++ allN (wordsN us) (countsN us)))), cL lv1_1 3 (encN .i64) ((wordsN vs).map (lbW (wordsN (allN (wordsN vs) (countsN vs) ++ allN (wordsN us) (countsN us))))), cL lv2_1 3 (encN .i64) ((wordsN us).map (lbW (wordsN (allN (wordsN vs) (countsN vs) ++ allN (wordsN us) (countsN us))))), cObj lg_4 92 [lvw_4, lvc_4, lvo_4], cL lvw_4 9 (encTx) (wordsN (allN (wordsN us) (countsN us) ++ allN (wordsN vs) (countsN vs))), cL lvc_4 3 (encN .i64) (countsN (allN (wordsN us) (countsN us) ++ allN (wordsN vs) (countsN vs))), cL lvo_4 3 (encN .i64) (ordN (wordsN (allN (wordsN us) (countsN us) ++ allN (wordsN vs) (countsN vs)))), cL lv1_2 3 (encN .i64) (((wordsN us).map fun y => (numN (wordsN (allN (wordsN us) (countsN us) ++ allN (wordsN vs) (countsN vs))) y).1)), cL lv2_2 3 (encN .i64) (((wordsN vs).map fun y => (numN (wordsN (allN (wordsN us) (countsN us) ++ allN (wordsN vs) (countsN vs))) y).1)), cL v_2 9 (encTx) (vs ++ us), cObj lg_5 92 [lvw_5, lvc_5, lvo_5], cL lvw_5 9 (encTx) (wordsN (vs ++ us)), cL lvc_5 3 (encN .i64) (countsN (vs ++ us)), cL lvo_5 3 (encN .i64) (ordN (wordsN (vs ++ us))), cL lvn_3 3 (encN .i64) ((vs ++ us).map (lbW (wordsN (vs ++ us))))] _ := hs_27.sub ((.cons_cons _ (.cons_cons _ (.cons_cons _ (.cons_cons _ (.cons_cons _ (.cons_cons _ (.cons_cons _ (.cons_cons _ (.cons_cons _ (.cons_cons _ (.cons_cons _ (.cons_cons _ (.cons_cons _ (.cons_cons _ (.cons_cons _ (.cons_cons _ (.cons_cons _ (.cons_cons _ (.cons_cons _ (.cons_cons _ (.cons_cons _ (.cons_cons _ (.cons_cons _ (.cons_cons _ (.cons_cons _ (.cons_cons _ (.cons_cons _ (.cons_cons _ (.cons _ (.cons _ (.cons _ (.cons _ .slnil)))))))))))))))))))))))))))))))))
                  refine ⟨hS_4, ?_⟩
                  refine RP.effYes rfl rfl rfl rfl (decide_eq_true (by rw [jn_w1, jn_c1])) rfl (OpE.ev (Ev.bytesStr Try.underlying40 Try.underlying9 Try.underlying5 rfl (hs_27.rdL 31 rfl)) ⟨hS_4, ?_⟩)
                  refine RP.evYes rfl rfl rfl rfl (decide_eq_true (by rw [jn_w1, jn_c1])) rfl (fun w' hS' => Ev.strEql rfl rfl) hS_4 ?_
                  refine RP.ev rfl rfl rfl (fun w' hS' => Ev.pickY rfl (decide_eq_true (by rw [jn_w1, jn_c1])) rfl) hS_4 ?_
                  refine RP.ev rfl rfl rfl (fun w' hS' => Ev.move rfl) hS_4 ?_
                  refine RP.effYes rfl rfl rfl rfl (decide_eq_true (by rw [jn_w2, jn_c2])) rfl (OpE.call ent33 rfl ((lawake_ok _).mono fun r_20 w_24 h_20 => ?_))
                  obtain ⟨rfl, hp_20⟩ := h_20
                  have hs_28 : Sat w [cObj lg_1 92 [lvw_1, lvc_1, lvo_1], cL lvw_1 9 (encTx) (wordsN vs), cL lvc_1 3 (encN .i64) (countsN vs), cL lvo_1 3 (encN .i64) (ordN (wordsN vs)), cL lvn_1 3 (encN .i64) (vs.map (lbW (wordsN vs))), cObj lg_2 92 [lvw_2, lvc_2, lvo_2], cL lvw_2 9 (encTx) (wordsN us), cL lvc_2 3 (encN .i64) (countsN us), cL lvo_2 3 (encN .i64) (ordN (wordsN us)), cL lvn_2 3 (encN .i64) (us.map (lbW (wordsN us))), cObj lg_3 92 [lvw_3, lvc_3, lvo_3], cL lvw_3 9 (encTx) (wordsN (allN (wordsN vs) (countsN vs) ++ allN (wordsN us) (countsN us))), cL lvc_3 3 (encN .i64) (countsN (allN (wordsN vs) (countsN vs) ++ allN (wordsN us) (countsN us))), cL lvo_3 3 (encN .i64) (ordN (wordsN (allN (wordsN vs) (countsN vs) ++ allN (wordsN us) (countsN us)))), cL lv1_1 3 (encN .i64) ((wordsN vs).map (lbW (wordsN (allN (wordsN vs) (countsN vs) ++ allN (wordsN us) (countsN us))))), cL lv2_1 3 (encN .i64) ((wordsN us).map (lbW (wordsN (allN (wordsN vs) (countsN vs) ++ allN (wordsN us) (countsN us))))), cObj lg_4 92 [lvw_4, lvc_4, lvo_4], cL lvw_4 9 (encTx) (wordsN (allN (wordsN us) (countsN us) ++ allN (wordsN vs) (countsN vs))), cL lvc_4 3 (encN .i64) (countsN (allN (wordsN us) (countsN us) ++ allN (wordsN vs) (countsN vs))), cL lvo_4 3 (encN .i64) (ordN (wordsN (allN (wordsN us) (countsN us) ++ allN (wordsN vs) (countsN vs)))), cL lv1_2 3 (encN .i64) (((wordsN us).map fun y => (numN (wordsN (allN (wordsN us) (countsN us) ++ allN (wordsN vs) (countsN vs))) y).1)), cL lv2_2 3 (encN .i64) (((wordsN vs).map fun y => (numN (wordsN (allN (wordsN us) (countsN us) ++ allN (wordsN vs) (countsN vs))) y).1)), cL v_2 9 (encTx) (vs ++ us), cObj lg_5 92 [lvw_5, lvc_5, lvo_5], cL lvw_5 9 (encTx) (wordsN (vs ++ us)), cL lvc_5 3 (encN .i64) (countsN (vs ++ us)), cL lvo_5 3 (encN .i64) (ordN (wordsN (vs ++ us))), cL lvn_3 3 (encN .i64) ((vs ++ us).map (lbW (wordsN (vs ++ us)))), cL r_14 5 (encN .u8) (sealN (encA (wordsN (allN (wordsN vs) (countsN vs) ++ allN (wordsN us) (countsN us))) (countsN (allN (wordsN vs) (countsN vs) ++ allN (wordsN us) (countsN us))) (wordsN (allN (wordsN vs) (countsN vs) ++ allN (wordsN us) (countsN us))).length)), cL r_16 5 (encN .u8) (sealN (encA (wordsN (vs ++ us)) (countsN (vs ++ us)) (wordsN (vs ++ us)).length)), cL r_17 5 (encN .u8) (sealN (encA (wordsN (allN (wordsN us) (countsN us) ++ allN (wordsN vs) (countsN vs))) (countsN (allN (wordsN us) (countsN us) ++ allN (wordsN vs) (countsN vs))) (wordsN (allN (wordsN us) (countsN us) ++ allN (wordsN vs) (countsN vs))).length)), cL r_19 5 (encN .u8) (sealN (encA (wordsN (vs ++ us)) (countsN (vs ++ us)) (wordsN (vs ++ us)).length))] _ := hs_27.adds hp_20
                  have hS_5 : Sat w [cObj lg_1 92 [lvw_1, lvc_1, lvo_1], cL lvw_1 9 (encTx) (wordsN vs), cL lvc_1 3 (encN .i64) (countsN vs), cL lvo_1 3 (encN .i64) (ordN (wordsN vs)), cL lvn_1 3 (encN .i64) (vs.map (lbW (wordsN vs))), cObj lg_2 92 [lvw_2, lvc_2, lvo_2], cL lvw_2 9 (encTx) (wordsN us), cL lvc_2 3 (encN .i64) (countsN us), cL lvo_2 3 (encN .i64) (ordN (wordsN us)), cL lvn_2 3 (encN .i64) (us.map (lbW (wordsN us))), cObj lg_3 92 [lvw_3, lvc_3, lvo_3], cL lvw_3 9 (encTx) (wordsN (allN (wordsN vs) (countsN vs) ++ allN (wordsN us) (countsN us))), cL lvc_3 3 (encN .i64) (countsN (allN (wordsN vs) (countsN vs) ++ allN (wordsN us) (countsN us))), cL lvo_3 3 (encN .i64) (ordN (wordsN (allN (wordsN vs) (countsN vs) ++ allN (wordsN us) (countsN us)))), cL lv1_1 3 (encN .i64) ((wordsN vs).map (lbW (wordsN (allN (wordsN vs) (countsN vs) ++ allN (wordsN us) (countsN us))))), cL lv2_1 3 (encN .i64) ((wordsN us).map (lbW (wordsN (allN (wordsN vs) (countsN vs) ++ allN (wordsN us) (countsN us))))), cObj lg_4 92 [lvw_4, lvc_4, lvo_4], cL lvw_4 9 (encTx) (wordsN (allN (wordsN us) (countsN us) ++ allN (wordsN vs) (countsN vs))), cL lvc_4 3 (encN .i64) (countsN (allN (wordsN us) (countsN us) ++ allN (wordsN vs) (countsN vs))), cL lvo_4 3 (encN .i64) (ordN (wordsN (allN (wordsN us) (countsN us) ++ allN (wordsN vs) (countsN vs)))), cL lv1_2 3 (encN .i64) (((wordsN us).map fun y => (numN (wordsN (allN (wordsN us) (countsN us) ++ allN (wordsN vs) (countsN vs))) y).1)), cL lv2_2 3 (encN .i64) (((wordsN vs).map fun y => (numN (wordsN (allN (wordsN us) (countsN us) ++ allN (wordsN vs) (countsN vs))) y).1)), cL v_2 9 (encTx) (vs ++ us), cObj lg_5 92 [lvw_5, lvc_5, lvo_5], cL lvw_5 9 (encTx) (wordsN (vs ++ us)), cL lvc_5 3 (encN .i64) (countsN (vs ++ us)), cL lvo_5 3 (encN .i64) (ordN (wordsN (vs ++ us))), cL lvn_3 3 (encN .i64) ((vs ++ us).map (lbW (wordsN (vs ++ us))))] _ := hs_28.sub ((.cons_cons _ (.cons_cons _ (.cons_cons _ (.cons_cons _ (.cons_cons _ (.cons_cons _ (.cons_cons _ (.cons_cons _ (.cons_cons _ (.cons_cons _ (.cons_cons _ (.cons_cons _ (.cons_cons _ (.cons_cons _ (.cons_cons _ (.cons_cons _ (.cons_cons _ (.cons_cons _ (.cons_cons _ (.cons_cons _ (.cons_cons _ (.cons_cons _ (.cons_cons _ (.cons_cons _ (.cons_cons _ (.cons_cons _ (.cons_cons _ (.cons_cons _ (.cons _ (.cons _ (.cons _ (.cons _ .slnil)))))))))))))))))))))))))))))))))
                  refine ⟨hS_5, ?_⟩
                  refine RP.ev rfl rfl rfl (fun w' hS' => Ev.pickY rfl (decide_eq_true (by rw [jn_w2, jn_c2])) rfl) hS_5 ?_
                  refine RP.ev rfl rfl rfl (fun w' hS' => Ev.assign rfl) hS_5 ?_
                  refine RP.fin ?_
                  refine CW.ret ?_
                  show PostK _ _ _ _ _ _
                  refine post1 rfl rfl ?_
                  have hs_29 : Sat w [] w_24 := hs_28.sub ((.cons _ (.cons _ (.cons _ (.cons _ (.cons _ (.cons _ (.cons _ (.cons _ (.cons _ (.cons _ (.cons _ (.cons _ (.cons _ (.cons _ (.cons _ (.cons _ (.cons _ (.cons _ (.cons _ (.cons _ (.cons _ (.cons _ (.cons _ (.cons _ (.cons _ (.cons _ (.cons _ (.cons _ (.cons _ (.cons _ (.cons _ (.cons _ .slnil)))))))))))))))))))))))))))))))))
                  exact ⟨rfl, hs_29⟩
                · have hp_18 := h_18
                  have hs_30 : Sat w [cObj lg_1 92 [lvw_1, lvc_1, lvo_1], cL lvw_1 9 (encTx) (wordsN vs), cL lvc_1 3 (encN .i64) (countsN vs), cL lvo_1 3 (encN .i64) (ordN (wordsN vs)), cL lvn_1 3 (encN .i64) (vs.map (lbW (wordsN vs))), cObj lg_2 92 [lvw_2, lvc_2, lvo_2], cL lvw_2 9 (encTx) (wordsN us), cL lvc_2 3 (encN .i64) (countsN us), cL lvo_2 3 (encN .i64) (ordN (wordsN us)), cL lvn_2 3 (encN .i64) (us.map (lbW (wordsN us))), cObj lg_3 92 [lvw_3, lvc_3, lvo_3], cL lvw_3 9 (encTx) (wordsN (allN (wordsN vs) (countsN vs) ++ allN (wordsN us) (countsN us))), cL lvc_3 3 (encN .i64) (countsN (allN (wordsN vs) (countsN vs) ++ allN (wordsN us) (countsN us))), cL lvo_3 3 (encN .i64) (ordN (wordsN (allN (wordsN vs) (countsN vs) ++ allN (wordsN us) (countsN us)))), cL lv1_1 3 (encN .i64) ((wordsN vs).map (lbW (wordsN (allN (wordsN vs) (countsN vs) ++ allN (wordsN us) (countsN us))))), cL lv2_1 3 (encN .i64) ((wordsN us).map (lbW (wordsN (allN (wordsN vs) (countsN vs) ++ allN (wordsN us) (countsN us))))), cObj lg_4 92 [lvw_4, lvc_4, lvo_4], cL lvw_4 9 (encTx) (wordsN (allN (wordsN us) (countsN us) ++ allN (wordsN vs) (countsN vs))), cL lvc_4 3 (encN .i64) (countsN (allN (wordsN us) (countsN us) ++ allN (wordsN vs) (countsN vs))), cL lvo_4 3 (encN .i64) (ordN (wordsN (allN (wordsN us) (countsN us) ++ allN (wordsN vs) (countsN vs)))), cL lv1_2 3 (encN .i64) (((wordsN us).map fun y => (numN (wordsN (allN (wordsN us) (countsN us) ++ allN (wordsN vs) (countsN vs))) y).1)), cL lv2_2 3 (encN .i64) (((wordsN vs).map fun y => (numN (wordsN (allN (wordsN us) (countsN us) ++ allN (wordsN vs) (countsN vs))) y).1)), cL v_2 9 (encTx) (vs ++ us), cObj lg_5 92 [lvw_5, lvc_5, lvo_5], cL lvw_5 9 (encTx) (wordsN (vs ++ us)), cL lvc_5 3 (encN .i64) (countsN (vs ++ us)), cL lvo_5 3 (encN .i64) (ordN (wordsN (vs ++ us))), cL lvn_3 3 (encN .i64) ((vs ++ us).map (lbW (wordsN (vs ++ us)))), cL r_14 5 (encN .u8) (sealN (encA (wordsN (allN (wordsN vs) (countsN vs) ++ allN (wordsN us) (countsN us))) (countsN (allN (wordsN vs) (countsN vs) ++ allN (wordsN us) (countsN us))) (wordsN (allN (wordsN vs) (countsN vs) ++ allN (wordsN us) (countsN us))).length)), cL r_16 5 (encN .u8) (sealN (encA (wordsN (vs ++ us)) (countsN (vs ++ us)) (wordsN (vs ++ us)).length)), cL r_17 5 (encN .u8) (sealN (encA (wordsN (allN (wordsN us) (countsN us) ++ allN (wordsN vs) (countsN vs))) (countsN (allN (wordsN us) (countsN us) ++ allN (wordsN vs) (countsN vs))) (wordsN (allN (wordsN us) (countsN us) ++ allN (wordsN vs) (countsN vs))).length)), cL r_18 5 (encN .u8) (sealN (encA (wordsN (vs ++ us)) (countsN (vs ++ us)) (wordsN (vs ++ us)).length))] _ := hs_26.adds hp_18
                  have hS_6 : Sat w [cObj lg_1 92 [lvw_1, lvc_1, lvo_1], cL lvw_1 9 (encTx) (wordsN vs), cL lvc_1 3 (encN .i64) (countsN vs), cL lvo_1 3 (encN .i64) (ordN (wordsN vs)), cL lvn_1 3 (encN .i64) (vs.map (lbW (wordsN vs))), cObj lg_2 92 [lvw_2, lvc_2, lvo_2], cL lvw_2 9 (encTx) (wordsN us), cL lvc_2 3 (encN .i64) (countsN us), cL lvo_2 3 (encN .i64) (ordN (wordsN us)), cL lvn_2 3 (encN .i64) (us.map (lbW (wordsN us))), cObj lg_3 92 [lvw_3, lvc_3, lvo_3], cL lvw_3 9 (encTx) (wordsN (allN (wordsN vs) (countsN vs) ++ allN (wordsN us) (countsN us))), cL lvc_3 3 (encN .i64) (countsN (allN (wordsN vs) (countsN vs) ++ allN (wordsN us) (countsN us))), cL lvo_3 3 (encN .i64) (ordN (wordsN (allN (wordsN vs) (countsN vs) ++ allN (wordsN us) (countsN us)))), cL lv1_1 3 (encN .i64) ((wordsN vs).map (lbW (wordsN (allN (wordsN vs) (countsN vs) ++ allN (wordsN us) (countsN us))))), cL lv2_1 3 (encN .i64) ((wordsN us).map (lbW (wordsN (allN (wordsN vs) (countsN vs) ++ allN (wordsN us) (countsN us))))), cObj lg_4 92 [lvw_4, lvc_4, lvo_4], cL lvw_4 9 (encTx) (wordsN (allN (wordsN us) (countsN us) ++ allN (wordsN vs) (countsN vs))), cL lvc_4 3 (encN .i64) (countsN (allN (wordsN us) (countsN us) ++ allN (wordsN vs) (countsN vs))), cL lvo_4 3 (encN .i64) (ordN (wordsN (allN (wordsN us) (countsN us) ++ allN (wordsN vs) (countsN vs)))), cL lv1_2 3 (encN .i64) (((wordsN us).map fun y => (numN (wordsN (allN (wordsN us) (countsN us) ++ allN (wordsN vs) (countsN vs))) y).1)), cL lv2_2 3 (encN .i64) (((wordsN vs).map fun y => (numN (wordsN (allN (wordsN us) (countsN us) ++ allN (wordsN vs) (countsN vs))) y).1)), cL v_2 9 (encTx) (vs ++ us), cObj lg_5 92 [lvw_5, lvc_5, lvo_5], cL lvw_5 9 (encTx) (wordsN (vs ++ us)), cL lvc_5 3 (encN .i64) (countsN (vs ++ us)), cL lvo_5 3 (encN .i64) (ordN (wordsN (vs ++ us))), cL lvn_3 3 (encN .i64) ((vs ++ us).map (lbW (wordsN (vs ++ us))))] _ := hs_30.sub ((.cons_cons _ (.cons_cons _ (.cons_cons _ (.cons_cons _ (.cons_cons _ (.cons_cons _ (.cons_cons _ (.cons_cons _ (.cons_cons _ (.cons_cons _ (.cons_cons _ (.cons_cons _ (.cons_cons _ (.cons_cons _ (.cons_cons _ (.cons_cons _ (.cons_cons _ (.cons_cons _ (.cons_cons _ (.cons_cons _ (.cons_cons _ (.cons_cons _ (.cons_cons _ (.cons_cons _ (.cons_cons _ (.cons_cons _ (.cons_cons _ (.cons_cons _ (.cons _ (.cons _ (.cons _ (.cons _ .slnil)))))))))))))))))))))))))))))))))
                  refine ⟨hS_6, ?_⟩
                  refine RP.twoYes rfl rfl rfl rfl (decide_eq_true (by rw [jn_w1, jn_c1])) rfl rfl rfl rfl rfl (decide_eq_true (by rw [jn_w1, jn_c1])) rfl (OpE.ev (Ev.bytesStr Try.underlying40 Try.underlying9 Try.underlying5 rfl (hs_30.rdL 30 rfl)) ⟨hS_6, ?_⟩) (OpE.ev (Ev.bytesStr Try.underlying40 Try.underlying9 Try.underlying5 rfl (hs_30.rdL 31 rfl)) ⟨hS_6, ?_⟩)
                  · refine RP.effYes rfl rfl rfl rfl (decide_eq_true (by rw [jn_w1, jn_c1])) rfl (OpE.ev (Ev.bytesStr Try.underlying40 Try.underlying9 Try.underlying5 rfl (hs_30.rdL 31 rfl)) ⟨hS_6, ?_⟩)
                    refine RP.evYes rfl rfl rfl rfl (decide_eq_true (by rw [jn_w1, jn_c1])) rfl (fun w' hS' => Ev.strEql rfl rfl) hS_6 ?_
                    refine RP.ev rfl rfl rfl (fun w' hS' => Ev.pickY rfl (decide_eq_true (by rw [jn_w1, jn_c1])) rfl) hS_6 ?_
                    refine RP.ev rfl rfl rfl (fun w' hS' => Ev.move rfl) hS_6 ?_
                    refine RP.effYes rfl rfl rfl rfl (decide_eq_true (by rw [jn_w2, jn_c2])) rfl (OpE.call ent33 rfl ((lawake_ok _).mono fun r_21 w_25 h_21 => ?_))
                    obtain ⟨rfl, hp_21⟩ := h_21
                    have hs_31 : Sat w [cObj lg_1 92 [lvw_1, lvc_1, lvo_1], cL lvw_1 9 (encTx) (wordsN vs), cL lvc_1 3 (encN .i64) (countsN vs), cL lvo_1 3 (encN .i64) (ordN (wordsN vs)), cL lvn_1 3 (encN .i64) (vs.map (lbW (wordsN vs))), cObj lg_2 92 [lvw_2, lvc_2, lvo_2], cL lvw_2 9 (encTx) (wordsN us), cL lvc_2 3 (encN .i64) (countsN us), cL lvo_2 3 (encN .i64) (ordN (wordsN us)), cL lvn_2 3 (encN .i64) (us.map (lbW (wordsN us))), cObj lg_3 92 [lvw_3, lvc_3, lvo_3], cL lvw_3 9 (encTx) (wordsN (allN (wordsN vs) (countsN vs) ++ allN (wordsN us) (countsN us))), cL lvc_3 3 (encN .i64) (countsN (allN (wordsN vs) (countsN vs) ++ allN (wordsN us) (countsN us))), cL lvo_3 3 (encN .i64) (ordN (wordsN (allN (wordsN vs) (countsN vs) ++ allN (wordsN us) (countsN us)))), cL lv1_1 3 (encN .i64) ((wordsN vs).map (lbW (wordsN (allN (wordsN vs) (countsN vs) ++ allN (wordsN us) (countsN us))))), cL lv2_1 3 (encN .i64) ((wordsN us).map (lbW (wordsN (allN (wordsN vs) (countsN vs) ++ allN (wordsN us) (countsN us))))), cObj lg_4 92 [lvw_4, lvc_4, lvo_4], cL lvw_4 9 (encTx) (wordsN (allN (wordsN us) (countsN us) ++ allN (wordsN vs) (countsN vs))), cL lvc_4 3 (encN .i64) (countsN (allN (wordsN us) (countsN us) ++ allN (wordsN vs) (countsN vs))), cL lvo_4 3 (encN .i64) (ordN (wordsN (allN (wordsN us) (countsN us) ++ allN (wordsN vs) (countsN vs)))), cL lv1_2 3 (encN .i64) (((wordsN us).map fun y => (numN (wordsN (allN (wordsN us) (countsN us) ++ allN (wordsN vs) (countsN vs))) y).1)), cL lv2_2 3 (encN .i64) (((wordsN vs).map fun y => (numN (wordsN (allN (wordsN us) (countsN us) ++ allN (wordsN vs) (countsN vs))) y).1)), cL v_2 9 (encTx) (vs ++ us), cObj lg_5 92 [lvw_5, lvc_5, lvo_5], cL lvw_5 9 (encTx) (wordsN (vs ++ us)), cL lvc_5 3 (encN .i64) (countsN (vs ++ us)), cL lvo_5 3 (encN .i64) (ordN (wordsN (vs ++ us))), cL lvn_3 3 (encN .i64) ((vs ++ us).map (lbW (wordsN (vs ++ us)))), cL r_14 5 (encN .u8) (sealN (encA (wordsN (allN (wordsN vs) (countsN vs) ++ allN (wordsN us) (countsN us))) (countsN (allN (wordsN vs) (countsN vs) ++ allN (wordsN us) (countsN us))) (wordsN (allN (wordsN vs) (countsN vs) ++ allN (wordsN us) (countsN us))).length)), cL r_16 5 (encN .u8) (sealN (encA (wordsN (vs ++ us)) (countsN (vs ++ us)) (wordsN (vs ++ us)).length)), cL r_17 5 (encN .u8) (sealN (encA (wordsN (allN (wordsN us) (countsN us) ++ allN (wordsN vs) (countsN vs))) (countsN (allN (wordsN us) (countsN us) ++ allN (wordsN vs) (countsN vs))) (wordsN (allN (wordsN us) (countsN us) ++ allN (wordsN vs) (countsN vs))).length)), cL r_18 5 (encN .u8) (sealN (encA (wordsN (vs ++ us)) (countsN (vs ++ us)) (wordsN (vs ++ us)).length))] _ := hs_30.adds hp_21
                    have hS_7 : Sat w [cObj lg_1 92 [lvw_1, lvc_1, lvo_1], cL lvw_1 9 (encTx) (wordsN vs), cL lvc_1 3 (encN .i64) (countsN vs), cL lvo_1 3 (encN .i64) (ordN (wordsN vs)), cL lvn_1 3 (encN .i64) (vs.map (lbW (wordsN vs))), cObj lg_2 92 [lvw_2, lvc_2, lvo_2], cL lvw_2 9 (encTx) (wordsN us), cL lvc_2 3 (encN .i64) (countsN us), cL lvo_2 3 (encN .i64) (ordN (wordsN us)), cL lvn_2 3 (encN .i64) (us.map (lbW (wordsN us))), cObj lg_3 92 [lvw_3, lvc_3, lvo_3], cL lvw_3 9 (encTx) (wordsN (allN (wordsN vs) (countsN vs) ++ allN (wordsN us) (countsN us))), cL lvc_3 3 (encN .i64) (countsN (allN (wordsN vs) (countsN vs) ++ allN (wordsN us) (countsN us))), cL lvo_3 3 (encN .i64) (ordN (wordsN (allN (wordsN vs) (countsN vs) ++ allN (wordsN us) (countsN us)))), cL lv1_1 3 (encN .i64) ((wordsN vs).map (lbW (wordsN (allN (wordsN vs) (countsN vs) ++ allN (wordsN us) (countsN us))))), cL lv2_1 3 (encN .i64) ((wordsN us).map (lbW (wordsN (allN (wordsN vs) (countsN vs) ++ allN (wordsN us) (countsN us))))), cObj lg_4 92 [lvw_4, lvc_4, lvo_4], cL lvw_4 9 (encTx) (wordsN (allN (wordsN us) (countsN us) ++ allN (wordsN vs) (countsN vs))), cL lvc_4 3 (encN .i64) (countsN (allN (wordsN us) (countsN us) ++ allN (wordsN vs) (countsN vs))), cL lvo_4 3 (encN .i64) (ordN (wordsN (allN (wordsN us) (countsN us) ++ allN (wordsN vs) (countsN vs)))), cL lv1_2 3 (encN .i64) (((wordsN us).map fun y => (numN (wordsN (allN (wordsN us) (countsN us) ++ allN (wordsN vs) (countsN vs))) y).1)), cL lv2_2 3 (encN .i64) (((wordsN vs).map fun y => (numN (wordsN (allN (wordsN us) (countsN us) ++ allN (wordsN vs) (countsN vs))) y).1)), cL v_2 9 (encTx) (vs ++ us), cObj lg_5 92 [lvw_5, lvc_5, lvo_5], cL lvw_5 9 (encTx) (wordsN (vs ++ us)), cL lvc_5 3 (encN .i64) (countsN (vs ++ us)), cL lvo_5 3 (encN .i64) (ordN (wordsN (vs ++ us))), cL lvn_3 3 (encN .i64) ((vs ++ us).map (lbW (wordsN (vs ++ us))))] _ := hs_31.sub ((.cons_cons _ (.cons_cons _ (.cons_cons _ (.cons_cons _ (.cons_cons _ (.cons_cons _ (.cons_cons _ (.cons_cons _ (.cons_cons _ (.cons_cons _ (.cons_cons _ (.cons_cons _ (.cons_cons _ (.cons_cons _ (.cons_cons _ (.cons_cons _ (.cons_cons _ (.cons_cons _ (.cons_cons _ (.cons_cons _ (.cons_cons _ (.cons_cons _ (.cons_cons _ (.cons_cons _ (.cons_cons _ (.cons_cons _ (.cons_cons _ (.cons_cons _ (.cons _ (.cons _ (.cons _ (.cons _ .slnil)))))))))))))))))))))))))))))))))
                    refine ⟨hS_7, ?_⟩
                    refine RP.ev rfl rfl rfl (fun w' hS' => Ev.pickY rfl (decide_eq_true (by rw [jn_w2, jn_c2])) rfl) hS_7 ?_
                    refine RP.ev rfl rfl rfl (fun w' hS' => Ev.assign rfl) hS_7 ?_
                    refine RP.fin ?_
                    refine CW.ret ?_
                    show PostK _ _ _ _ _ _
                    refine post1 rfl rfl ?_
                    have hs_32 : Sat w [] w_25 := hs_31.sub ((.cons _ (.cons _ (.cons _ (.cons _ (.cons _ (.cons _ (.cons _ (.cons _ (.cons _ (.cons _ (.cons _ (.cons _ (.cons _ (.cons _ (.cons _ (.cons _ (.cons _ (.cons _ (.cons _ (.cons _ (.cons _ (.cons _ (.cons _ (.cons _ (.cons _ (.cons _ (.cons _ (.cons _ (.cons _ (.cons _ (.cons _ (.cons _ .slnil)))))))))))))))))))))))))))))))))
                    exact ⟨rfl, hs_32⟩
                  · refine RP.effYes rfl rfl rfl rfl (decide_eq_true (by rw [jn_w1, jn_c1])) rfl (OpE.ev (Ev.bytesStr Try.underlying40 Try.underlying9 Try.underlying5 rfl (hs_30.rdL 30 rfl)) ⟨hS_6, ?_⟩)
                    refine RP.evYes rfl rfl rfl rfl (decide_eq_true (by rw [jn_w1, jn_c1])) rfl (fun w' hS' => Ev.strEql rfl rfl) hS_6 ?_
                    refine RP.ev rfl rfl rfl (fun w' hS' => Ev.pickY rfl (decide_eq_true (by rw [jn_w1, jn_c1])) rfl) hS_6 ?_
                    refine RP.ev rfl rfl rfl (fun w' hS' => Ev.move rfl) hS_6 ?_
                    refine RP.effYes rfl rfl rfl rfl (decide_eq_true (by rw [jn_w2, jn_c2])) rfl (OpE.call ent33 rfl ((lawake_ok _).mono fun r_22 w_26 h_22 => ?_))
                    obtain ⟨rfl, hp_22⟩ := h_22
                    have hs_33 : Sat w [cObj lg_1 92 [lvw_1, lvc_1, lvo_1], cL lvw_1 9 (encTx) (wordsN vs), cL lvc_1 3 (encN .i64) (countsN vs), cL lvo_1 3 (encN .i64) (ordN (wordsN vs)), cL lvn_1 3 (encN .i64) (vs.map (lbW (wordsN vs))), cObj lg_2 92 [lvw_2, lvc_2, lvo_2], cL lvw_2 9 (encTx) (wordsN us), cL lvc_2 3 (encN .i64) (countsN us), cL lvo_2 3 (encN .i64) (ordN (wordsN us)), cL lvn_2 3 (encN .i64) (us.map (lbW (wordsN us))), cObj lg_3 92 [lvw_3, lvc_3, lvo_3], cL lvw_3 9 (encTx) (wordsN (allN (wordsN vs) (countsN vs) ++ allN (wordsN us) (countsN us))), cL lvc_3 3 (encN .i64) (countsN (allN (wordsN vs) (countsN vs) ++ allN (wordsN us) (countsN us))), cL lvo_3 3 (encN .i64) (ordN (wordsN (allN (wordsN vs) (countsN vs) ++ allN (wordsN us) (countsN us)))), cL lv1_1 3 (encN .i64) ((wordsN vs).map (lbW (wordsN (allN (wordsN vs) (countsN vs) ++ allN (wordsN us) (countsN us))))), cL lv2_1 3 (encN .i64) ((wordsN us).map (lbW (wordsN (allN (wordsN vs) (countsN vs) ++ allN (wordsN us) (countsN us))))), cObj lg_4 92 [lvw_4, lvc_4, lvo_4], cL lvw_4 9 (encTx) (wordsN (allN (wordsN us) (countsN us) ++ allN (wordsN vs) (countsN vs))), cL lvc_4 3 (encN .i64) (countsN (allN (wordsN us) (countsN us) ++ allN (wordsN vs) (countsN vs))), cL lvo_4 3 (encN .i64) (ordN (wordsN (allN (wordsN us) (countsN us) ++ allN (wordsN vs) (countsN vs)))), cL lv1_2 3 (encN .i64) (((wordsN us).map fun y => (numN (wordsN (allN (wordsN us) (countsN us) ++ allN (wordsN vs) (countsN vs))) y).1)), cL lv2_2 3 (encN .i64) (((wordsN vs).map fun y => (numN (wordsN (allN (wordsN us) (countsN us) ++ allN (wordsN vs) (countsN vs))) y).1)), cL v_2 9 (encTx) (vs ++ us), cObj lg_5 92 [lvw_5, lvc_5, lvo_5], cL lvw_5 9 (encTx) (wordsN (vs ++ us)), cL lvc_5 3 (encN .i64) (countsN (vs ++ us)), cL lvo_5 3 (encN .i64) (ordN (wordsN (vs ++ us))), cL lvn_3 3 (encN .i64) ((vs ++ us).map (lbW (wordsN (vs ++ us)))), cL r_14 5 (encN .u8) (sealN (encA (wordsN (allN (wordsN vs) (countsN vs) ++ allN (wordsN us) (countsN us))) (countsN (allN (wordsN vs) (countsN vs) ++ allN (wordsN us) (countsN us))) (wordsN (allN (wordsN vs) (countsN vs) ++ allN (wordsN us) (countsN us))).length)), cL r_16 5 (encN .u8) (sealN (encA (wordsN (vs ++ us)) (countsN (vs ++ us)) (wordsN (vs ++ us)).length)), cL r_17 5 (encN .u8) (sealN (encA (wordsN (allN (wordsN us) (countsN us) ++ allN (wordsN vs) (countsN vs))) (countsN (allN (wordsN us) (countsN us) ++ allN (wordsN vs) (countsN vs))) (wordsN (allN (wordsN us) (countsN us) ++ allN (wordsN vs) (countsN vs))).length)), cL r_18 5 (encN .u8) (sealN (encA (wordsN (vs ++ us)) (countsN (vs ++ us)) (wordsN (vs ++ us)).length))] _ := hs_30.adds hp_22
                    have hS_8 : Sat w [cObj lg_1 92 [lvw_1, lvc_1, lvo_1], cL lvw_1 9 (encTx) (wordsN vs), cL lvc_1 3 (encN .i64) (countsN vs), cL lvo_1 3 (encN .i64) (ordN (wordsN vs)), cL lvn_1 3 (encN .i64) (vs.map (lbW (wordsN vs))), cObj lg_2 92 [lvw_2, lvc_2, lvo_2], cL lvw_2 9 (encTx) (wordsN us), cL lvc_2 3 (encN .i64) (countsN us), cL lvo_2 3 (encN .i64) (ordN (wordsN us)), cL lvn_2 3 (encN .i64) (us.map (lbW (wordsN us))), cObj lg_3 92 [lvw_3, lvc_3, lvo_3], cL lvw_3 9 (encTx) (wordsN (allN (wordsN vs) (countsN vs) ++ allN (wordsN us) (countsN us))), cL lvc_3 3 (encN .i64) (countsN (allN (wordsN vs) (countsN vs) ++ allN (wordsN us) (countsN us))), cL lvo_3 3 (encN .i64) (ordN (wordsN (allN (wordsN vs) (countsN vs) ++ allN (wordsN us) (countsN us)))), cL lv1_1 3 (encN .i64) ((wordsN vs).map (lbW (wordsN (allN (wordsN vs) (countsN vs) ++ allN (wordsN us) (countsN us))))), cL lv2_1 3 (encN .i64) ((wordsN us).map (lbW (wordsN (allN (wordsN vs) (countsN vs) ++ allN (wordsN us) (countsN us))))), cObj lg_4 92 [lvw_4, lvc_4, lvo_4], cL lvw_4 9 (encTx) (wordsN (allN (wordsN us) (countsN us) ++ allN (wordsN vs) (countsN vs))), cL lvc_4 3 (encN .i64) (countsN (allN (wordsN us) (countsN us) ++ allN (wordsN vs) (countsN vs))), cL lvo_4 3 (encN .i64) (ordN (wordsN (allN (wordsN us) (countsN us) ++ allN (wordsN vs) (countsN vs)))), cL lv1_2 3 (encN .i64) (((wordsN us).map fun y => (numN (wordsN (allN (wordsN us) (countsN us) ++ allN (wordsN vs) (countsN vs))) y).1)), cL lv2_2 3 (encN .i64) (((wordsN vs).map fun y => (numN (wordsN (allN (wordsN us) (countsN us) ++ allN (wordsN vs) (countsN vs))) y).1)), cL v_2 9 (encTx) (vs ++ us), cObj lg_5 92 [lvw_5, lvc_5, lvo_5], cL lvw_5 9 (encTx) (wordsN (vs ++ us)), cL lvc_5 3 (encN .i64) (countsN (vs ++ us)), cL lvo_5 3 (encN .i64) (ordN (wordsN (vs ++ us))), cL lvn_3 3 (encN .i64) ((vs ++ us).map (lbW (wordsN (vs ++ us))))] _ := hs_33.sub ((.cons_cons _ (.cons_cons _ (.cons_cons _ (.cons_cons _ (.cons_cons _ (.cons_cons _ (.cons_cons _ (.cons_cons _ (.cons_cons _ (.cons_cons _ (.cons_cons _ (.cons_cons _ (.cons_cons _ (.cons_cons _ (.cons_cons _ (.cons_cons _ (.cons_cons _ (.cons_cons _ (.cons_cons _ (.cons_cons _ (.cons_cons _ (.cons_cons _ (.cons_cons _ (.cons_cons _ (.cons_cons _ (.cons_cons _ (.cons_cons _ (.cons_cons _ (.cons _ (.cons _ (.cons _ (.cons _ .slnil)))))))))))))))))))))))))))))))))
                    refine ⟨hS_8, ?_⟩
                    refine RP.ev rfl rfl rfl (fun w' hS' => Ev.pickY rfl (decide_eq_true (by rw [jn_w2, jn_c2])) rfl) hS_8 ?_
                    refine RP.ev rfl rfl rfl (fun w' hS' => Ev.assign rfl) hS_8 ?_
                    refine RP.fin ?_
                    refine CW.ret ?_
                    show PostK _ _ _ _ _ _
                    refine post1 rfl rfl ?_
                    have hs_34 : Sat w [] w_26 := hs_33.sub ((.cons _ (.cons _ (.cons _ (.cons _ (.cons _ (.cons _ (.cons _ (.cons _ (.cons _ (.cons _ (.cons _ (.cons _ (.cons _ (.cons _ (.cons _ (.cons _ (.cons _ (.cons _ (.cons _ (.cons _ (.cons _ (.cons _ (.cons _ (.cons _ (.cons _ (.cons _ (.cons _ (.cons _ (.cons _ (.cons _ (.cons _ (.cons _ .slnil)))))))))))))))))))))))))))))))))
                    exact ⟨rfl, hs_34⟩
              · have hp_15 := h_15
                have hs_35 : Sat w [cObj lg_1 92 [lvw_1, lvc_1, lvo_1], cL lvw_1 9 (encTx) (wordsN vs), cL lvc_1 3 (encN .i64) (countsN vs), cL lvo_1 3 (encN .i64) (ordN (wordsN vs)), cL lvn_1 3 (encN .i64) (vs.map (lbW (wordsN vs))), cObj lg_2 92 [lvw_2, lvc_2, lvo_2], cL lvw_2 9 (encTx) (wordsN us), cL lvc_2 3 (encN .i64) (countsN us), cL lvo_2 3 (encN .i64) (ordN (wordsN us)), cL lvn_2 3 (encN .i64) (us.map (lbW (wordsN us))), cObj lg_3 92 [lvw_3, lvc_3, lvo_3], cL lvw_3 9 (encTx) (wordsN (allN (wordsN vs) (countsN vs) ++ allN (wordsN us) (countsN us))), cL lvc_3 3 (encN .i64) (countsN (allN (wordsN vs) (countsN vs) ++ allN (wordsN us) (countsN us))), cL lvo_3 3 (encN .i64) (ordN (wordsN (allN (wordsN vs) (countsN vs) ++ allN (wordsN us) (countsN us)))), cL lv1_1 3 (encN .i64) ((wordsN vs).map (lbW (wordsN (allN (wordsN vs) (countsN vs) ++ allN (wordsN us) (countsN us))))), cL lv2_1 3 (encN .i64) ((wordsN us).map (lbW (wordsN (allN (wordsN vs) (countsN vs) ++ allN (wordsN us) (countsN us))))), cObj lg_4 92 [lvw_4, lvc_4, lvo_4], cL lvw_4 9 (encTx) (wordsN (allN (wordsN us) (countsN us) ++ allN (wordsN vs) (countsN vs))), cL lvc_4 3 (encN .i64) (countsN (allN (wordsN us) (countsN us) ++ allN (wordsN vs) (countsN vs))), cL lvo_4 3 (encN .i64) (ordN (wordsN (allN (wordsN us) (countsN us) ++ allN (wordsN vs) (countsN vs)))), cL lv1_2 3 (encN .i64) (((wordsN us).map fun y => (numN (wordsN (allN (wordsN us) (countsN us) ++ allN (wordsN vs) (countsN vs))) y).1)), cL lv2_2 3 (encN .i64) (((wordsN vs).map fun y => (numN (wordsN (allN (wordsN us) (countsN us) ++ allN (wordsN vs) (countsN vs))) y).1)), cL v_2 9 (encTx) (vs ++ us), cObj lg_5 92 [lvw_5, lvc_5, lvo_5], cL lvw_5 9 (encTx) (wordsN (vs ++ us)), cL lvc_5 3 (encN .i64) (countsN (vs ++ us)), cL lvo_5 3 (encN .i64) (ordN (wordsN (vs ++ us))), cL lvn_3 3 (encN .i64) ((vs ++ us).map (lbW (wordsN (vs ++ us)))), cL r_14 5 (encN .u8) (sealN (encA (wordsN (allN (wordsN vs) (countsN vs) ++ allN (wordsN us) (countsN us))) (countsN (allN (wordsN vs) (countsN vs) ++ allN (wordsN us) (countsN us))) (wordsN (allN (wordsN vs) (countsN vs) ++ allN (wordsN us) (countsN us))).length)), cL r_15 5 (encN .u8) (sealN (encA (wordsN (vs ++ us)) (countsN (vs ++ us)) (wordsN (vs ++ us)).length))] _ := hs_24.adds hp_15
                have hS_9 : Sat w [cObj lg_1 92 [lvw_1, lvc_1, lvo_1], cL lvw_1 9 (encTx) (wordsN vs), cL lvc_1 3 (encN .i64) (countsN vs), cL lvo_1 3 (encN .i64) (ordN (wordsN vs)), cL lvn_1 3 (encN .i64) (vs.map (lbW (wordsN vs))), cObj lg_2 92 [lvw_2, lvc_2, lvo_2], cL lvw_2 9 (encTx) (wordsN us), cL lvc_2 3 (encN .i64) (countsN us), cL lvo_2 3 (encN .i64) (ordN (wordsN us)), cL lvn_2 3 (encN .i64) (us.map (lbW (wordsN us))), cObj lg_3 92 [lvw_3, lvc_3, lvo_3], cL lvw_3 9 (encTx) (wordsN (allN (wordsN vs) (countsN vs) ++ allN (wordsN us) (countsN us))), cL lvc_3 3 (encN .i64) (countsN (allN (wordsN vs) (countsN vs) ++ allN (wordsN us) (countsN us))), cL lvo_3 3 (encN .i64) (ordN (wordsN (allN (wordsN vs) (countsN vs) ++ allN (wordsN us) (countsN us)))), cL lv1_1 3 (encN .i64) ((wordsN vs).map (lbW (wordsN (allN (wordsN vs) (countsN vs) ++ allN (wordsN us) (countsN us))))), cL lv2_1 3 (encN .i64) ((wordsN us).map (lbW (wordsN (allN (wordsN vs) (countsN vs) ++ allN (wordsN us) (countsN us))))), cObj lg_4 92 [lvw_4, lvc_4, lvo_4], cL lvw_4 9 (encTx) (wordsN (allN (wordsN us) (countsN us) ++ allN (wordsN vs) (countsN vs))), cL lvc_4 3 (encN .i64) (countsN (allN (wordsN us) (countsN us) ++ allN (wordsN vs) (countsN vs))), cL lvo_4 3 (encN .i64) (ordN (wordsN (allN (wordsN us) (countsN us) ++ allN (wordsN vs) (countsN vs)))), cL lv1_2 3 (encN .i64) (((wordsN us).map fun y => (numN (wordsN (allN (wordsN us) (countsN us) ++ allN (wordsN vs) (countsN vs))) y).1)), cL lv2_2 3 (encN .i64) (((wordsN vs).map fun y => (numN (wordsN (allN (wordsN us) (countsN us) ++ allN (wordsN vs) (countsN vs))) y).1)), cL v_2 9 (encTx) (vs ++ us), cObj lg_5 92 [lvw_5, lvc_5, lvo_5], cL lvw_5 9 (encTx) (wordsN (vs ++ us)), cL lvc_5 3 (encN .i64) (countsN (vs ++ us)), cL lvo_5 3 (encN .i64) (ordN (wordsN (vs ++ us))), cL lvn_3 3 (encN .i64) ((vs ++ us).map (lbW (wordsN (vs ++ us))))] _ := hs_35.sub ((.cons_cons _ (.cons_cons _ (.cons_cons _ (.cons_cons _ (.cons_cons _ (.cons_cons _ (.cons_cons _ (.cons_cons _ (.cons_cons _ (.cons_cons _ (.cons_cons _ (.cons_cons _ (.cons_cons _ (.cons_cons _ (.cons_cons _ (.cons_cons _ (.cons_cons _ (.cons_cons _ (.cons_cons _ (.cons_cons _ (.cons_cons _ (.cons_cons _ (.cons_cons _ (.cons_cons _ (.cons_cons _ (.cons_cons _ (.cons_cons _ (.cons_cons _ (.cons _ (.cons _ .slnil)))))))))))))))))))))))))))))))
                refine ⟨hS_9, ?_⟩
                refine RP.two rfl rfl rfl rfl rfl rfl (OpE.ev (Ev.bytesStr Try.underlying40 Try.underlying9 Try.underlying5 rfl (hs_35.rdL 28 rfl)) ⟨hS_9, ?_⟩) (OpE.ev (Ev.bytesStr Try.underlying40 Try.underlying9 Try.underlying5 rfl (hs_35.rdL 29 rfl)) ⟨hS_9, ?_⟩)
                · refine RP.eff rfl rfl rfl (OpE.ev (Ev.bytesStr Try.underlying40 Try.underlying9 Try.underlying5 rfl (hs_35.rdL 29 rfl)) ⟨hS_9, ?_⟩)
                  refine RP.ev rfl rfl rfl (fun w' hS' => Ev.strEql rfl rfl) hS_9 ?_
                  refine RP.ev rfl rfl rfl (fun w' hS' => Ev.move rfl) hS_9 ?_
                  refine RP.evYes rfl rfl rfl rfl (decide_eq_true (by rw [jn_w1, jn_c1])) rfl (fun w' hS' => Ev.move rfl) hS_9 ?_
                  refine RP.evYes rfl rfl rfl rfl (decide_eq_true (by rw [jn_w1, jn_c1])) rfl (fun w' hS' => Ev.move rfl) hS_9 ?_
                  refine RP.effYes rfl rfl rfl rfl (decide_eq_true (by rw [jn_w1, jn_c1])) rfl (OpE.call ent50 rfl ((lexEnc_ok _ _ _ _ _ _ _ _ (hs_35.lexAt 16 17 18 19 rfl rfl rfl rfl) (countsN_length _) (bld_120 heR) (bld_c1 heR) (bld_w heR)).mono fun r_23 w_27 h_23 => ?_))
                  have hp_23 := h_23
                  have hs_36 : Sat w [cObj lg_1 92 [lvw_1, lvc_1, lvo_1], cL lvw_1 9 (encTx) (wordsN vs), cL lvc_1 3 (encN .i64) (countsN vs), cL lvo_1 3 (encN .i64) (ordN (wordsN vs)), cL lvn_1 3 (encN .i64) (vs.map (lbW (wordsN vs))), cObj lg_2 92 [lvw_2, lvc_2, lvo_2], cL lvw_2 9 (encTx) (wordsN us), cL lvc_2 3 (encN .i64) (countsN us), cL lvo_2 3 (encN .i64) (ordN (wordsN us)), cL lvn_2 3 (encN .i64) (us.map (lbW (wordsN us))), cObj lg_3 92 [lvw_3, lvc_3, lvo_3], cL lvw_3 9 (encTx) (wordsN (allN (wordsN vs) (countsN vs) ++ allN (wordsN us) (countsN us))), cL lvc_3 3 (encN .i64) (countsN (allN (wordsN vs) (countsN vs) ++ allN (wordsN us) (countsN us))), cL lvo_3 3 (encN .i64) (ordN (wordsN (allN (wordsN vs) (countsN vs) ++ allN (wordsN us) (countsN us)))), cL lv1_1 3 (encN .i64) ((wordsN vs).map (lbW (wordsN (allN (wordsN vs) (countsN vs) ++ allN (wordsN us) (countsN us))))), cL lv2_1 3 (encN .i64) ((wordsN us).map (lbW (wordsN (allN (wordsN vs) (countsN vs) ++ allN (wordsN us) (countsN us))))), cObj lg_4 92 [lvw_4, lvc_4, lvo_4], cL lvw_4 9 (encTx) (wordsN (allN (wordsN us) (countsN us) ++ allN (wordsN vs) (countsN vs))), cL lvc_4 3 (encN .i64) (countsN (allN (wordsN us) (countsN us) ++ allN (wordsN vs) (countsN vs))), cL lvo_4 3 (encN .i64) (ordN (wordsN (allN (wordsN us) (countsN us) ++ allN (wordsN vs) (countsN vs)))), cL lv1_2 3 (encN .i64) (((wordsN us).map fun y => (numN (wordsN (allN (wordsN us) (countsN us) ++ allN (wordsN vs) (countsN vs))) y).1)), cL lv2_2 3 (encN .i64) (((wordsN vs).map fun y => (numN (wordsN (allN (wordsN us) (countsN us) ++ allN (wordsN vs) (countsN vs))) y).1)), cL v_2 9 (encTx) (vs ++ us), cObj lg_5 92 [lvw_5, lvc_5, lvo_5], cL lvw_5 9 (encTx) (wordsN (vs ++ us)), cL lvc_5 3 (encN .i64) (countsN (vs ++ us)), cL lvo_5 3 (encN .i64) (ordN (wordsN (vs ++ us))), cL lvn_3 3 (encN .i64) ((vs ++ us).map (lbW (wordsN (vs ++ us)))), cL r_14 5 (encN .u8) (sealN (encA (wordsN (allN (wordsN vs) (countsN vs) ++ allN (wordsN us) (countsN us))) (countsN (allN (wordsN vs) (countsN vs) ++ allN (wordsN us) (countsN us))) (wordsN (allN (wordsN vs) (countsN vs) ++ allN (wordsN us) (countsN us))).length)), cL r_15 5 (encN .u8) (sealN (encA (wordsN (vs ++ us)) (countsN (vs ++ us)) (wordsN (vs ++ us)).length)), cL r_23 5 (encN .u8) (sealN (encA (wordsN (allN (wordsN us) (countsN us) ++ allN (wordsN vs) (countsN vs))) (countsN (allN (wordsN us) (countsN us) ++ allN (wordsN vs) (countsN vs))) (wordsN (allN (wordsN us) (countsN us) ++ allN (wordsN vs) (countsN vs))).length))] _ := hs_35.adds hp_23
                  have hS_10 : Sat w [cObj lg_1 92 [lvw_1, lvc_1, lvo_1], cL lvw_1 9 (encTx) (wordsN vs), cL lvc_1 3 (encN .i64) (countsN vs), cL lvo_1 3 (encN .i64) (ordN (wordsN vs)), cL lvn_1 3 (encN .i64) (vs.map (lbW (wordsN vs))), cObj lg_2 92 [lvw_2, lvc_2, lvo_2], cL lvw_2 9 (encTx) (wordsN us), cL lvc_2 3 (encN .i64) (countsN us), cL lvo_2 3 (encN .i64) (ordN (wordsN us)), cL lvn_2 3 (encN .i64) (us.map (lbW (wordsN us))), cObj lg_3 92 [lvw_3, lvc_3, lvo_3], cL lvw_3 9 (encTx) (wordsN (allN (wordsN vs) (countsN vs) ++ allN (wordsN us) (countsN us))), cL lvc_3 3 (encN .i64) (countsN (allN (wordsN vs) (countsN vs) ++ allN (wordsN us) (countsN us))), cL lvo_3 3 (encN .i64) (ordN (wordsN (allN (wordsN vs) (countsN vs) ++ allN (wordsN us) (countsN us)))), cL lv1_1 3 (encN .i64) ((wordsN vs).map (lbW (wordsN (allN (wordsN vs) (countsN vs) ++ allN (wordsN us) (countsN us))))), cL lv2_1 3 (encN .i64) ((wordsN us).map (lbW (wordsN (allN (wordsN vs) (countsN vs) ++ allN (wordsN us) (countsN us))))), cObj lg_4 92 [lvw_4, lvc_4, lvo_4], cL lvw_4 9 (encTx) (wordsN (allN (wordsN us) (countsN us) ++ allN (wordsN vs) (countsN vs))), cL lvc_4 3 (encN .i64) (countsN (allN (wordsN us) (countsN us) ++ allN (wordsN vs) (countsN vs))), cL lvo_4 3 (encN .i64) (ordN (wordsN (allN (wordsN us) (countsN us) ++ allN (wordsN vs) (countsN vs)))), cL lv1_2 3 (encN .i64) (((wordsN us).map fun y => (numN (wordsN (allN (wordsN us) (countsN us) ++ allN (wordsN vs) (countsN vs))) y).1)), cL lv2_2 3 (encN .i64) (((wordsN vs).map fun y => (numN (wordsN (allN (wordsN us) (countsN us) ++ allN (wordsN vs) (countsN vs))) y).1)), cL v_2 9 (encTx) (vs ++ us), cObj lg_5 92 [lvw_5, lvc_5, lvo_5], cL lvw_5 9 (encTx) (wordsN (vs ++ us)), cL lvc_5 3 (encN .i64) (countsN (vs ++ us)), cL lvo_5 3 (encN .i64) (ordN (wordsN (vs ++ us))), cL lvn_3 3 (encN .i64) ((vs ++ us).map (lbW (wordsN (vs ++ us))))] _ := hs_36.sub ((.cons_cons _ (.cons_cons _ (.cons_cons _ (.cons_cons _ (.cons_cons _ (.cons_cons _ (.cons_cons _ (.cons_cons _ (.cons_cons _ (.cons_cons _ (.cons_cons _ (.cons_cons _ (.cons_cons _ (.cons_cons _ (.cons_cons _ (.cons_cons _ (.cons_cons _ (.cons_cons _ (.cons_cons _ (.cons_cons _ (.cons_cons _ (.cons_cons _ (.cons_cons _ (.cons_cons _ (.cons_cons _ (.cons_cons _ (.cons_cons _ (.cons_cons _ (.cons _ (.cons _ (.cons _ .slnil))))))))))))))))))))))))))))))))
                  refine ⟨hS_10, ?_⟩
                  refine RP.twoYes rfl rfl rfl rfl (decide_eq_true (by rw [jn_w1, jn_c1])) rfl rfl rfl rfl rfl (decide_eq_true (by rw [jn_w1, jn_c1])) rfl (OpE.ev (Ev.bytesStr Try.underlying40 Try.underlying9 Try.underlying5 rfl (hs_36.rdL 30 rfl)) ⟨hS_10, ?_⟩) (OpE.call ent50 rfl ((lexEnc_ok _ _ _ _ _ _ _ _ (hs_36.lexAt 23 24 25 26 rfl rfl rfl rfl) (countsN_length _) (bld_120 heJ) (bld_c1 heJ) (bld_w heJ)).mono fun r_24 w_28 h_24 => ?_))
                  · refine RP.effYes rfl rfl rfl rfl (decide_eq_true (by rw [jn_w1, jn_c1])) rfl (OpE.call ent50 rfl ((lexEnc_ok _ _ _ _ _ _ _ _ (hs_36.lexAt 23 24 25 26 rfl rfl rfl rfl) (countsN_length _) (bld_120 heJ) (bld_c1 heJ) (bld_w heJ)).mono fun r_25 w_29 h_25 => ?_))
                    have hp_25 := h_25
                    have hs_37 : Sat w [cObj lg_1 92 [lvw_1, lvc_1, lvo_1], cL lvw_1 9 (encTx) (wordsN vs), cL lvc_1 3 (encN .i64) (countsN vs), cL lvo_1 3 (encN .i64) (ordN (wordsN vs)), cL lvn_1 3 (encN .i64) (vs.map (lbW (wordsN vs))), cObj lg_2 92 [lvw_2, lvc_2, lvo_2], cL lvw_2 9 (encTx) (wordsN us), cL lvc_2 3 (encN .i64) (countsN us), cL lvo_2 3 (encN .i64) (ordN (wordsN us)), cL lvn_2 3 (encN .i64) (us.map (lbW (wordsN us))), cObj lg_3 92 [lvw_3, lvc_3, lvo_3], cL lvw_3 9 (encTx) (wordsN (allN (wordsN vs) (countsN vs) ++ allN (wordsN us) (countsN us))), cL lvc_3 3 (encN .i64) (countsN (allN (wordsN vs) (countsN vs) ++ allN (wordsN us) (countsN us))), cL lvo_3 3 (encN .i64) (ordN (wordsN (allN (wordsN vs) (countsN vs) ++ allN (wordsN us) (countsN us)))), cL lv1_1 3 (encN .i64) ((wordsN vs).map (lbW (wordsN (allN (wordsN vs) (countsN vs) ++ allN (wordsN us) (countsN us))))), cL lv2_1 3 (encN .i64) ((wordsN us).map (lbW (wordsN (allN (wordsN vs) (countsN vs) ++ allN (wordsN us) (countsN us))))), cObj lg_4 92 [lvw_4, lvc_4, lvo_4], cL lvw_4 9 (encTx) (wordsN (allN (wordsN us) (countsN us) ++ allN (wordsN vs) (countsN vs))), cL lvc_4 3 (encN .i64) (countsN (allN (wordsN us) (countsN us) ++ allN (wordsN vs) (countsN vs))), cL lvo_4 3 (encN .i64) (ordN (wordsN (allN (wordsN us) (countsN us) ++ allN (wordsN vs) (countsN vs)))), cL lv1_2 3 (encN .i64) (((wordsN us).map fun y => (numN (wordsN (allN (wordsN us) (countsN us) ++ allN (wordsN vs) (countsN vs))) y).1)), cL lv2_2 3 (encN .i64) (((wordsN vs).map fun y => (numN (wordsN (allN (wordsN us) (countsN us) ++ allN (wordsN vs) (countsN vs))) y).1)), cL v_2 9 (encTx) (vs ++ us), cObj lg_5 92 [lvw_5, lvc_5, lvo_5], cL lvw_5 9 (encTx) (wordsN (vs ++ us)), cL lvc_5 3 (encN .i64) (countsN (vs ++ us)), cL lvo_5 3 (encN .i64) (ordN (wordsN (vs ++ us))), cL lvn_3 3 (encN .i64) ((vs ++ us).map (lbW (wordsN (vs ++ us)))), cL r_14 5 (encN .u8) (sealN (encA (wordsN (allN (wordsN vs) (countsN vs) ++ allN (wordsN us) (countsN us))) (countsN (allN (wordsN vs) (countsN vs) ++ allN (wordsN us) (countsN us))) (wordsN (allN (wordsN vs) (countsN vs) ++ allN (wordsN us) (countsN us))).length)), cL r_15 5 (encN .u8) (sealN (encA (wordsN (vs ++ us)) (countsN (vs ++ us)) (wordsN (vs ++ us)).length)), cL r_23 5 (encN .u8) (sealN (encA (wordsN (allN (wordsN us) (countsN us) ++ allN (wordsN vs) (countsN vs))) (countsN (allN (wordsN us) (countsN us) ++ allN (wordsN vs) (countsN vs))) (wordsN (allN (wordsN us) (countsN us) ++ allN (wordsN vs) (countsN vs))).length)), cL r_25 5 (encN .u8) (sealN (encA (wordsN (vs ++ us)) (countsN (vs ++ us)) (wordsN (vs ++ us)).length))] _ := hs_36.adds hp_25
                    have hS_11 : Sat w [cObj lg_1 92 [lvw_1, lvc_1, lvo_1], cL lvw_1 9 (encTx) (wordsN vs), cL lvc_1 3 (encN .i64) (countsN vs), cL lvo_1 3 (encN .i64) (ordN (wordsN vs)), cL lvn_1 3 (encN .i64) (vs.map (lbW (wordsN vs))), cObj lg_2 92 [lvw_2, lvc_2, lvo_2], cL lvw_2 9 (encTx) (wordsN us), cL lvc_2 3 (encN .i64) (countsN us), cL lvo_2 3 (encN .i64) (ordN (wordsN us)), cL lvn_2 3 (encN .i64) (us.map (lbW (wordsN us))), cObj lg_3 92 [lvw_3, lvc_3, lvo_3], cL lvw_3 9 (encTx) (wordsN (allN (wordsN vs) (countsN vs) ++ allN (wordsN us) (countsN us))), cL lvc_3 3 (encN .i64) (countsN (allN (wordsN vs) (countsN vs) ++ allN (wordsN us) (countsN us))), cL lvo_3 3 (encN .i64) (ordN (wordsN (allN (wordsN vs) (countsN vs) ++ allN (wordsN us) (countsN us)))), cL lv1_1 3 (encN .i64) ((wordsN vs).map (lbW (wordsN (allN (wordsN vs) (countsN vs) ++ allN (wordsN us) (countsN us))))), cL lv2_1 3 (encN .i64) ((wordsN us).map (lbW (wordsN (allN (wordsN vs) (countsN vs) ++ allN (wordsN us) (countsN us))))), cObj lg_4 92 [lvw_4, lvc_4, lvo_4], cL lvw_4 9 (encTx) (wordsN (allN (wordsN us) (countsN us) ++ allN (wordsN vs) (countsN vs))), cL lvc_4 3 (encN .i64) (countsN (allN (wordsN us) (countsN us) ++ allN (wordsN vs) (countsN vs))), cL lvo_4 3 (encN .i64) (ordN (wordsN (allN (wordsN us) (countsN us) ++ allN (wordsN vs) (countsN vs)))), cL lv1_2 3 (encN .i64) (((wordsN us).map fun y => (numN (wordsN (allN (wordsN us) (countsN us) ++ allN (wordsN vs) (countsN vs))) y).1)), cL lv2_2 3 (encN .i64) (((wordsN vs).map fun y => (numN (wordsN (allN (wordsN us) (countsN us) ++ allN (wordsN vs) (countsN vs))) y).1)), cL v_2 9 (encTx) (vs ++ us), cObj lg_5 92 [lvw_5, lvc_5, lvo_5], cL lvw_5 9 (encTx) (wordsN (vs ++ us)), cL lvc_5 3 (encN .i64) (countsN (vs ++ us)), cL lvo_5 3 (encN .i64) (ordN (wordsN (vs ++ us))), cL lvn_3 3 (encN .i64) ((vs ++ us).map (lbW (wordsN (vs ++ us))))] _ := hs_37.sub ((.cons_cons _ (.cons_cons _ (.cons_cons _ (.cons_cons _ (.cons_cons _ (.cons_cons _ (.cons_cons _ (.cons_cons _ (.cons_cons _ (.cons_cons _ (.cons_cons _ (.cons_cons _ (.cons_cons _ (.cons_cons _ (.cons_cons _ (.cons_cons _ (.cons_cons _ (.cons_cons _ (.cons_cons _ (.cons_cons _ (.cons_cons _ (.cons_cons _ (.cons_cons _ (.cons_cons _ (.cons_cons _ (.cons_cons _ (.cons_cons _ (.cons_cons _ (.cons _ (.cons _ (.cons _ (.cons _ .slnil)))))))))))))))))))))))))))))))))
                    refine ⟨hS_11, ?_⟩
                    refine RP.effYes rfl rfl rfl rfl (decide_eq_true (by rw [jn_w1, jn_c1])) rfl (OpE.ev (Ev.bytesStr Try.underlying40 Try.underlying9 Try.underlying5 rfl (hs_37.rdL 31 rfl)) ⟨hS_11, ?_⟩)
                    refine RP.evYes rfl rfl rfl rfl (decide_eq_true (by rw [jn_w1, jn_c1])) rfl (fun w' hS' => Ev.strEql rfl rfl) hS_11 ?_
                    refine RP.ev rfl rfl rfl (fun w' hS' => Ev.pickY rfl (decide_eq_true (by rw [jn_w1, jn_c1])) rfl) hS_11 ?_
                    refine RP.ev rfl rfl rfl (fun w' hS' => Ev.move rfl) hS_11 ?_
                    refine RP.effYes rfl rfl rfl rfl (decide_eq_true (by rw [jn_w2, jn_c2])) rfl (OpE.call ent33 rfl ((lawake_ok _).mono fun r_26 w_30 h_26 => ?_))
                    obtain ⟨rfl, hp_26⟩ := h_26
                    have hs_38 : Sat w [cObj lg_1 92 [lvw_1, lvc_1, lvo_1], cL lvw_1 9 (encTx) (wordsN vs), cL lvc_1 3 (encN .i64) (countsN vs), cL lvo_1 3 (encN .i64) (ordN (wordsN vs)), cL lvn_1 3 (encN .i64) (vs.map (lbW (wordsN vs))), cObj lg_2 92 [lvw_2, lvc_2, lvo_2], cL lvw_2 9 (encTx) (wordsN us), cL lvc_2 3 (encN .i64) (countsN us), cL lvo_2 3 (encN .i64) (ordN (wordsN us)), cL lvn_2 3 (encN .i64) (us.map (lbW (wordsN us))), cObj lg_3 92 [lvw_3, lvc_3, lvo_3], cL lvw_3 9 (encTx) (wordsN (allN (wordsN vs) (countsN vs) ++ allN (wordsN us) (countsN us))), cL lvc_3 3 (encN .i64) (countsN (allN (wordsN vs) (countsN vs) ++ allN (wordsN us) (countsN us))), cL lvo_3 3 (encN .i64) (ordN (wordsN (allN (wordsN vs) (countsN vs) ++ allN (wordsN us) (countsN us)))), cL lv1_1 3 (encN .i64) ((wordsN vs).map (lbW (wordsN (allN (wordsN vs) (countsN vs) ++ allN (wordsN us) (countsN us))))), cL lv2_1 3 (encN .i64) ((wordsN us).map (lbW (wordsN (allN (wordsN vs) (countsN vs) ++ allN (wordsN us) (countsN us))))), cObj lg_4 92 [lvw_4, lvc_4, lvo_4], cL lvw_4 9 (encTx) (wordsN (allN (wordsN us) (countsN us) ++ allN (wordsN vs) (countsN vs))), cL lvc_4 3 (encN .i64) (countsN (allN (wordsN us) (countsN us) ++ allN (wordsN vs) (countsN vs))), cL lvo_4 3 (encN .i64) (ordN (wordsN (allN (wordsN us) (countsN us) ++ allN (wordsN vs) (countsN vs)))), cL lv1_2 3 (encN .i64) (((wordsN us).map fun y => (numN (wordsN (allN (wordsN us) (countsN us) ++ allN (wordsN vs) (countsN vs))) y).1)), cL lv2_2 3 (encN .i64) (((wordsN vs).map fun y => (numN (wordsN (allN (wordsN us) (countsN us) ++ allN (wordsN vs) (countsN vs))) y).1)), cL v_2 9 (encTx) (vs ++ us), cObj lg_5 92 [lvw_5, lvc_5, lvo_5], cL lvw_5 9 (encTx) (wordsN (vs ++ us)), cL lvc_5 3 (encN .i64) (countsN (vs ++ us)), cL lvo_5 3 (encN .i64) (ordN (wordsN (vs ++ us))), cL lvn_3 3 (encN .i64) ((vs ++ us).map (lbW (wordsN (vs ++ us)))), cL r_14 5 (encN .u8) (sealN (encA (wordsN (allN (wordsN vs) (countsN vs) ++ allN (wordsN us) (countsN us))) (countsN (allN (wordsN vs) (countsN vs) ++ allN (wordsN us) (countsN us))) (wordsN (allN (wordsN vs) (countsN vs) ++ allN (wordsN us) (countsN us))).length)), cL r_15 5 (encN .u8) (sealN (encA (wordsN (vs ++ us)) (countsN (vs ++ us)) (wordsN (vs ++ us)).length)), cL r_23 5 (encN .u8) (sealN (encA (wordsN (allN (wordsN us) (countsN us) ++ allN (wordsN vs) (countsN vs))) (countsN (allN (wordsN us) (countsN us) ++ allN (wordsN vs) (countsN vs))) (wordsN (allN (wordsN us) (countsN us) ++ allN (wordsN vs) (countsN vs))).length)), cL r_25 5 (encN .u8) (sealN (encA (wordsN (vs ++ us)) (countsN (vs ++ us)) (wordsN (vs ++ us)).length))] _ := hs_37.adds hp_26
                    have hS_12 : Sat w [cObj lg_1 92 [lvw_1, lvc_1, lvo_1], cL lvw_1 9 (encTx) (wordsN vs), cL lvc_1 3 (encN .i64) (countsN vs), cL lvo_1 3 (encN .i64) (ordN (wordsN vs)), cL lvn_1 3 (encN .i64) (vs.map (lbW (wordsN vs))), cObj lg_2 92 [lvw_2, lvc_2, lvo_2], cL lvw_2 9 (encTx) (wordsN us), cL lvc_2 3 (encN .i64) (countsN us), cL lvo_2 3 (encN .i64) (ordN (wordsN us)), cL lvn_2 3 (encN .i64) (us.map (lbW (wordsN us))), cObj lg_3 92 [lvw_3, lvc_3, lvo_3], cL lvw_3 9 (encTx) (wordsN (allN (wordsN vs) (countsN vs) ++ allN (wordsN us) (countsN us))), cL lvc_3 3 (encN .i64) (countsN (allN (wordsN vs) (countsN vs) ++ allN (wordsN us) (countsN us))), cL lvo_3 3 (encN .i64) (ordN (wordsN (allN (wordsN vs) (countsN vs) ++ allN (wordsN us) (countsN us)))), cL lv1_1 3 (encN .i64) ((wordsN vs).map (lbW (wordsN (allN (wordsN vs) (countsN vs) ++ allN (wordsN us) (countsN us))))), cL lv2_1 3 (encN .i64) ((wordsN us).map (lbW (wordsN (allN (wordsN vs) (countsN vs) ++ allN (wordsN us) (countsN us))))), cObj lg_4 92 [lvw_4, lvc_4, lvo_4], cL lvw_4 9 (encTx) (wordsN (allN (wordsN us) (countsN us) ++ allN (wordsN vs) (countsN vs))), cL lvc_4 3 (encN .i64) (countsN (allN (wordsN us) (countsN us) ++ allN (wordsN vs) (countsN vs))), cL lvo_4 3 (encN .i64) (ordN (wordsN (allN (wordsN us) (countsN us) ++ allN (wordsN vs) (countsN vs)))), cL lv1_2 3 (encN .i64) (((wordsN us).map fun y => (numN (wordsN (allN (wordsN us) (countsN us) ++ allN (wordsN vs) (countsN vs))) y).1)), cL lv2_2 3 (encN .i64) (((wordsN vs).map fun y => (numN (wordsN (allN (wordsN us) (countsN us) ++ allN (wordsN vs) (countsN vs))) y).1)), cL v_2 9 (encTx) (vs ++ us), cObj lg_5 92 [lvw_5, lvc_5, lvo_5], cL lvw_5 9 (encTx) (wordsN (vs ++ us)), cL lvc_5 3 (encN .i64) (countsN (vs ++ us)), cL lvo_5 3 (encN .i64) (ordN (wordsN (vs ++ us))), cL lvn_3 3 (encN .i64) ((vs ++ us).map (lbW (wordsN (vs ++ us))))] _ := hs_38.sub ((.cons_cons _ (.cons_cons _ (.cons_cons _ (.cons_cons _ (.cons_cons _ (.cons_cons _ (.cons_cons _ (.cons_cons _ (.cons_cons _ (.cons_cons _ (.cons_cons _ (.cons_cons _ (.cons_cons _ (.cons_cons _ (.cons_cons _ (.cons_cons _ (.cons_cons _ (.cons_cons _ (.cons_cons _ (.cons_cons _ (.cons_cons _ (.cons_cons _ (.cons_cons _ (.cons_cons _ (.cons_cons _ (.cons_cons _ (.cons_cons _ (.cons_cons _ (.cons _ (.cons _ (.cons _ (.cons _ .slnil)))))))))))))))))))))))))))))))))
                    refine ⟨hS_12, ?_⟩
                    refine RP.ev rfl rfl rfl (fun w' hS' => Ev.pickY rfl (decide_eq_true (by rw [jn_w2, jn_c2])) rfl) hS_12 ?_
                    refine RP.ev rfl rfl rfl (fun w' hS' => Ev.assign rfl) hS_12 ?_
                    refine RP.fin ?_
                    refine CW.ret ?_
                    show PostK _ _ _ _ _ _
                    refine post1 rfl rfl ?_
                    have hs_39 : Sat w [] w_30 := hs_38.sub ((.cons _ (.cons _ (.cons _ (.cons _ (.cons _ (.cons _ (.cons _ (.cons _ (.cons _ (.cons _ (.cons _ (.cons _ (.cons _ (.cons _ (.cons _ (.cons _ (.cons _ (.cons _ (.cons _ (.cons _ (.cons _ (.cons _ (.cons _ (.cons _ (.cons _ (.cons _ (.cons _ (.cons _ (.cons _ (.cons _ (.cons _ (.cons _ .slnil)))))))))))))))))))))))))))))))))
                    exact ⟨rfl, hs_39⟩
                  · have hp_24 := h_24
                    have hs_40 : Sat w [cObj lg_1 92 [lvw_1, lvc_1, lvo_1], cL lvw_1 9 (encTx) (wordsN vs), cL lvc_1 3 (encN .i64) (countsN vs), cL lvo_1 3 (encN .i64) (ordN (wordsN vs)), cL lvn_1 3 (encN .i64) (vs.map (lbW (wordsN vs))), cObj lg_2 92 [lvw_2, lvc_2, lvo_2], cL lvw_2 9 (encTx) (wordsN us), cL lvc_2 3 (encN .i64) (countsN us), cL lvo_2 3 (encN .i64) (ordN (wordsN us)), cL lvn_2 3 (encN .i64) (us.map (lbW (wordsN us))), cObj lg_3 92 [lvw_3, lvc_3, lvo_3], cL lvw_3 9 (encTx) (wordsN (allN (wordsN vs) (countsN vs) ++ allN (wordsN us) (countsN us))), cL lvc_3 3 (encN .i64) (countsN (allN (wordsN vs) (countsN vs) ++ allN (wordsN us) (countsN us))), cL lvo_3 3 (encN .i64) (ordN (wordsN (allN (wordsN vs) (countsN vs) ++ allN (wordsN us) (countsN us)))), cL lv1_1 3 (encN .i64) ((wordsN vs).map (lbW (wordsN (allN (wordsN vs) (countsN vs) ++ allN (wordsN us) (countsN us))))), cL lv2_1 3 (encN .i64) ((wordsN us).map (lbW (wordsN (allN (wordsN vs) (countsN vs) ++ allN (wordsN us) (countsN us))))), cObj lg_4 92 [lvw_4, lvc_4, lvo_4], cL lvw_4 9 (encTx) (wordsN (allN (wordsN us) (countsN us) ++ allN (wordsN vs) (countsN vs))), cL lvc_4 3 (encN .i64) (countsN (allN (wordsN us) (countsN us) ++ allN (wordsN vs) (countsN vs))), cL lvo_4 3 (encN .i64) (ordN (wordsN (allN (wordsN us) (countsN us) ++ allN (wordsN vs) (countsN vs)))), cL lv1_2 3 (encN .i64) (((wordsN us).map fun y => (numN (wordsN (allN (wordsN us) (countsN us) ++ allN (wordsN vs) (countsN vs))) y).1)), cL lv2_2 3 (encN .i64) (((wordsN vs).map fun y => (numN (wordsN (allN (wordsN us) (countsN us) ++ allN (wordsN vs) (countsN vs))) y).1)), cL v_2 9 (encTx) (vs ++ us), cObj lg_5 92 [lvw_5, lvc_5, lvo_5], cL lvw_5 9 (encTx) (wordsN (vs ++ us)), cL lvc_5 3 (encN .i64) (countsN (vs ++ us)), cL lvo_5 3 (encN .i64) (ordN (wordsN (vs ++ us))), cL lvn_3 3 (encN .i64) ((vs ++ us).map (lbW (wordsN (vs ++ us)))), cL r_14 5 (encN .u8) (sealN (encA (wordsN (allN (wordsN vs) (countsN vs) ++ allN (wordsN us) (countsN us))) (countsN (allN (wordsN vs) (countsN vs) ++ allN (wordsN us) (countsN us))) (wordsN (allN (wordsN vs) (countsN vs) ++ allN (wordsN us) (countsN us))).length)), cL r_15 5 (encN .u8) (sealN (encA (wordsN (vs ++ us)) (countsN (vs ++ us)) (wordsN (vs ++ us)).length)), cL r_23 5 (encN .u8) (sealN (encA (wordsN (allN (wordsN us) (countsN us) ++ allN (wordsN vs) (countsN vs))) (countsN (allN (wordsN us) (countsN us) ++ allN (wordsN vs) (countsN vs))) (wordsN (allN (wordsN us) (countsN us) ++ allN (wordsN vs) (countsN vs))).length)), cL r_24 5 (encN .u8) (sealN (encA (wordsN (vs ++ us)) (countsN (vs ++ us)) (wordsN (vs ++ us)).length))] _ := hs_36.adds hp_24
                    have hS_13 : Sat w [cObj lg_1 92 [lvw_1, lvc_1, lvo_1], cL lvw_1 9 (encTx) (wordsN vs), cL lvc_1 3 (encN .i64) (countsN vs), cL lvo_1 3 (encN .i64) (ordN (wordsN vs)), cL lvn_1 3 (encN .i64) (vs.map (lbW (wordsN vs))), cObj lg_2 92 [lvw_2, lvc_2, lvo_2], cL lvw_2 9 (encTx) (wordsN us), cL lvc_2 3 (encN .i64) (countsN us), cL lvo_2 3 (encN .i64) (ordN (wordsN us)), cL lvn_2 3 (encN .i64) (us.map (lbW (wordsN us))), cObj lg_3 92 [lvw_3, lvc_3, lvo_3], cL lvw_3 9 (encTx) (wordsN (allN (wordsN vs) (countsN vs) ++ allN (wordsN us) (countsN us))), cL lvc_3 3 (encN .i64) (countsN (allN (wordsN vs) (countsN vs) ++ allN (wordsN us) (countsN us))), cL lvo_3 3 (encN .i64) (ordN (wordsN (allN (wordsN vs) (countsN vs) ++ allN (wordsN us) (countsN us)))), cL lv1_1 3 (encN .i64) ((wordsN vs).map (lbW (wordsN (allN (wordsN vs) (countsN vs) ++ allN (wordsN us) (countsN us))))), cL lv2_1 3 (encN .i64) ((wordsN us).map (lbW (wordsN (allN (wordsN vs) (countsN vs) ++ allN (wordsN us) (countsN us))))), cObj lg_4 92 [lvw_4, lvc_4, lvo_4], cL lvw_4 9 (encTx) (wordsN (allN (wordsN us) (countsN us) ++ allN (wordsN vs) (countsN vs))), cL lvc_4 3 (encN .i64) (countsN (allN (wordsN us) (countsN us) ++ allN (wordsN vs) (countsN vs))), cL lvo_4 3 (encN .i64) (ordN (wordsN (allN (wordsN us) (countsN us) ++ allN (wordsN vs) (countsN vs)))), cL lv1_2 3 (encN .i64) (((wordsN us).map fun y => (numN (wordsN (allN (wordsN us) (countsN us) ++ allN (wordsN vs) (countsN vs))) y).1)), cL lv2_2 3 (encN .i64) (((wordsN vs).map fun y => (numN (wordsN (allN (wordsN us) (countsN us) ++ allN (wordsN vs) (countsN vs))) y).1)), cL v_2 9 (encTx) (vs ++ us), cObj lg_5 92 [lvw_5, lvc_5, lvo_5], cL lvw_5 9 (encTx) (wordsN (vs ++ us)), cL lvc_5 3 (encN .i64) (countsN (vs ++ us)), cL lvo_5 3 (encN .i64) (ordN (wordsN (vs ++ us))), cL lvn_3 3 (encN .i64) ((vs ++ us).map (lbW (wordsN (vs ++ us))))] _ := hs_40.sub ((.cons_cons _ (.cons_cons _ (.cons_cons _ (.cons_cons _ (.cons_cons _ (.cons_cons _ (.cons_cons _ (.cons_cons _ (.cons_cons _ (.cons_cons _ (.cons_cons _ (.cons_cons _ (.cons_cons _ (.cons_cons _ (.cons_cons _ (.cons_cons _ (.cons_cons _ (.cons_cons _ (.cons_cons _ (.cons_cons _ (.cons_cons _ (.cons_cons _ (.cons_cons _ (.cons_cons _ (.cons_cons _ (.cons_cons _ (.cons_cons _ (.cons_cons _ (.cons _ (.cons _ (.cons _ (.cons _ .slnil)))))))))))))))))))))))))))))))))
                    refine ⟨hS_13, ?_⟩
                    refine RP.twoYes rfl rfl rfl rfl (decide_eq_true (by rw [jn_w1, jn_c1])) rfl rfl rfl rfl rfl (decide_eq_true (by rw [jn_w1, jn_c1])) rfl (OpE.ev (Ev.bytesStr Try.underlying40 Try.underlying9 Try.underlying5 rfl (hs_40.rdL 30 rfl)) ⟨hS_13, ?_⟩) (OpE.ev (Ev.bytesStr Try.underlying40 Try.underlying9 Try.underlying5 rfl (hs_40.rdL 31 rfl)) ⟨hS_13, ?_⟩)
                    · refine RP.effYes rfl rfl rfl rfl (decide_eq_true (by rw [jn_w1, jn_c1])) rfl (OpE.ev (Ev.bytesStr Try.underlying40 Try.underlying9 Try.underlying5 rfl (hs_40.rdL 31 rfl)) ⟨hS_13, ?_⟩)
                      refine RP.evYes rfl rfl rfl rfl (decide_eq_true (by rw [jn_w1, jn_c1])) rfl (fun w' hS' => Ev.strEql rfl rfl) hS_13 ?_
                      refine RP.ev rfl rfl rfl (fun w' hS' => Ev.pickY rfl (decide_eq_true (by rw [jn_w1, jn_c1])) rfl) hS_13 ?_
                      refine RP.ev rfl rfl rfl (fun w' hS' => Ev.move rfl) hS_13 ?_
                      refine RP.effYes rfl rfl rfl rfl (decide_eq_true (by rw [jn_w2, jn_c2])) rfl (OpE.call ent33 rfl ((lawake_ok _).mono fun r_27 w_31 h_27 => ?_))
                      obtain ⟨rfl, hp_27⟩ := h_27
                      have hs_41 : Sat w [cObj lg_1 92 [lvw_1, lvc_1, lvo_1], cL lvw_1 9 (encTx) (wordsN vs), cL lvc_1 3 (encN .i64) (countsN vs), cL lvo_1 3 (encN .i64) (ordN (wordsN vs)), cL lvn_1 3 (encN .i64) (vs.map (lbW (wordsN vs))), cObj lg_2 92 [lvw_2, lvc_2, lvo_2], cL lvw_2 9 (encTx) (wordsN us), cL lvc_2 3 (encN .i64) (countsN us), cL lvo_2 3 (encN .i64) (ordN (wordsN us)), cL lvn_2 3 (encN .i64) (us.map (lbW (wordsN us))), cObj lg_3 92 [lvw_3, lvc_3, lvo_3], cL lvw_3 9 (encTx) (wordsN (allN (wordsN vs) (countsN vs) ++ allN (wordsN us) (countsN us))), cL lvc_3 3 (encN .i64) (countsN (allN (wordsN vs) (countsN vs) ++ allN (wordsN us) (countsN us))), cL lvo_3 3 (encN .i64) (ordN (wordsN (allN (wordsN vs) (countsN vs) ++ allN (wordsN us) (countsN us)))), cL lv1_1 3 (encN .i64) ((wordsN vs).map (lbW (wordsN (allN (wordsN vs) (countsN vs) ++ allN (wordsN us) (countsN us))))), cL lv2_1 3 (encN .i64) ((wordsN us).map (lbW (wordsN (allN (wordsN vs) (countsN vs) ++ allN (wordsN us) (countsN us))))), cObj lg_4 92 [lvw_4, lvc_4, lvo_4], cL lvw_4 9 (encTx) (wordsN (allN (wordsN us) (countsN us) ++ allN (wordsN vs) (countsN vs))), cL lvc_4 3 (encN .i64) (countsN (allN (wordsN us) (countsN us) ++ allN (wordsN vs) (countsN vs))), cL lvo_4 3 (encN .i64) (ordN (wordsN (allN (wordsN us) (countsN us) ++ allN (wordsN vs) (countsN vs)))), cL lv1_2 3 (encN .i64) (((wordsN us).map fun y => (numN (wordsN (allN (wordsN us) (countsN us) ++ allN (wordsN vs) (countsN vs))) y).1)), cL lv2_2 3 (encN .i64) (((wordsN vs).map fun y => (numN (wordsN (allN (wordsN us) (countsN us) ++ allN (wordsN vs) (countsN vs))) y).1)), cL v_2 9 (encTx) (vs ++ us), cObj lg_5 92 [lvw_5, lvc_5, lvo_5], cL lvw_5 9 (encTx) (wordsN (vs ++ us)), cL lvc_5 3 (encN .i64) (countsN (vs ++ us)), cL lvo_5 3 (encN .i64) (ordN (wordsN (vs ++ us))), cL lvn_3 3 (encN .i64) ((vs ++ us).map (lbW (wordsN (vs ++ us)))), cL r_14 5 (encN .u8) (sealN (encA (wordsN (allN (wordsN vs) (countsN vs) ++ allN (wordsN us) (countsN us))) (countsN (allN (wordsN vs) (countsN vs) ++ allN (wordsN us) (countsN us))) (wordsN (allN (wordsN vs) (countsN vs) ++ allN (wordsN us) (countsN us))).length)), cL r_15 5 (encN .u8) (sealN (encA (wordsN (vs ++ us)) (countsN (vs ++ us)) (wordsN (vs ++ us)).length)), cL r_23 5 (encN .u8) (sealN (encA (wordsN (allN (wordsN us) (countsN us) ++ allN (wordsN vs) (countsN vs))) (countsN (allN (wordsN us) (countsN us) ++ allN (wordsN vs) (countsN vs))) (wordsN (allN (wordsN us) (countsN us) ++ allN (wordsN vs) (countsN vs))).length)), cL r_24 5 (encN .u8) (sealN (encA (wordsN (vs ++ us)) (countsN (vs ++ us)) (wordsN (vs ++ us)).length))] _ := hs_40.adds hp_27
                      have hS_14 : Sat w [cObj lg_1 92 [lvw_1, lvc_1, lvo_1], cL lvw_1 9 (encTx) (wordsN vs), cL lvc_1 3 (encN .i64) (countsN vs), cL lvo_1 3 (encN .i64) (ordN (wordsN vs)), cL lvn_1 3 (encN .i64) (vs.map (lbW (wordsN vs))), cObj lg_2 92 [lvw_2, lvc_2, lvo_2], cL lvw_2 9 (encTx) (wordsN us), cL lvc_2 3 (encN .i64) (countsN us), cL lvo_2 3 (encN .i64) (ordN (wordsN us)), cL lvn_2 3 (encN .i64) (us.map (lbW (wordsN us))), cObj lg_3 92 [lvw_3, lvc_3, lvo_3], cL lvw_3 9 (encTx) (wordsN (allN (wordsN vs) (countsN vs) ++ allN (wordsN us) (countsN us))), cL lvc_3 3 (encN .i64) (countsN (allN (wordsN vs) (countsN vs) ++ allN (wordsN us) (countsN us))), cL lvo_3 3 (encN .i64) (ordN (wordsN (allN (wordsN vs) (countsN vs) ++ allN (wordsN us) (countsN us)))), cL lv1_1 3 (encN .i64) ((wordsN vs).map (lbW (wordsN (allN (wordsN vs) (countsN vs) ++ allN (wordsN us) (countsN us))))), cL lv2_1 3 (encN .i64) ((wordsN us).map (lbW (wordsN (allN (wordsN vs) (countsN vs) ++ allN (wordsN us) (countsN us))))), cObj lg_4 92 [lvw_4, lvc_4, lvo_4], cL lvw_4 9 (encTx) (wordsN (allN (wordsN us) (countsN us) ++ allN (wordsN vs) (countsN vs))), cL lvc_4 3 (encN .i64) (countsN (allN (wordsN us) (countsN us) ++ allN (wordsN vs) (countsN vs))), cL lvo_4 3 (encN .i64) (ordN (wordsN (allN (wordsN us) (countsN us) ++ allN (wordsN vs) (countsN vs)))), cL lv1_2 3 (encN .i64) (((wordsN us).map fun y => (numN (wordsN (allN (wordsN us) (countsN us) ++ allN (wordsN vs) (countsN vs))) y).1)), cL lv2_2 3 (encN .i64) (((wordsN vs).map fun y => (numN (wordsN (allN (wordsN us) (countsN us) ++ allN (wordsN vs) (countsN vs))) y).1)), cL v_2 9 (encTx) (vs ++ us), cObj lg_5 92 [lvw_5, lvc_5, lvo_5], cL lvw_5 9 (encTx) (wordsN (vs ++ us)), cL lvc_5 3 (encN .i64) (countsN (vs ++ us)), cL lvo_5 3 (encN .i64) (ordN (wordsN (vs ++ us))), cL lvn_3 3 (encN .i64) ((vs ++ us).map (lbW (wordsN (vs ++ us))))] _ := hs_41.sub ((.cons_cons _ (.cons_cons _ (.cons_cons _ (.cons_cons _ (.cons_cons _ (.cons_cons _ (.cons_cons _ (.cons_cons _ (.cons_cons _ (.cons_cons _ (.cons_cons _ (.cons_cons _ (.cons_cons _ (.cons_cons _ (.cons_cons _ (.cons_cons _ (.cons_cons _ (.cons_cons _ (.cons_cons _ (.cons_cons _ (.cons_cons _ (.cons_cons _ (.cons_cons _ (.cons_cons _ (.cons_cons _ (.cons_cons _ (.cons_cons _ (.cons_cons _ (.cons _ (.cons _ (.cons _ (.cons _ .slnil)))))))))))))))))))))))))))))))))
                      refine ⟨hS_14, ?_⟩
                      refine RP.ev rfl rfl rfl (fun w' hS' => Ev.pickY rfl (decide_eq_true (by rw [jn_w2, jn_c2])) rfl) hS_14 ?_
                      refine RP.ev rfl rfl rfl (fun w' hS' => Ev.assign rfl) hS_14 ?_
                      refine RP.fin ?_
                      refine CW.ret ?_
                      show PostK _ _ _ _ _ _
                      refine post1 rfl rfl ?_
                      have hs_42 : Sat w [] w_31 := hs_41.sub ((.cons _ (.cons _ (.cons _ (.cons _ (.cons _ (.cons _ (.cons _ (.cons _ (.cons _ (.cons _ (.cons _ (.cons _ (.cons _ (.cons _ (.cons _ (.cons _ (.cons _ (.cons _ (.cons _ (.cons _ (.cons _ (.cons _ (.cons _ (.cons _ (.cons _ (.cons _ (.cons _ (.cons _ (.cons _ (.cons _ (.cons _ (.cons _ .slnil)))))))))))))))))))))))))))))))))
                      exact ⟨rfl, hs_42⟩
                    · refine RP.effYes rfl rfl rfl rfl (decide_eq_true (by rw [jn_w1, jn_c1])) rfl (OpE.ev (Ev.bytesStr Try.underlying40 Try.underlying9 Try.underlying5 rfl (hs_40.rdL 30 rfl)) ⟨hS_13, ?_⟩)
                      refine RP.evYes rfl rfl rfl rfl (decide_eq_true (by rw [jn_w1, jn_c1])) rfl (fun w' hS' => Ev.strEql rfl rfl) hS_13 ?_
                      refine RP.ev rfl rfl rfl (fun w' hS' => Ev.pickY rfl (decide_eq_true (by rw [jn_w1, jn_c1])) rfl) hS_13 ?_
                      refine RP.ev rfl rfl rfl (fun w' hS' => Ev.move rfl) hS_13 ?_
                      refine RP.effYes rfl rfl rfl rfl (decide_eq_true (by rw [jn_w2, jn_c2])) rfl (OpE.call ent33 rfl ((lawake_ok _).mono fun r_28 w_32 h_28 => ?_))
                      obtain ⟨rfl, hp_28⟩ := h_28
                      have hs_43 : Sat w [cObj lg_1 92 [lvw_1, lvc_1, lvo_1], cL lvw_1 9 (encTx) (wordsN vs), cL lvc_1 3 (encN .i64) (countsN vs), cL lvo_1 3 (encN .i64) (ordN (wordsN vs)), cL lvn_1 3 (encN .i64) (vs.map (lbW (wordsN vs))), cObj lg_2 92 [lvw_2, lvc_2, lvo_2], cL lvw_2 9 (encTx) (wordsN us), cL lvc_2 3 (encN .i64) (countsN us), cL lvo_2 3 (encN .i64) (ordN (wordsN us)), cL lvn_2 3 (encN .i64) (us.map (lbW (wordsN us))), cObj lg_3 92 [lvw_3, lvc_3, lvo_3], cL lvw_3 9 (encTx) (wordsN (allN (wordsN vs) (countsN vs) ++ allN (wordsN us) (countsN us))), cL lvc_3 3 (encN .i64) (countsN (allN (wordsN vs) (countsN vs) ++ allN (wordsN us) (countsN us))), cL lvo_3 3 (encN .i64) (ordN (wordsN (allN (wordsN vs) (countsN vs) ++ allN (wordsN us) (countsN us)))), cL lv1_1 3 (encN .i64) ((wordsN vs).map (lbW (wordsN (allN (wordsN vs) (countsN vs) ++ allN (wordsN us) (countsN us))))), cL lv2_1 3 (encN .i64) ((wordsN us).map (lbW (wordsN (allN (wordsN vs) (countsN vs) ++ allN (wordsN us) (countsN us))))), cObj lg_4 92 [lvw_4, lvc_4, lvo_4], cL lvw_4 9 (encTx) (wordsN (allN (wordsN us) (countsN us) ++ allN (wordsN vs) (countsN vs))), cL lvc_4 3 (encN .i64) (countsN (allN (wordsN us) (countsN us) ++ allN (wordsN vs) (countsN vs))), cL lvo_4 3 (encN .i64) (ordN (wordsN (allN (wordsN us) (countsN us) ++ allN (wordsN vs) (countsN vs)))), cL lv1_2 3 (encN .i64) (((wordsN us).map fun y => (numN (wordsN (allN (wordsN us) (countsN us) ++ allN (wordsN vs) (countsN vs))) y).1)), cL lv2_2 3 (encN .i64) (((wordsN vs).map fun y => (numN (wordsN (allN (wordsN us) (countsN us) ++ allN (wordsN vs) (countsN vs))) y).1)), cL v_2 9 (encTx) (vs ++ us), cObj lg_5 92 [lvw_5, lvc_5, lvo_5], cL lvw_5 9 (encTx) (wordsN (vs ++ us)), cL lvc_5 3 (encN .i64) (countsN (vs ++ us)), cL lvo_5 3 (encN .i64) (ordN (wordsN (vs ++ us))), cL lvn_3 3 (encN .i64) ((vs ++ us).map (lbW (wordsN (vs ++ us)))), cL r_14 5 (encN .u8) (sealN (encA (wordsN (allN (wordsN vs) (countsN vs) ++ allN (wordsN us) (countsN us))) (countsN (allN (wordsN vs) (countsN vs) ++ allN (wordsN us) (countsN us))) (wordsN (allN (wordsN vs) (countsN vs) ++ allN (wordsN us) (countsN us))).length)), cL r_15 5 (encN .u8) (sealN (encA (wordsN (vs ++ us)) (countsN (vs ++ us)) (wordsN (vs ++ us)).length)), cL r_23 5 (encN .u8) (sealN (encA (wordsN (allN (wordsN us) (countsN us) ++ allN (wordsN vs) (countsN vs))) (countsN (allN (wordsN us) (countsN us) ++ allN (wordsN vs) (countsN vs))) (wordsN (allN (wordsN us) (countsN us) ++ allN (wordsN vs) (countsN vs))).length)), cL r_24 5 (encN .u8) (sealN (encA (wordsN (vs ++ us)) (countsN (vs ++ us)) (wordsN (vs ++ us)).length))] _ := hs_40.adds hp_28
                      have hS_15 : Sat w [cObj lg_1 92 [lvw_1, lvc_1, lvo_1], cL lvw_1 9 (encTx) (wordsN vs), cL lvc_1 3 (encN .i64) (countsN vs), cL lvo_1 3 (encN .i64) (ordN (wordsN vs)), cL lvn_1 3 (encN .i64) (vs.map (lbW (wordsN vs))), cObj lg_2 92 [lvw_2, lvc_2, lvo_2], cL lvw_2 9 (encTx) (wordsN us), cL lvc_2 3 (encN .i64) (countsN us), cL lvo_2 3 (encN .i64) (ordN (wordsN us)), cL lvn_2 3 (encN .i64) (us.map (lbW (wordsN us))), cObj lg_3 92 [lvw_3, lvc_3, lvo_3], cL lvw_3 9 (encTx) (wordsN (allN (wordsN vs) (countsN vs) ++ allN (wordsN us) (countsN us))), cL lvc_3 3 (encN .i64) (countsN (allN (wordsN vs) (countsN vs) ++ allN (wordsN us) (countsN us))), cL lvo_3 3 (encN .i64) (ordN (wordsN (allN (wordsN vs) (countsN vs) ++ allN (wordsN us) (countsN us)))), cL lv1_1 3 (encN .i64) ((wordsN vs).map (lbW (wordsN (allN (wordsN vs) (countsN vs) ++ allN (wordsN us) (countsN us))))), cL lv2_1 3 (encN .i64) ((wordsN us).map (lbW (wordsN (allN (wordsN vs) (countsN vs) ++ allN (wordsN us) (countsN us))))), cObj lg_4 92 [lvw_4, lvc_4, lvo_4], cL lvw_4 9 (encTx) (wordsN (allN (wordsN us) (countsN us) ++ allN (wordsN vs) (countsN vs))), cL lvc_4 3 (encN .i64) (countsN (allN (wordsN us) (countsN us) ++ allN (wordsN vs) (countsN vs))), cL lvo_4 3 (encN .i64) (ordN (wordsN (allN (wordsN us) (countsN us) ++ allN (wordsN vs) (countsN vs)))), cL lv1_2 3 (encN .i64) (((wordsN us).map fun y => (numN (wordsN (allN (wordsN us) (countsN us) ++ allN (wordsN vs) (countsN vs))) y).1)), cL lv2_2 3 (encN .i64) (((wordsN vs).map fun y => (numN (wordsN (allN (wordsN us) (countsN us) ++ allN (wordsN vs) (countsN vs))) y).1)), cL v_2 9 (encTx) (vs ++ us), cObj lg_5 92 [lvw_5, lvc_5, lvo_5], cL lvw_5 9 (encTx) (wordsN (vs ++ us)), cL lvc_5 3 (encN .i64) (countsN (vs ++ us)), cL lvo_5 3 (encN .i64) (ordN (wordsN (vs ++ us))), cL lvn_3 3 (encN .i64) ((vs ++ us).map (lbW (wordsN (vs ++ us))))] _ := hs_43.sub ((.cons_cons _ (.cons_cons _ (.cons_cons _ (.cons_cons _ (.cons_cons _ (.cons_cons _ (.cons_cons _ (.cons_cons _ (.cons_cons _ (.cons_cons _ (.cons_cons _ (.cons_cons _ (.cons_cons _ (.cons_cons _ (.cons_cons _ (.cons_cons _ (.cons_cons _ (.cons_cons _ (.cons_cons _ (.cons_cons _ (.cons_cons _ (.cons_cons _ (.cons_cons _ (.cons_cons _ (.cons_cons _ (.cons_cons _ (.cons_cons _ (.cons_cons _ (.cons _ (.cons _ (.cons _ (.cons _ .slnil)))))))))))))))))))))))))))))))))
                      refine ⟨hS_15, ?_⟩
                      refine RP.ev rfl rfl rfl (fun w' hS' => Ev.pickY rfl (decide_eq_true (by rw [jn_w2, jn_c2])) rfl) hS_15 ?_
                      refine RP.ev rfl rfl rfl (fun w' hS' => Ev.assign rfl) hS_15 ?_
                      refine RP.fin ?_
                      refine CW.ret ?_
                      show PostK _ _ _ _ _ _
                      refine post1 rfl rfl ?_
                      have hs_44 : Sat w [] w_32 := hs_43.sub ((.cons _ (.cons _ (.cons _ (.cons _ (.cons _ (.cons _ (.cons _ (.cons _ (.cons _ (.cons _ (.cons _ (.cons _ (.cons _ (.cons _ (.cons _ (.cons _ (.cons _ (.cons _ (.cons _ (.cons _ (.cons _ (.cons _ (.cons _ (.cons _ (.cons _ (.cons _ (.cons _ (.cons _ (.cons _ (.cons _ (.cons _ (.cons _ .slnil)))))))))))))))))))))))))))))))))
                      exact ⟨rfl, hs_44⟩
                · refine RP.eff rfl rfl rfl (OpE.ev (Ev.bytesStr Try.underlying40 Try.underlying9 Try.underlying5 rfl (hs_35.rdL 28 rfl)) ⟨hS_9, ?_⟩)
                  refine RP.ev rfl rfl rfl (fun w' hS' => Ev.strEql rfl rfl) hS_9 ?_
                  refine RP.ev rfl rfl rfl (fun w' hS' => Ev.move rfl) hS_9 ?_
                  refine RP.evYes rfl rfl rfl rfl (decide_eq_true (by rw [jn_w1, jn_c1])) rfl (fun w' hS' => Ev.move rfl) hS_9 ?_
                  refine RP.evYes rfl rfl rfl rfl (decide_eq_true (by rw [jn_w1, jn_c1])) rfl (fun w' hS' => Ev.move rfl) hS_9 ?_
                  refine RP.effYes rfl rfl rfl rfl (decide_eq_true (by rw [jn_w1, jn_c1])) rfl (OpE.call ent50 rfl ((lexEnc_ok _ _ _ _ _ _ _ _ (hs_35.lexAt 16 17 18 19 rfl rfl rfl rfl) (countsN_length _) (bld_120 heR) (bld_c1 heR) (bld_w heR)).mono fun r_29 w_33 h_29 => ?_))
                  have hp_29 := h_29
                  have hs_45 : Sat w [cObj lg_1 92 [lvw_1, lvc_1, lvo_1], cL lvw_1 9 (encTx) (wordsN vs), cL lvc_1 3 (encN .i64) (countsN vs), cL lvo_1 3 (encN .i64) (ordN (wordsN vs)), cL lvn_1 3 (encN .i64) (vs.map (lbW (wordsN vs))), cObj lg_2 92 [lvw_2, lvc_2, lvo_2], cL lvw_2 9 (encTx) (wordsN us), cL lvc_2 3 (encN .i64) (countsN us), cL lvo_2 3 (encN .i64) (ordN (wordsN us)), cL lvn_2 3 (encN .i64) (us.map (lbW (wordsN us))), cObj lg_3 92 [lvw_3, lvc_3, lvo_3], cL lvw_3 9 (encTx) (wordsN (allN (wordsN vs) (countsN vs) ++ allN (wordsN us) (countsN us))), cL lvc_3 3 (encN .i64) (countsN (allN (wordsN vs) (countsN vs) ++ allN (wordsN us) (countsN us))), cL lvo_3 3 (encN .i64) (ordN (wordsN (allN (wordsN vs) (countsN vs) ++ allN (wordsN us) (countsN us)))), cL lv1_1 3 (encN .i64) ((wordsN vs).map (lbW (wordsN (allN (wordsN vs) (countsN vs) ++ allN (wordsN us) (countsN us))))), cL lv2_1 3 (encN .i64) ((wordsN us).map (lbW (wordsN (allN (wordsN vs) (countsN vs) ++ allN (wordsN us) (countsN us))))), cObj lg_4 92 [lvw_4, lvc_4, lvo_4], cL lvw_4 9 (encTx) (wordsN (allN (wordsN us) (countsN us) ++ allN (wordsN vs) (countsN vs))), cL lvc_4 3 (encN .i64) (countsN (allN (wordsN us) (countsN us) ++ allN (wordsN vs) (countsN vs))), cL lvo_4 3 (encN .i64) (ordN (wordsN (allN (wordsN us) (countsN us) ++ allN (wordsN vs) (countsN vs)))), cL lv1_2 3 (encN .i64) (((wordsN us).map fun y => (numN (wordsN (allN (wordsN us) (countsN us) ++ allN (wordsN vs) (countsN vs))) y).1)), cL lv2_2 3 (encN .i64) (((wordsN vs).map fun y => (numN (wordsN (allN (wordsN us) (countsN us) ++ allN (wordsN vs) (countsN vs))) y).1)), cL v_2 9 (encTx) (vs ++ us), cObj lg_5 92 [lvw_5, lvc_5, lvo_5], cL lvw_5 9 (encTx) (wordsN (vs ++ us)), cL lvc_5 3 (encN .i64) (countsN (vs ++ us)), cL lvo_5 3 (encN .i64) (ordN (wordsN (vs ++ us))), cL lvn_3 3 (encN .i64) ((vs ++ us).map (lbW (wordsN (vs ++ us)))), cL r_14 5 (encN .u8) (sealN (encA (wordsN (allN (wordsN vs) (countsN vs) ++ allN (wordsN us) (countsN us))) (countsN (allN (wordsN vs) (countsN vs) ++ allN (wordsN us) (countsN us))) (wordsN (allN (wordsN vs) (countsN vs) ++ allN (wordsN us) (countsN us))).length)), cL r_15 5 (encN .u8) (sealN (encA (wordsN (vs ++ us)) (countsN (vs ++ us)) (wordsN (vs ++ us)).length)), cL r_29 5 (encN .u8) (sealN (encA (wordsN (allN (wordsN us) (countsN us) ++ allN (wordsN vs) (countsN vs))) (countsN (allN (wordsN us) (countsN us) ++ allN (wordsN vs) (countsN vs))) (wordsN (allN (wordsN us) (countsN us) ++ allN (wordsN vs) (countsN vs))).length))] _ := hs_35.adds hp_29
                  have hS_16 : Sat w [cObj lg_1 92 [lvw_1, lvc_1, lvo_1], cL lvw_1 9 (encTx) (wordsN vs), cL lvc_1 3 (encN .i64) (countsN vs), cL lvo_1 3 (encN .i64) (ordN (wordsN vs)), cL lvn_1 3 (encN .i64) (vs.map (lbW (wordsN vs))), cObj lg_2 92 [lvw_2, lvc_2, lvo_2], cL lvw_2 9 (encTx) (wordsN us), cL lvc_2 3 (encN .i64) (countsN us), cL lvo_2 3 (encN .i64) (ordN (wordsN us)), cL lvn_2 3 (encN .i64) (us.map (lbW (wordsN us))), cObj lg_3 92 [lvw_3, lvc_3, lvo_3], cL lvw_3 9 (encTx) (wordsN (allN (wordsN vs) (countsN vs) ++ allN (wordsN us) (countsN us))), cL lvc_3 3 (encN .i64) (countsN (allN (wordsN vs) (countsN vs) ++ allN (wordsN us) (countsN us))), cL lvo_3 3 (encN .i64) (ordN (wordsN (allN (wordsN vs) (countsN vs) ++ allN (wordsN us) (countsN us)))), cL lv1_1 3 (encN .i64) ((wordsN vs).map (lbW (wordsN (allN (wordsN vs) (countsN vs) ++ allN (wordsN us) (countsN us))))), cL lv2_1 3 (encN .i64) ((wordsN us).map (lbW (wordsN (allN (wordsN vs) (countsN vs) ++ allN (wordsN us) (countsN us))))), cObj lg_4 92 [lvw_4, lvc_4, lvo_4], cL lvw_4 9 (encTx) (wordsN (allN (wordsN us) (countsN us) ++ allN (wordsN vs) (countsN vs))), cL lvc_4 3 (encN .i64) (countsN (allN (wordsN us) (countsN us) ++ allN (wordsN vs) (countsN vs))), cL lvo_4 3 (encN .i64) (ordN (wordsN (allN (wordsN us) (countsN us) ++ allN (wordsN vs) (countsN vs)))), cL lv1_2 3 (encN .i64) (((wordsN us).map fun y => (numN (wordsN (allN (wordsN us) (countsN us) ++ allN (wordsN vs) (countsN vs))) y).1)), cL lv2_2 3 (encN .i64) (((wordsN vs).map fun y => (numN (wordsN (allN (wordsN us) (countsN us) ++ allN (wordsN vs) (countsN vs))) y).1)), cL v_2 9 (encTx) (vs ++ us), cObj lg_5 92 [lvw_5, lvc_5, lvo_5], cL lvw_5 9 (encTx) (wordsN (vs ++ us)), cL lvc_5 3 (encN .i64) (countsN (vs ++ us)), cL lvo_5 3 (encN .i64) (ordN (wordsN (vs ++ us))), cL lvn_3 3 (encN .i64) ((vs ++ us).map (lbW (wordsN (vs ++ us))))] _ := hs_45.sub ((.cons_cons _ (.cons_cons _ (.cons_cons _ (.cons_cons _ (.cons_cons _ (.cons_cons _ (.cons_cons _ (.cons_cons _ (.cons_cons _ (.cons_cons _ (.cons_cons _ (.cons_cons _ (.cons_cons _ (.cons_cons _ (.cons_cons _ (.cons_cons _ (.cons_cons _ (.cons_cons _ (.cons_cons _ (.cons_cons _ (.cons_cons _ (.cons_cons _ (.cons_cons _ (.cons_cons _ (.cons_cons _ (.cons_cons _ (.cons_cons _ (.cons_cons _ (.cons _ (.cons _ (.cons _ .slnil))))))))))))))))))))))))))))))))
                  refine ⟨hS_16, ?_⟩
                  refine RP.twoYes rfl rfl rfl rfl (decide_eq_true (by rw [jn_w1, jn_c1])) rfl rfl rfl rfl rfl (decide_eq_true (by rw [jn_w1, jn_c1])) rfl (OpE.ev (Ev.bytesStr Try.underlying40 Try.underlying9 Try.underlying5 rfl (hs_45.rdL 30 rfl)) ⟨hS_16, ?_⟩) (OpE.call ent50 rfl ((lexEnc_ok _ _ _ _ _ _ _ _ (hs_45.lexAt 23 24 25 26 rfl rfl rfl rfl) (countsN_length _) (bld_120 heJ) (bld_c1 heJ) (bld_w heJ)).mono fun r_30 w_34 h_30 => ?_))
                  · refine RP.effYes rfl rfl rfl rfl (decide_eq_true (by rw [jn_w1, jn_c1])) rfl (OpE.call ent50 rfl ((lexEnc_ok _ _ _ _ _ _ _ _ (hs_45.lexAt 23 24 25 26 rfl rfl rfl rfl) (countsN_length _) (bld_120 heJ) (bld_c1 heJ) (bld_w heJ)).mono fun r_31 w_35 h_31 => ?_))
                    have hp_31 := h_31
                    have hs_46 : Sat w [cObj lg_1 92 [lvw_1, lvc_1, lvo_1], cL lvw_1 9 (encTx) (wordsN vs), cL lvc_1 3 (encN .i64) (countsN vs), cL lvo_1 3 (encN .i64) (ordN (wordsN vs)), cL lvn_1 3 (encN .i64) (vs.map (lbW (wordsN vs))), cObj lg_2 92 [lvw_2, lvc_2, lvo_2], cL lvw_2 9 (encTx) (wordsN us), cL lvc_2 3 (encN .i64) (countsN us), cL lvo_2 3 (encN .i64) (ordN (wordsN us)), cL lvn_2 3 (encN .i64) (us.map (lbW (wordsN us))), cObj lg_3 92 [lvw_3, lvc_3, lvo_3], cL lvw_3 9 (encTx) (wordsN (allN (wordsN vs) (countsN vs) ++ allN (wordsN us) (countsN us))), cL lvc_3 3 (encN .i64) (countsN (allN (wordsN vs) (countsN vs) ++ allN (wordsN us) (countsN us))), cL lvo_3 3 (encN .i64) (ordN (wordsN (allN (wordsN vs) (countsN vs) ++ allN (wordsN us) (countsN us)))), cL lv1_1 3 (encN .i64) ((wordsN vs).map (lbW (wordsN (allN (wordsN vs) (countsN vs) ++ allN (wordsN us) (countsN us))))), cL lv2_1 3 (encN .i64) ((wordsN us).map (lbW (wordsN (allN (wordsN vs) (countsN vs) ++ allN (wordsN us) (countsN us))))), cObj lg_4 92 [lvw_4, lvc_4, lvo_4], cL lvw_4 9 (encTx) (wordsN (allN (wordsN us) (countsN us) ++ allN (wordsN vs) (countsN vs))), cL lvc_4 3 (encN .i64) (countsN (allN (wordsN us) (countsN us) ++ allN (wordsN vs) (countsN vs))), cL lvo_4 3 (encN .i64) (ordN (wordsN (allN (wordsN us) (countsN us) ++ allN (wordsN vs) (countsN vs)))), cL lv1_2 3 (encN .i64) (((wordsN us).map fun y => (numN (wordsN (allN (wordsN us) (countsN us) ++ allN (wordsN vs) (countsN vs))) y).1)), cL lv2_2 3 (encN .i64) (((wordsN vs).map fun y => (numN (wordsN (allN (wordsN us) (countsN us) ++ allN (wordsN vs) (countsN vs))) y).1)), cL v_2 9 (encTx) (vs ++ us), cObj lg_5 92 [lvw_5, lvc_5, lvo_5], cL lvw_5 9 (encTx) (wordsN (vs ++ us)), cL lvc_5 3 (encN .i64) (countsN (vs ++ us)), cL lvo_5 3 (encN .i64) (ordN (wordsN (vs ++ us))), cL lvn_3 3 (encN .i64) ((vs ++ us).map (lbW (wordsN (vs ++ us)))), cL r_14 5 (encN .u8) (sealN (encA (wordsN (allN (wordsN vs) (countsN vs) ++ allN (wordsN us) (countsN us))) (countsN (allN (wordsN vs) (countsN vs) ++ allN (wordsN us) (countsN us))) (wordsN (allN (wordsN vs) (countsN vs) ++ allN (wordsN us) (countsN us))).length)), cL r_15 5 (encN .u8) (sealN (encA (wordsN (vs ++ us)) (countsN (vs ++ us)) (wordsN (vs ++ us)).length)), cL r_29 5 (encN .u8) (sealN (encA (wordsN (allN (wordsN us) (countsN us) ++ allN (wordsN vs) (countsN vs))) (countsN (allN (wordsN us) (countsN us) ++ allN (wordsN vs) (countsN vs))) (wordsN (allN (wordsN us) (countsN us) ++ allN (wordsN vs) (countsN vs))).length)), cL r_31 5 (encN .u8) (sealN (encA (wordsN (vs ++ us)) (countsN (vs ++ us)) (wordsN (vs ++ us)).length))] _ := hs_45.adds hp_31
                    have hS_17 : Sat w [cObj lg_1 92 [lvw_1, lvc_1, lvo_1], cL lvw_1 9 (encTx) (wordsN vs), cL lvc_1 3 (encN .i64) (countsN vs), cL lvo_1 3 (encN .i64) (ordN (wordsN vs)), cL lvn_1 3 (encN .i64) (vs.map (lbW (wordsN vs))), cObj lg_2 92 [lvw_2, lvc_2, lvo_2], cL lvw_2 9 (encTx) (wordsN us), cL lvc_2 3 (encN .i64) (countsN us), cL lvo_2 3 (encN .i64) (ordN (wordsN us)), cL lvn_2 3 (encN .i64) (us.map (lbW (wordsN us))), cObj lg_3 92 [lvw_3, lvc_3, lvo_3], cL lvw_3 9 (encTx) (wordsN (allN (wordsN vs) (countsN vs) ++ allN (wordsN us) (countsN us))), cL lvc_3 3 (encN .i64) (countsN (allN (wordsN vs) (countsN vs) ++ allN (wordsN us) (countsN us))), cL lvo_3 3 (encN .i64) (ordN (wordsN (allN (wordsN vs) (countsN vs) ++ allN (wordsN us) (countsN us)))), cL lv1_1 3 (encN .i64) ((wordsN vs).map (lbW (wordsN (allN (wordsN vs) (countsN vs) ++ allN (wordsN us) (countsN us))))), cL lv2_1 3 (encN .i64) ((wordsN us).map (lbW (wordsN (allN (wordsN vs) (countsN vs) ++ allN (wordsN us) (countsN us))))), cObj lg_4 92 [lvw_4, lvc_4, lvo_4], cL lvw_4 9 (encTx) (wordsN (allN (wordsN us) (countsN us) ++ allN (wordsN vs) (countsN vs))), cL lvc_4 3 (encN .i64) (countsN (allN (wordsN us) (countsN us) ++ allN (wordsN vs) (countsN vs))), cL lvo_4 3 (encN .i64) (ordN (wordsN (allN (wordsN us) (countsN us) ++ allN (wordsN vs) (countsN vs)))), cL lv1_2 3 (encN .i64) (((wordsN us).map fun y => (numN (wordsN (allN (wordsN us) (countsN us) ++ allN (wordsN vs) (countsN vs))) y).1)), cL lv2_2 3 (encN .i64) (((wordsN vs).map fun y => (numN (wordsN (allN (wordsN us) (countsN us) ++ allN (wordsN vs) (countsN vs))) y).1)), cL v_2 9 (encTx) (vs ++ us), cObj lg_5 92 [lvw_5, lvc_5, lvo_5], cL lvw_5 9 (encTx) (wordsN (vs ++ us)), cL lvc_5 3 (encN .i64) (countsN (vs ++ us)), cL lvo_5 3 (encN .i64) (ordN (wordsN (vs ++ us))), cL lvn_3 3 (encN .i64) ((vs ++ us).map (lbW (wordsN (vs ++ us))))] _ := hs_46.sub ((.cons_cons _ (.cons_cons _ (.cons_cons _ (.cons_cons _ (.cons_cons _ (.cons_cons _ (.cons_cons _ (.cons_cons _ (.cons_cons _ (.cons_cons _ (.cons_cons _ (.cons_cons _ (.cons_cons _ (.cons_cons _ (.cons_cons _ (.cons_cons _ (.cons_cons _ (.cons_cons _ (.cons_cons _ (.cons_cons _ (.cons_cons _ (.cons_cons _ (.cons_cons _ (.cons_cons _ (.cons_cons _ (.cons_cons _ (.cons_cons _ (.cons_cons _ (.cons _ (.cons _ (.cons _ (.cons _ .slnil)))))))))))))))))))))))))))))))))
                    refine ⟨hS_17, ?_⟩
                    refine RP.effYes rfl rfl rfl rfl (decide_eq_true (by rw [jn_w1, jn_c1])) rfl (OpE.ev (Ev.bytesStr Try.underlying40 Try.underlying9 Try.underlying5 rfl (hs_46.rdL 31 rfl)) ⟨hS_17, ?_⟩)
                    refine RP.evYes rfl rfl rfl rfl (decide_eq_true (by rw [jn_w1, jn_c1])) rfl (fun w' hS' => Ev.strEql rfl rfl) hS_17 ?_
                    refine RP.ev rfl rfl rfl (fun w' hS' => Ev.pickY rfl (decide_eq_true (by rw [jn_w1, jn_c1])) rfl) hS_17 ?_
                    refine RP.ev rfl rfl rfl (fun w' hS' => Ev.move rfl) hS_17 ?_
                    refine RP.effYes rfl rfl rfl rfl (decide_eq_true (by rw [jn_w2, jn_c2])) rfl (OpE.call ent33 rfl ((lawake_ok _).mono fun r_32 w_36 h_32 => ?_))
                    obtain ⟨rfl, hp_32⟩ := h_32
                    have hs_47 : Sat w [cObj lg_1 92 [lvw_1, lvc_1, lvo_1], cL lvw_1 9 (encTx) (wordsN vs), cL lvc_1 3 (encN .i64) (countsN vs), cL lvo_1 3 (encN .i64) (ordN (wordsN vs)), cL lvn_1 3 (encN .i64) (vs.map (lbW (wordsN vs))), cObj lg_2 92 [lvw_2, lvc_2, lvo_2], cL lvw_2 9 (encTx) (wordsN us), cL lvc_2 3 (encN .i64) (countsN us), cL lvo_2 3 (encN .i64) (ordN (wordsN us)), cL lvn_2 3 (encN .i64) (us.map (lbW (wordsN us))), cObj lg_3 92 [lvw_3, lvc_3, lvo_3], cL lvw_3 9 (encTx) (wordsN (allN (wordsN vs) (countsN vs) ++ allN (wordsN us) (countsN us))), cL lvc_3 3 (encN .i64) (countsN (allN (wordsN vs) (countsN vs) ++ allN (wordsN us) (countsN us))), cL lvo_3 3 (encN .i64) (ordN (wordsN (allN (wordsN vs) (countsN vs) ++ allN (wordsN us) (countsN us)))), cL lv1_1 3 (encN .i64) ((wordsN vs).map (lbW (wordsN (allN (wordsN vs) (countsN vs) ++ allN (wordsN us) (countsN us))))), cL lv2_1 3 (encN .i64) ((wordsN us).map (lbW (wordsN (allN (wordsN vs) (countsN vs) ++ allN (wordsN us) (countsN us))))), cObj lg_4 92 [lvw_4, lvc_4, lvo_4], cL lvw_4 9 (encTx) (wordsN (allN (wordsN us) (countsN us) ++ allN (wordsN vs) (countsN vs))), cL lvc_4 3 (encN .i64) (countsN (allN (wordsN us) (countsN us) ++ allN (wordsN vs) (countsN vs))), cL lvo_4 3 (encN .i64) (ordN (wordsN (allN (wordsN us) (countsN us) ++ allN (wordsN vs) (countsN vs)))), cL lv1_2 3 (encN .i64) (((wordsN us).map fun y => (numN (wordsN (allN (wordsN us) (countsN us) ++ allN (wordsN vs) (countsN vs))) y).1)), cL lv2_2 3 (encN .i64) (((wordsN vs).map fun y => (numN (wordsN (allN (wordsN us) (countsN us) ++ allN (wordsN vs) (countsN vs))) y).1)), cL v_2 9 (encTx) (vs ++ us), cObj lg_5 92 [lvw_5, lvc_5, lvo_5], cL lvw_5 9 (encTx) (wordsN (vs ++ us)), cL lvc_5 3 (encN .i64) (countsN (vs ++ us)), cL lvo_5 3 (encN .i64) (ordN (wordsN (vs ++ us))), cL lvn_3 3 (encN .i64) ((vs ++ us).map (lbW (wordsN (vs ++ us)))), cL r_14 5 (encN .u8) (sealN (encA (wordsN (allN (wordsN vs) (countsN vs) ++ allN (wordsN us) (countsN us))) (countsN (allN (wordsN vs) (countsN vs) ++ allN (wordsN us) (countsN us))) (wordsN (allN (wordsN vs) (countsN vs) ++ allN (wordsN us) (countsN us))).length)), cL r_15 5 (encN .u8) (sealN (encA (wordsN (vs ++ us)) (countsN (vs ++ us)) (wordsN (vs ++ us)).length)), cL r_29 5 (encN .u8) (sealN (encA (wordsN (allN (wordsN us) (countsN us) ++ allN (wordsN vs) (countsN vs))) (countsN (allN (wordsN us) (countsN us) ++ allN (wordsN vs) (countsN vs))) (wordsN (allN (wordsN us) (countsN us) ++ allN (wordsN vs) (countsN vs))).length)), cL r_31 5 (encN .u8) (sealN (encA (wordsN (vs ++ us)) (countsN (vs ++ us)) (wordsN (vs ++ us)).length))] _ := hs_46.adds hp_32
                    have hS_18 : Sat w [cObj lg_1 92 [lvw_1, lvc_1, lvo_1], cL lvw_1 9 (encTx) (wordsN vs), cL lvc_1 3 (encN .i64) (countsN vs), cL lvo_1 3 (encN .i64) (ordN (wordsN vs)), cL lvn_1 3 (encN .i64) (vs.map (lbW (wordsN vs))), cObj lg_2 92 [lvw_2, lvc_2, lvo_2], cL lvw_2 9 (encTx) (wordsN us), cL lvc_2 3 (encN .i64) (countsN us), cL lvo_2 3 (encN .i64) (ordN (wordsN us)), cL lvn_2 3 (encN .i64) (us.map (lbW (wordsN us))), cObj lg_3 92 [lvw_3, lvc_3, lvo_3], cL lvw_3 9 (encTx) (wordsN (allN (wordsN vs) (countsN vs) ++ allN (wordsN us) (countsN us))), cL lvc_3 3 (encN .i64) (countsN (allN (wordsN vs) (countsN vs) ++ allN (wordsN us) (countsN us))), cL lvo_3 3 (encN .i64) (ordN (wordsN (allN (wordsN vs) (countsN vs) ++ allN (wordsN us) (countsN us)))), cL lv1_1 3 (encN .i64) ((wordsN vs).map (lbW (wordsN (allN (wordsN vs) (countsN vs) ++ allN (wordsN us) (countsN us))))), cL lv2_1 3 (encN .i64) ((wordsN us).map (lbW (wordsN (allN (wordsN vs) (countsN vs) ++ allN (wordsN us) (countsN us))))), cObj lg_4 92 [lvw_4, lvc_4, lvo_4], cL lvw_4 9 (encTx) (wordsN (allN (wordsN us) (countsN us) ++ allN (wordsN vs) (countsN vs))), cL lvc_4 3 (encN .i64) (countsN (allN (wordsN us) (countsN us) ++ allN (wordsN vs) (countsN vs))), cL lvo_4 3 (encN .i64) (ordN (wordsN (allN (wordsN us) (countsN us) ++ allN (wordsN vs) (countsN vs)))), cL lv1_2 3 (encN .i64) (((wordsN us).map fun y => (numN (wordsN (allN (wordsN us) (countsN us) ++ allN (wordsN vs) (countsN vs))) y).1)), cL lv2_2 3 (encN .i64) (((wordsN vs).map fun y => (numN (wordsN (allN (wordsN us) (countsN us) ++ allN (wordsN vs) (countsN vs))) y).1)), cL v_2 9 (encTx) (vs ++ us), cObj lg_5 92 [lvw_5, lvc_5, lvo_5], cL lvw_5 9 (encTx) (wordsN (vs ++ us)), cL lvc_5 3 (encN .i64) (countsN (vs ++ us)), cL lvo_5 3 (encN .i64) (ordN (wordsN (vs ++ us))), cL lvn_3 3 (encN .i64) ((vs ++ us).map (lbW (wordsN (vs ++ us))))] _ := hs_47.sub ((.cons_cons _ (.cons_cons _ (.cons_cons _ (.cons_cons _ (.cons_cons _ (.cons_cons _ (.cons_cons _ (.cons_cons _ (.cons_cons _ (.cons_cons _ (.cons_cons _ (.cons_cons _ (.cons_cons _ (.cons_cons _ (.cons_cons _ (.cons_cons _ (.cons_cons _ (.cons_cons _ (.cons_cons _ (.cons_cons _ (.cons_cons _ (.cons_cons _ (.cons_cons _ (.cons_cons _ (.cons_cons _ (.cons_cons _ (.cons_cons _ (.cons_cons _ (.cons _ (.cons _ (.cons _ (.cons _ .slnil)))))))))))))))))))))))))))))))))
                    refine ⟨hS_18, ?_⟩
                    refine RP.ev rfl rfl rfl (fun w' hS' => Ev.pickY rfl (decide_eq_true (by rw [jn_w2, jn_c2])) rfl) hS_18 ?_
                    refine RP.ev rfl rfl rfl (fun w' hS' => Ev.assign rfl) hS_18 ?_
                    refine RP.fin ?_
                    refine CW.ret ?_
                    show PostK _ _ _ _ _ _
                    refine post1 rfl rfl ?_
                    have hs_48 : Sat w [] w_36 := hs_47.sub ((.cons _ (.cons _ (.cons _ (.cons _ (.cons _ (.cons _ (.cons _ (.cons _ (.cons _ (.cons _ (.cons _ (.cons _ (.cons _ (.cons _ (.cons _ (.cons _ (.cons _ (.cons _ (.cons _ (.cons _ (.cons _ (.cons _ (.cons _ (.cons _ (.cons _ (.cons _ (.cons _ (.cons _ (.cons _ (.cons _ (.cons _ (.cons _ .slnil)))))))))))))))))))))))))))))))))
                    exact ⟨rfl, hs_48⟩
                  · have hp_30 := h_30
                    have hs_49 : Sat w [cObj lg_1 92 [lvw_1, lvc_1, lvo_1], cL lvw_1 9 (encTx) (wordsN vs), cL lvc_1 3 (encN .i64) (countsN vs), cL lvo_1 3 (encN .i64) (ordN (wordsN vs)), cL lvn_1 3 (encN .i64) (vs.map (lbW (wordsN vs))), cObj lg_2 92 [lvw_2, lvc_2, lvo_2], cL lvw_2 9 (encTx) (wordsN us), cL lvc_2 3 (encN .i64) (countsN us), cL lvo_2 3 (encN .i64) (ordN (wordsN us)), cL lvn_2 3 (encN .i64) (us.map (lbW (wordsN us))), cObj lg_3 92 [lvw_3, lvc_3, lvo_3], cL lvw_3 9 (encTx) (wordsN (allN (wordsN vs) (countsN vs) ++ allN (wordsN us) (countsN us))), cL lvc_3 3 (encN .i64) (countsN (allN (wordsN vs) (countsN vs) ++ allN (wordsN us) (countsN us))), cL lvo_3 3 (encN .i64) (ordN (wordsN (allN (wordsN vs) (countsN vs) ++ allN (wordsN us) (countsN us)))), cL lv1_1 3 (encN .i64) ((wordsN vs).map (lbW (wordsN (allN (wordsN vs) (countsN vs) ++ allN (wordsN us) (countsN us))))), cL lv2_1 3 (encN .i64) ((wordsN us).map (lbW (wordsN (allN (wordsN vs) (countsN vs) ++ allN (wordsN us) (countsN us))))), cObj lg_4 92 [lvw_4, lvc_4, lvo_4], cL lvw_4 9 (encTx) (wordsN (allN (wordsN us) (countsN us) ++ allN (wordsN vs) (countsN vs))), cL lvc_4 3 (encN .i64) (countsN (allN (wordsN us) (countsN us) ++ allN (wordsN vs) (countsN vs))), cL lvo_4 3 (encN .i64) (ordN (wordsN (allN (wordsN us) (countsN us) ++ allN (wordsN vs) (countsN vs)))), cL lv1_2 3 (encN .i64) (((wordsN us).map fun y => (numN (wordsN (allN (wordsN us) (countsN us) ++ allN (wordsN vs) (countsN vs))) y).1)), cL lv2_2 3 (encN .i64) (((wordsN vs).map fun y => (numN (wordsN (allN (wordsN us) (countsN us) ++ allN (wordsN vs) (countsN vs))) y).1)), cL v_2 9 (encTx) (vs ++ us), cObj lg_5 92 [lvw_5, lvc_5, lvo_5], cL lvw_5 9 (encTx) (wordsN (vs ++ us)), cL lvc_5 3 (encN .i64) (countsN (vs ++ us)), cL lvo_5 3 (encN .i64) (ordN (wordsN (vs ++ us))), cL lvn_3 3 (encN .i64) ((vs ++ us).map (lbW (wordsN (vs ++ us)))), cL r_14 5 (encN .u8) (sealN (encA (wordsN (allN (wordsN vs) (countsN vs) ++ allN (wordsN us) (countsN us))) (countsN (allN (wordsN vs) (countsN vs) ++ allN (wordsN us) (countsN us))) (wordsN (allN (wordsN vs) (countsN vs) ++ allN (wordsN us) (countsN us))).length)), cL r_15 5 (encN .u8) (sealN (encA (wordsN (vs ++ us)) (countsN (vs ++ us)) (wordsN (vs ++ us)).length)), cL r_29 5 (encN .u8) (sealN (encA (wordsN (allN (wordsN us) (countsN us) ++ allN (wordsN vs) (countsN vs))) (countsN (allN (wordsN us) (countsN us) ++ allN (wordsN vs) (countsN vs))) (wordsN (allN (wordsN us) (countsN us) ++ allN (wordsN vs) (countsN vs))).length)), cL r_30 5 (encN .u8) (sealN (encA (wordsN (vs ++ us)) (countsN (vs ++ us)) (wordsN (vs ++ us)).length))] _ := hs_45.adds hp_30
                    have hS_19 : Sat w [cObj lg_1 92 [lvw_1, lvc_1, lvo_1], cL lvw_1 9 (encTx) (wordsN vs), cL lvc_1 3 (encN .i64) (countsN vs), cL lvo_1 3 (encN .i64) (ordN (wordsN vs)), cL lvn_1 3 (encN .i64) (vs.map (lbW (wordsN vs))), cObj lg_2 92 [lvw_2, lvc_2, lvo_2], cL lvw_2 9 (encTx) (wordsN us), cL lvc_2 3 (encN .i64) (countsN us), cL lvo_2 3 (encN .i64) (ordN (wordsN us)), cL lvn_2 3 (encN .i64) (us.map (lbW (wordsN us))), cObj lg_3 92 [lvw_3, lvc_3, lvo_3], cL lvw_3 9 (encTx) (wordsN (allN (wordsN vs) (countsN vs) ++ allN (wordsN us) (countsN us))), cL lvc_3 3 (encN .i64) (countsN (allN (wordsN vs) (countsN vs) ++ allN (wordsN us) (countsN us))), cL lvo_3 3 (encN .i64) (ordN (wordsN (allN (wordsN vs) (countsN vs) ++ allN (wordsN us) (countsN us)))), cL lv1_1 3 (encN .i64) ((wordsN vs).map (lbW (wordsN (allN (wordsN vs) (countsN vs) ++ allN (wordsN us) (countsN us))))), cL lv2_1 3 (encN .i64) ((wordsN us).map (lbW (wordsN (allN (wordsN vs) (countsN vs) ++ allN (wordsN us) (countsN us))))), cObj lg_4 92 [lvw_4, lvc_4, lvo_4], cL lvw_4 9 (encTx) (wordsN (allN (wordsN us) (countsN us) ++ allN (wordsN vs) (countsN vs))), cL lvc_4 3 (encN .i64) (countsN (allN (wordsN us) (countsN us) ++ allN (wordsN vs) (countsN vs))), cL lvo_4 3 (encN .i64) (ordN (wordsN (allN (wordsN us) (countsN us) ++ allN (wordsN vs) (countsN vs)))), cL lv1_2 3 (encN .i64) (((wordsN us).map fun y => (numN (wordsN (allN (wordsN us) (countsN us) ++ allN (wordsN vs) (countsN vs))) y).1)), cL lv2_2 3 (encN .i64) (((wordsN vs).map fun y => (numN (wordsN (allN (wordsN us) (countsN us) ++ allN (wordsN vs) (countsN vs))) y).1)), cL v_2 9 (encTx) (vs ++ us), cObj lg_5 92 [lvw_5, lvc_5, lvo_5], cL lvw_5 9 (encTx) (wordsN (vs ++ us)), cL lvc_5 3 (encN .i64) (countsN (vs ++ us)), cL lvo_5 3 (encN .i64) (ordN (wordsN (vs ++ us))), cL lvn_3 3 (encN .i64) ((vs ++ us).map (lbW (wordsN (vs ++ us))))] _ := hs_49.sub ((.cons_cons _ (.cons_cons _ (.cons_cons _ (.cons_cons _ (.cons_cons _ (.cons_cons _ (.cons_cons _ (.cons_cons _ (.cons_cons _ (.cons_cons _ (.cons_cons _ (.cons_cons _ (.cons_cons _ (.cons_cons _ (.cons_cons _ (.cons_cons _ (.cons_cons _ (.cons_cons _ (.cons_cons _ (.cons_cons _ (.cons_cons _ (.cons_cons _ (.cons_cons _ (.cons_cons _ (.cons_cons _ (.cons_cons _ (.cons_cons _ (.cons_cons _ (.cons _ (.cons _ (.cons _ (.cons _ .slnil)))))))))))))))))))))))))))))))))
                    refine ⟨hS_19, ?_⟩
                    refine RP.twoYes rfl rfl rfl rfl (decide_eq_true (by rw [jn_w1, jn_c1])) rfl rfl rfl rfl rfl (decide_eq_true (by rw [jn_w1, jn_c1])) rfl (OpE.ev (Ev.bytesStr Try.underlying40 Try.underlying9 Try.underlying5 rfl (hs_49.rdL 30 rfl)) ⟨hS_19, ?_⟩) (OpE.ev (Ev.bytesStr Try.underlying40 Try.underlying9 Try.underlying5 rfl (hs_49.rdL 31 rfl)) ⟨hS_19, ?_⟩)
                    · refine RP.effYes rfl rfl rfl rfl (decide_eq_true (by rw [jn_w1, jn_c1])) rfl (OpE.ev (Ev.bytesStr Try.underlying40 Try.underlying9 Try.underlying5 rfl (hs_49.rdL 31 rfl)) ⟨hS_19, ?_⟩)
                      refine RP.evYes rfl rfl rfl rfl (decide_eq_true (by rw [jn_w1, jn_c1])) rfl (fun w' hS' => Ev.strEql rfl rfl) hS_19 ?_
                      refine RP.ev rfl rfl rfl (fun w' hS' => Ev.pickY rfl (decide_eq_true (by rw [jn_w1, jn_c1])) rfl) hS_19 ?_
                      refine RP.ev rfl rfl rfl (fun w' hS' => Ev.move rfl) hS_19 ?_
                      refine RP.effYes rfl rfl rfl rfl (decide_eq_true (by rw [jn_w2, jn_c2])) rfl (OpE.call ent33 rfl ((lawake_ok _).mono fun r_33 w_37 h_33 => ?_))
                      obtain ⟨rfl, hp_33⟩ := h_33
                      have hs_50 : Sat w [cObj lg_1 92 [lvw_1, lvc_1, lvo_1], cL lvw_1 9 (encTx) (wordsN vs), cL lvc_1 3 (encN .i64) (countsN vs), cL lvo_1 3 (encN .i64) (ordN (wordsN vs)), cL lvn_1 3 (encN .i64) (vs.map (lbW (wordsN vs))), cObj lg_2 92 [lvw_2, lvc_2, lvo_2], cL lvw_2 9 (encTx) (wordsN us), cL lvc_2 3 (encN .i64) (countsN us), cL lvo_2 3 (encN .i64) (ordN (wordsN us)), cL lvn_2 3 (encN .i64) (us.map (lbW (wordsN us))), cObj lg_3 92 [lvw_3, lvc_3, lvo_3], cL lvw_3 9 (encTx) (wordsN (allN (wordsN vs) (countsN vs) ++ allN (wordsN us) (countsN us))), cL lvc_3 3 (encN .i64) (countsN (allN (wordsN vs) (countsN vs) ++ allN (wordsN us) (countsN us))), cL lvo_3 3 (encN .i64) (ordN (wordsN (allN (wordsN vs) (countsN vs) ++ allN (wordsN us) (countsN us)))), cL lv1_1 3 (encN .i64) ((wordsN vs).map (lbW (wordsN (allN (wordsN vs) (countsN vs) ++ allN (wordsN us) (countsN us))))), cL lv2_1 3 (encN .i64) ((wordsN us).map (lbW (wordsN (allN (wordsN vs) (countsN vs) ++ allN (wordsN us) (countsN us))))), cObj lg_4 92 [lvw_4, lvc_4, lvo_4], cL lvw_4 9 (encTx) (wordsN (allN (wordsN us) (countsN us) ++ allN (wordsN vs) (countsN vs))), cL lvc_4 3 (encN .i64) (countsN (allN (wordsN us) (countsN us) ++ allN (wordsN vs) (countsN vs))), cL lvo_4 3 (encN .i64) (ordN (wordsN (allN (wordsN us) (countsN us) ++ allN (wordsN vs) (countsN vs)))), cL lv1_2 3 (encN .i64) (((wordsN us).map fun y => (numN (wordsN (allN (wordsN us) (countsN us) ++ allN (wordsN vs) (countsN vs))) y).1)), cL lv2_2 3 (encN .i64) (((wordsN vs).map fun y => (numN (wordsN (allN (wordsN us) (countsN us) ++ allN (wordsN vs) (countsN vs))) y).1)), cL v_2 9 (encTx) (vs ++ us), cObj lg_5 92 [lvw_5, lvc_5, lvo_5], cL lvw_5 9 (encTx) (wordsN (vs ++ us)), cL lvc_5 3 (encN .i64) (countsN (vs ++ us)), cL lvo_5 3 (encN .i64) (ordN (wordsN (vs ++ us))), cL lvn_3 3 (encN .i64) ((vs ++ us).map (lbW (wordsN (vs ++ us)))), cL r_14 5 (encN .u8) (sealN (encA (wordsN (allN (wordsN vs) (countsN vs) ++ allN (wordsN us) (countsN us))) (countsN (allN (wordsN vs) (countsN vs) ++ allN (wordsN us) (countsN us))) (wordsN (allN (wordsN vs) (countsN vs) ++ allN (wordsN us) (countsN us))).length)), cL r_15 5 (encN .u8) (sealN (encA (wordsN (vs ++ us)) (countsN (vs ++ us)) (wordsN (vs ++ us)).length)), cL r_29 5 (encN .u8) (sealN (encA (wordsN (allN (wordsN us) (countsN us) ++ allN (wordsN vs) (countsN vs))) (countsN (allN (wordsN us) (countsN us) ++ allN (wordsN vs) (countsN vs))) (wordsN (allN (wordsN us) (countsN us) ++ allN (wordsN vs) (countsN vs))).length)), cL r_30 5 (encN .u8) (sealN (encA (wordsN (vs ++ us)) (countsN (vs ++ us)) (wordsN (vs ++ us)).length))] _ := hs_49.adds hp_33
                      have hS_20 : Sat w [cObj lg_1 92 [lvw_1, lvc_1, lvo_1], cL lvw_1 9 (encTx) (wordsN vs), cL lvc_1 3 (encN .i64) (countsN vs), cL lvo_1 3 (encN .i64) (ordN (wordsN vs)), cL lvn_1 3 (encN .i64) (vs.map (lbW (wordsN vs))), cObj lg_2 92 [lvw_2, lvc_2, lvo_2], cL lvw_2 9 (encTx) (wordsN us), cL lvc_2 3 (encN .i64) (countsN us), cL lvo_2 3 (encN .i64) (ordN (wordsN us)), cL lvn_2 3 (encN .i64) (us.map (lbW (wordsN us))), cObj lg_3 92 [lvw_3, lvc_3, lvo_3], cL lvw_3 9 (encTx) (wordsN (allN (wordsN vs) (countsN vs) ++ allN (wordsN us) (countsN us))), cL lvc_3 3 (encN .i64) (countsN (allN (wordsN vs) (countsN vs) ++ allN (wordsN us) (countsN us))), cL lvo_3 3 (encN .i64) (ordN (wordsN (allN (wordsN vs) (countsN vs) ++ allN (wordsN us) (countsN us)))), cL lv1_1 3 (encN .i64) ((wordsN vs).map (lbW (wordsN (allN (wordsN vs) (countsN vs) ++ allN (wordsN us) (countsN us))))), cL lv2_1 3 (encN .i64) ((wordsN us).map (lbW (wordsN (allN (wordsN vs) (countsN vs) ++ allN (wordsN us) (countsN us))))), cObj lg_4 92 [lvw_4, lvc_4, lvo_4], cL lvw_4 9 (encTx) (wordsN (allN (wordsN us) (countsN us) ++ allN (wordsN vs) (countsN vs))), cL lvc_4 3 (encN .i64) (countsN (allN (wordsN us) (countsN us) ++ allN (wordsN vs) (countsN vs))), cL lvo_4 3 (encN .i64) (ordN (wordsN (allN (wordsN us) (countsN us) ++ allN (wordsN vs) (countsN vs)))), cL lv1_2 3 (encN .i64) (((wordsN us).map fun y => (numN (wordsN (allN (wordsN us) (countsN us) ++ allN (wordsN vs) (countsN vs))) y).1)), cL lv2_2 3 (encN .i64) (((wordsN vs).map fun y => (numN (wordsN (allN (wordsN us) (countsN us) ++ allN (wordsN vs) (countsN vs))) y).1)), cL v_2 9 (encTx) (vs ++ us), cObj lg_5 92 [lvw_5, lvc_5, lvo_5], cL lvw_5 9 (encTx) (wordsN (vs ++ us)), cL lvc_5 3 (encN .i64) (countsN (vs ++ us)), cL lvo_5 3 (encN .i64) (ordN (wordsN (vs ++ us))), cL lvn_3 3 (encN .i64) ((vs ++ us).map (lbW (wordsN (vs ++ us))))] _ := hs_50.sub ((.cons_cons _ (.cons_cons _ (.cons_cons _ (.cons_cons _ (.cons_cons _ (.cons_cons _ (.cons_cons _ (.cons_cons _ (.cons_cons _ (.cons_cons _ (.cons_cons _ (.cons_cons _ (.cons_cons _ (.cons_cons _ (.cons_cons _ (.cons_cons _ (.cons_cons _ (.cons_cons _ (.cons_cons _ (.cons_cons _ (.cons_cons _ (.cons_cons _ (.cons_cons _ (.cons_cons _ (.cons_cons _ (.cons_cons _ (.cons_cons _ (.cons_cons _ (.cons _ (.cons _ (.cons _ (.cons _ .slnil)))))))))))))))))))))))))))))))))
                      refine ⟨hS_20, ?_⟩
                      refine RP.ev rfl rfl rfl (fun w' hS' => Ev.pickY rfl (decide_eq_true (by rw [jn_w2, jn_c2])) rfl) hS_20 ?_
                      refine RP.ev rfl rfl rfl (fun w' hS' => Ev.assign rfl) hS_20 ?_
                      refine RP.fin ?_
                      refine CW.ret ?_
                      show PostK _ _ _ _ _ _
                      refine post1 rfl rfl ?_
                      have hs_51 : Sat w [] w_37 := hs_50.sub ((.cons _ (.cons _ (.cons _ (.cons _ (.cons _ (.cons _ (.cons _ (.cons _ (.cons _ (.cons _ (.cons _ (.cons _ (.cons _ (.cons _ (.cons _ (.cons _ (.cons _ (.cons _ (.cons _ (.cons _ (.cons _ (.cons _ (.cons _ (.cons _ (.cons _ (.cons _ (.cons _ (.cons _ (.cons _ (.cons _ (.cons _ (.cons _ .slnil)))))))))))))))))))))))))))))))))
                      exact ⟨rfl, hs_51⟩
                    · refine RP.effYes rfl rfl rfl rfl (decide_eq_true (by rw [jn_w1, jn_c1])) rfl (OpE.ev (Ev.bytesStr Try.underlying40 Try.underlying9 Try.underlying5 rfl (hs_49.rdL 30 rfl)) ⟨hS_19, ?_⟩)
                      refine RP.evYes rfl rfl rfl rfl (decide_eq_true (by rw [jn_w1, jn_c1])) rfl (fun w' hS' => Ev.strEql rfl rfl) hS_19 ?_
                      refine RP.ev rfl rfl rfl (fun w' hS' => Ev.pickY rfl (decide_eq_true (by rw [jn_w1, jn_c1])) rfl) hS_19 ?_
                      refine RP.ev rfl rfl rfl (fun w' hS' => Ev.move rfl) hS_19 ?_
                      refine RP.effYes rfl rfl rfl rfl (decide_eq_true (by rw [jn_w2, jn_c2])) rfl (OpE.call ent33 rfl ((lawake_ok _).mono fun r_34 w_38 h_34 => ?_))
                      obtain ⟨rfl, hp_34⟩ := h_34
                      have hs_52 : Sat w [cObj lg_1 92 [lvw_1, lvc_1, lvo_1], cL lvw_1 9 (encTx) (wordsN vs), cL lvc_1 3 (encN .i64) (countsN vs), cL lvo_1 3 (encN .i64) (ordN (wordsN vs)), cL lvn_1 3 (encN .i64) (vs.map (lbW (wordsN vs))), cObj lg_2 92 [lvw_2, lvc_2, lvo_2], cL lvw_2 9 (encTx) (wordsN us), cL lvc_2 3 (encN .i64) (countsN us), cL lvo_2 3 (encN .i64) (ordN (wordsN us)), cL lvn_2 3 (encN .i64) (us.map (lbW (wordsN us))), cObj lg_3 92 [lvw_3, lvc_3, lvo_3], cL lvw_3 9 (encTx) (wordsN (allN (wordsN vs) (countsN vs) ++ allN (wordsN us) (countsN us))), cL lvc_3 3 (encN .i64) (countsN (allN (wordsN vs) (countsN vs) ++ allN (wordsN us) (countsN us))), cL lvo_3 3 (encN .i64) (ordN (wordsN (allN (wordsN vs) (countsN vs) ++ allN (wordsN us) (countsN us)))), cL lv1_1 3 (encN .i64) ((wordsN vs).map (lbW (wordsN (allN (wordsN vs) (countsN vs) ++ allN (wordsN us) (countsN us))))), cL lv2_1 3 (encN .i64) ((wordsN us).map (lbW (wordsN (allN (wordsN vs) (countsN vs) ++ allN (wordsN us) (countsN us))))), cObj lg_4 92 [lvw_4, lvc_4, lvo_4], cL lvw_4 9 (encTx) (wordsN (allN (wordsN us) (countsN us) ++ allN (wordsN vs) (countsN vs))), cL lvc_4 3 (encN .i64) (countsN (allN (wordsN us) (countsN us) ++ allN (wordsN vs) (countsN vs))), cL lvo_4 3 (encN .i64) (ordN (wordsN (allN (wordsN us) (countsN us) ++ allN (wordsN vs) (countsN vs)))), cL lv1_2 3 (encN .i64) (((wordsN us).map fun y => (numN (wordsN (allN (wordsN us) (countsN us) ++ allN (wordsN vs) (countsN vs))) y).1)), cL lv2_2 3 (encN .i64) (((wordsN vs).map fun y => (numN (wordsN (allN (wordsN us) (countsN us) ++ allN (wordsN vs) (countsN vs))) y).1)), cL v_2 9 (encTx) (vs ++ us), cObj lg_5 92 [lvw_5, lvc_5, lvo_5], cL lvw_5 9 (encTx) (wordsN (vs ++ us)), cL lvc_5 3 (encN .i64) (countsN (vs ++ us)), cL lvo_5 3 (encN .i64) (ordN (wordsN (vs ++ us))), cL lvn_3 3 (encN .i64) ((vs ++ us).map (lbW (wordsN (vs ++ us)))), cL r_14 5 (encN .u8) (sealN (encA (wordsN (allN (wordsN vs) (countsN vs) ++ allN (wordsN us) (countsN us))) (countsN (allN (wordsN vs) (countsN vs) ++ allN (wordsN us) (countsN us))) (wordsN (allN (wordsN vs) (countsN vs) ++ allN (wordsN us) (countsN us))).length)), cL r_15 5 (encN .u8) (sealN (encA (wordsN (vs ++ us)) (countsN (vs ++ us)) (wordsN (vs ++ us)).length)), cL r_29 5 (encN .u8) (sealN (encA (wordsN (allN (wordsN us) (countsN us) ++ allN (wordsN vs) (countsN vs))) (countsN (allN (wordsN us) (countsN us) ++ allN (wordsN vs) (countsN vs))) (wordsN (allN (wordsN us) (countsN us) ++ allN (wordsN vs) (countsN vs))).length)), cL r_30 5 (encN .u8) (sealN (encA (wordsN (vs ++ us)) (countsN (vs ++ us)) (wordsN (vs ++ us)).length))] _ := hs_49.adds hp_34
                      have hS_21 : Sat w [cObj lg_1 92 [lvw_1, lvc_1, lvo_1], cL lvw_1 9 (encTx) (wordsN vs), cL lvc_1 3 (encN .i64) (countsN vs), cL lvo_1 3 (encN .i64) (ordN (wordsN vs)), cL lvn_1 3 (encN .i64) (vs.map (lbW (wordsN vs))), cObj lg_2 92 [lvw_2, lvc_2, lvo_2], cL lvw_2 9 (encTx) (wordsN us), cL lvc_2 3 (encN .i64) (countsN us), cL lvo_2 3 (encN .i64) (ordN (wordsN us)), cL lvn_2 3 (encN .i64) (us.map (lbW (wordsN us))), cObj lg_3 92 [lvw_3, lvc_3, lvo_3], cL lvw_3 9 (encTx) (wordsN (allN (wordsN vs) (countsN vs) ++ allN (wordsN us) (countsN us))), cL lvc_3 3 (encN .i64) (countsN (allN (wordsN vs) (countsN vs) ++ allN (wordsN us) (countsN us))), cL lvo_3 3 (encN .i64) (ordN (wordsN (allN (wordsN vs) (countsN vs) ++ allN (wordsN us) (countsN us)))), cL lv1_1 3 (encN .i64) ((wordsN vs).map (lbW (wordsN (allN (wordsN vs) (countsN vs) ++ allN (wordsN us) (countsN us))))), cL lv2_1 3 (encN .i64) ((wordsN us).map (lbW (wordsN (allN (wordsN vs) (countsN vs) ++ allN (wordsN us) (countsN us))))), cObj lg_4 92 [lvw_4, lvc_4, lvo_4], cL lvw_4 9 (encTx) (wordsN (allN (wordsN us) (countsN us) ++ allN (wordsN vs) (countsN vs))), cL lvc_4 3 (encN .i64) (countsN (allN (wordsN us) (countsN us) ++ allN (wordsN vs) (countsN vs))), cL lvo_4 3 (encN .i64) (ordN (wordsN (allN (wordsN us) (countsN us) ++ allN (wordsN vs) (countsN vs)))), cL lv1_2 3 (encN .i64) (((wordsN us).map fun y => (numN (wordsN (allN (wordsN us) (countsN us) ++ allN (wordsN vs) (countsN vs))) y).1)), cL lv2_2 3 (encN .i64) (((wordsN vs).map fun y => (numN (wordsN (allN (wordsN us) (countsN us) ++ allN (wordsN vs) (countsN vs))) y).1)), cL v_2 9 (encTx) (vs ++ us), cObj lg_5 92 [lvw_5, lvc_5, lvo_5], cL lvw_5 9 (encTx) (wordsN (vs ++ us)), cL lvc_5 3 (encN .i64) (countsN (vs ++ us)), cL lvo_5 3 (encN .i64) (ordN (wordsN (vs ++ us))), cL lvn_3 3 (encN .i64) ((vs ++ us).map (lbW (wordsN (vs ++ us))))] _ := hs_52.sub ((.cons_cons _ (.cons_cons _ (.cons_cons _ (.cons_cons _ (.cons_cons _ (.cons_cons _ (.cons_cons _ (.cons_cons _ (.cons_cons _ (.cons_cons _ (.cons_cons _ (.cons_cons _ (.cons_cons _ (.cons_cons _ (.cons_cons _ (.cons_cons _ (.cons_cons _ (.cons_cons _ (.cons_cons _ (.cons_cons _ (.cons_cons _ (.cons_cons _ (.cons_cons _ (.cons_cons _ (.cons_cons _ (.cons_cons _ (.cons_cons _ (.cons_cons _ (.cons _ (.cons _ (.cons _ (.cons _ .slnil)))))))))))))))))))))))))))))))))
                      refine ⟨hS_21, ?_⟩
                      refine RP.ev rfl rfl rfl (fun w' hS' => Ev.pickY rfl (decide_eq_true (by rw [jn_w2, jn_c2])) rfl) hS_21 ?_
                      refine RP.ev rfl rfl rfl (fun w' hS' => Ev.assign rfl) hS_21 ?_
                      refine RP.fin ?_
                      refine CW.ret ?_
                      show PostK _ _ _ _ _ _
                      refine post1 rfl rfl ?_
                      have hs_53 : Sat w [] w_38 := hs_52.sub ((.cons _ (.cons _ (.cons _ (.cons _ (.cons _ (.cons _ (.cons _ (.cons _ (.cons _ (.cons _ (.cons _ (.cons _ (.cons _ (.cons _ (.cons _ (.cons _ (.cons _ (.cons _ (.cons _ (.cons _ (.cons _ (.cons _ (.cons _ (.cons _ (.cons _ (.cons _ (.cons _ (.cons _ (.cons _ (.cons _ (.cons _ (.cons _ .slnil)))))))))))))))))))))))))))))))))
                      exact ⟨rfl, hs_53⟩
    · refine CW.region ?_
      refine RT.ev rfl rfl (Ev.move rfl) ?_
      refine RT.eff rfl rfl (OpE.call ent32 rfl ((lbuild_err (hu.ext hs_1.ext) he2).mono fun r_35 w_39 h_35 => ?_))
      obtain ⟨rfl, hp_35⟩ := h_35
      have hs_54 : Sat w [cObj lg_1 92 [lvw_1, lvc_1, lvo_1], cL lvw_1 9 (encTx) (wordsN vs), cL lvc_1 3 (encN .i64) (countsN vs), cL lvo_1 3 (encN .i64) (ordN (wordsN vs)), cL lvn_1 3 (encN .i64) (vs.map (lbW (wordsN vs)))] _ := hs_1.adds hp_35
      refine RT.ev rfl rfl (Ev.move rfl) ?_
      refine RT.ev rfl rfl (Ev.extract rfl rfl) ?_
      refine RT.ev rfl rfl (Ev.extract rfl rfl) ?_
      refine RT.ev rfl rfl (Ev.extract rfl rfl) ?_
      refine RT.ev rfl rfl (Ev.assign rfl) ?_
      refine RT.ev rfl rfl (Ev.assign rfl) ?_
      refine RT.ev rfl rfl (Ev.assign rfl) ?_
      refine RT.nil ?_
      refine CW.seq ?_
      refine CW.seq ?_
      refine CW.region ?_
      refine RT.ev rfl rfl (Ev.move rfl) ?_
      refine RT.eff rfl rfl (OpE.call ent35 rfl ((long80_ok _ _ _ (hv.ext hs_54.ext) (by assumption)).mono fun r_36 w_40 h_36 => ?_))
      obtain ⟨⟨lb_3, rfl, hlg_3⟩, hp_36⟩ := h_36
      have hs_55 : Sat w [cObj lg_1 92 [lvw_1, lvc_1, lvo_1], cL lvw_1 9 (encTx) (wordsN vs), cL lvc_1 3 (encN .i64) (countsN vs), cL lvo_1 3 (encN .i64) (ordN (wordsN vs)), cL lvn_1 3 (encN .i64) (vs.map (lbW (wordsN vs)))] _ := hs_54.adds hp_36
      refine RT.ev rfl rfl (Ev.move rfl) ?_
      by_cases hg_3 : lb_3 = true
      · refine RT.no rfl rfl rfl (hg_3) rfl ?_
        refine RT.no rfl rfl rfl (hg_3) rfl ?_
        refine RT.ev rfl rfl (Ev.pickY rfl (hg_3) rfl) ?_
        refine RT.ev rfl rfl (Ev.move rfl) ?_
        refine RT.no rfl rfl rfl (rfl) rfl ?_
        refine RT.no rfl rfl rfl (rfl) rfl ?_
        refine RT.ev rfl rfl (Ev.pickY rfl (rfl) rfl) ?_
        refine RT.ev rfl rfl (Ev.move rfl) ?_
        refine RT.no rfl rfl rfl (rfl) rfl ?_
        refine RT.no rfl rfl rfl (rfl) rfl ?_
        refine RT.ev rfl rfl (Ev.pickY rfl (rfl) rfl) ?_
        refine RT.nil ?_
        refine CW.condT rfl (rfl) ?_
        refine CW.seq ?_
        refine CW.region ?_
        refine RT.ev rfl rfl (Ev.assign rfl) ?_
        refine RT.nil ?_
        refine CW.ret ?_
        show PostK _ _ _ _ _ _
        refine post1 rfl rfl ?_
        have hs_56 : Sat w [] w_40 := hs_55.sub ((.cons _ (.cons _ (.cons _ (.cons _ (.cons _ .slnil))))))
        exact ⟨rfl, hs_56⟩
      · refine RT.yes rfl rfl rfl (by simpa using hg_3) ?_
        refine RT.ev rfl rfl (Ev.move rfl) ?_
        refine RT.yes rfl rfl rfl (by simpa using hg_3) ?_
        refine RT.eff rfl rfl (OpE.call ent35 rfl ((long80_ok _ _ _ (hu.ext hs_55.ext) (by assumption)).mono fun r_37 w_41 h_37 => ?_))
        obtain ⟨⟨lb_4, rfl, hlg_4⟩, hp_37⟩ := h_37
        have hs_57 : Sat w [cObj lg_1 92 [lvw_1, lvc_1, lvo_1], cL lvw_1 9 (encTx) (wordsN vs), cL lvc_1 3 (encN .i64) (countsN vs), cL lvo_1 3 (encN .i64) (ordN (wordsN vs)), cL lvn_1 3 (encN .i64) (vs.map (lbW (wordsN vs)))] _ := hs_55.adds hp_37
        refine RT.ev rfl rfl (Ev.pickN rfl (by simpa using hg_3) rfl) ?_
        refine RT.ev rfl rfl (Ev.move rfl) ?_
        by_cases hg_4 : lb_4 = true
        · refine RT.no rfl rfl rfl (hg_4) rfl ?_
          refine RT.no rfl rfl rfl (hg_4) rfl ?_
          refine RT.ev rfl rfl (Ev.pickY rfl (hg_4) rfl) ?_
          refine RT.ev rfl rfl (Ev.move rfl) ?_
          refine RT.no rfl rfl rfl (rfl) rfl ?_
          refine RT.no rfl rfl rfl (rfl) rfl ?_
          refine RT.ev rfl rfl (Ev.pickY rfl (rfl) rfl) ?_
          refine RT.nil ?_
          refine CW.condT rfl (rfl) ?_
          refine CW.seq ?_
          refine CW.region ?_
          refine RT.ev rfl rfl (Ev.assign rfl) ?_
          refine RT.nil ?_
          refine CW.ret ?_
          show PostK _ _ _ _ _ _
          refine post1 rfl rfl ?_
          have hs_58 : Sat w [] w_41 := hs_57.sub ((.cons _ (.cons _ (.cons _ (.cons _ (.cons _ .slnil))))))
          exact ⟨rfl, hs_58⟩
        · refine RT.yes rfl rfl rfl (by simpa using hg_4) ?_
          refine RT.ev rfl rfl (Ev.move rfl) ?_
          refine RT.yes rfl rfl rfl (by simpa using hg_4) ?_
          refine RT.ev rfl rfl (Ev.neqN (a := 0) (b := 0) rfl rfl) ?_
          refine RT.ev rfl rfl (Ev.pickN rfl (by simpa using hg_4) rfl) ?_
          refine RT.ev rfl rfl (Ev.move rfl) ?_
          refine RT.yes rfl rfl rfl (rfl) ?_
          refine RT.ev rfl rfl (Ev.move rfl) ?_
          refine RT.yes rfl rfl rfl (rfl) ?_
          refine RT.ev rfl rfl (Ev.neqN (b := 0) rfl rfl) ?_
          refine RT.ev rfl rfl (Ev.pickN rfl (rfl) rfl) ?_
          refine RT.nil ?_
          refine CW.condT rfl (decide_eq_true (fun h9 => he2 (by omega))) ?_
          refine CW.seq ?_
          refine CW.region ?_
          refine RT.ev rfl rfl (Ev.assign rfl) ?_
          refine RT.nil ?_
          refine CW.ret ?_
          show PostK _ _ _ _ _ _
          refine post1 rfl rfl ?_
          have hs_59 : Sat w [] w_41 := hs_57.sub ((.cons _ (.cons _ (.cons _ (.cons _ (.cons _ .slnil))))))
          exact ⟨rfl, hs_59⟩
  · refine CW.region ?_
    refine RT.ev rfl rfl (Ev.move rfl) ?_
    refine RT.eff rfl rfl (OpE.call ent32 rfl ((lbuild_err (hv.ext hs0.ext) he).mono fun r_38 w_42 h_38 => ?_))
    obtain ⟨rfl, hp_38⟩ := h_38
    have hs_60 : Sat w [] _ := hs0.adds hp_38
    refine RT.ev rfl rfl (Ev.move rfl) ?_
    refine RT.ev rfl rfl (Ev.extract rfl rfl) ?_
    refine RT.ev rfl rfl (Ev.extract rfl rfl) ?_
    refine RT.ev rfl rfl (Ev.extract rfl rfl) ?_
    refine RT.ev rfl rfl (Ev.assign rfl) ?_
    refine RT.ev rfl rfl (Ev.assign rfl) ?_
    refine RT.ev rfl rfl (Ev.assign rfl) ?_
    refine RT.nil ?_
    refine CW.seq ?_
    rcases Decidable.em (bldE (us) = 0) with he2 | he2
    · refine CW.region ?_
      refine RT.ev rfl rfl (Ev.move rfl) ?_
      refine RT.eff rfl rfl (OpE.call ent32 rfl ((lbuild_good (hu.ext hs_60.ext) he2).mono fun r_39 w_43 h_39 => ?_))
      obtain ⟨lg_6, lvw_6, lvc_6, lvo_6, lvn_4, rfl, hp_39⟩ := h_39
      have hs_61 : Sat w [cObj lg_6 92 [lvw_6, lvc_6, lvo_6], cL lvw_6 9 (encTx) (wordsN us), cL lvc_6 3 (encN .i64) (countsN us), cL lvo_6 3 (encN .i64) (ordN (wordsN us)), cL lvn_4 3 (encN .i64) (us.map (lbW (wordsN us)))] _ := hs_60.adds hp_39
      refine RT.ev rfl rfl (Ev.move rfl) ?_
      refine RT.ev rfl rfl (Ev.extract rfl rfl) ?_
      refine RT.ev rfl rfl (Ev.extract rfl rfl) ?_
      refine RT.ev rfl rfl (Ev.extract rfl rfl) ?_
      refine RT.ev rfl rfl (Ev.assign rfl) ?_
      refine RT.ev rfl rfl (Ev.assign rfl) ?_
      refine RT.ev rfl rfl (Ev.assign rfl) ?_
      refine RT.nil ?_
      refine CW.seq ?_
      refine CW.seq ?_
      refine CW.region ?_
      refine RT.ev rfl rfl (Ev.move rfl) ?_
      refine RT.eff rfl rfl (OpE.call ent35 rfl ((long80_ok _ _ _ (hv.ext hs_61.ext) (by assumption)).mono fun r_40 w_44 h_40 => ?_))
      obtain ⟨⟨lb_5, rfl, hlg_5⟩, hp_40⟩ := h_40
      have hs_62 : Sat w [cObj lg_6 92 [lvw_6, lvc_6, lvo_6], cL lvw_6 9 (encTx) (wordsN us), cL lvc_6 3 (encN .i64) (countsN us), cL lvo_6 3 (encN .i64) (ordN (wordsN us)), cL lvn_4 3 (encN .i64) (us.map (lbW (wordsN us)))] _ := hs_61.adds hp_40
      refine RT.ev rfl rfl (Ev.move rfl) ?_
      by_cases hg_5 : lb_5 = true
      · refine RT.no rfl rfl rfl (hg_5) rfl ?_
        refine RT.no rfl rfl rfl (hg_5) rfl ?_
        refine RT.ev rfl rfl (Ev.pickY rfl (hg_5) rfl) ?_
        refine RT.ev rfl rfl (Ev.move rfl) ?_
        refine RT.no rfl rfl rfl (rfl) rfl ?_
        refine RT.no rfl rfl rfl (rfl) rfl ?_
        refine RT.ev rfl rfl (Ev.pickY rfl (rfl) rfl) ?_
        refine RT.ev rfl rfl (Ev.move rfl) ?_
        refine RT.no rfl rfl rfl (rfl) rfl ?_
        refine RT.no rfl rfl rfl (rfl) rfl ?_
        refine RT.ev rfl rfl (Ev.pickY rfl (rfl) rfl) ?_
        refine RT.nil ?_
        refine CW.condT rfl (rfl) ?_
        refine CW.seq ?_
        refine CW.region ?_
        refine RT.ev rfl rfl (Ev.assign rfl) ?_
        refine RT.nil ?_
        refine CW.ret ?_
        show PostK _ _ _ _ _ _
        refine post1 rfl rfl ?_
        have hs_63 : Sat w [] w_44 := hs_62.sub ((.cons _ (.cons _ (.cons _ (.cons _ (.cons _ .slnil))))))
        exact ⟨rfl, hs_63⟩
      · refine RT.yes rfl rfl rfl (by simpa using hg_5) ?_
        refine RT.ev rfl rfl (Ev.move rfl) ?_
        refine RT.yes rfl rfl rfl (by simpa using hg_5) ?_
        refine RT.eff rfl rfl (OpE.call ent35 rfl ((long80_ok _ _ _ (hu.ext hs_62.ext) (by assumption)).mono fun r_41 w_45 h_41 => ?_))
        obtain ⟨⟨lb_6, rfl, hlg_6⟩, hp_41⟩ := h_41
        have hs_64 : Sat w [cObj lg_6 92 [lvw_6, lvc_6, lvo_6], cL lvw_6 9 (encTx) (wordsN us), cL lvc_6 3 (encN .i64) (countsN us), cL lvo_6 3 (encN .i64) (ordN (wordsN us)), cL lvn_4 3 (encN .i64) (us.map (lbW (wordsN us)))] _ := hs_62.adds hp_41
        refine RT.ev rfl rfl (Ev.pickN rfl (by simpa using hg_5) rfl) ?_
        refine RT.ev rfl rfl (Ev.move rfl) ?_
        by_cases hg_6 : lb_6 = true
        · refine RT.no rfl rfl rfl (hg_6) rfl ?_
          refine RT.no rfl rfl rfl (hg_6) rfl ?_
          refine RT.ev rfl rfl (Ev.pickY rfl (hg_6) rfl) ?_
          refine RT.ev rfl rfl (Ev.move rfl) ?_
          refine RT.no rfl rfl rfl (rfl) rfl ?_
          refine RT.no rfl rfl rfl (rfl) rfl ?_
          refine RT.ev rfl rfl (Ev.pickY rfl (rfl) rfl) ?_
          refine RT.nil ?_
          refine CW.condT rfl (rfl) ?_
          refine CW.seq ?_
          refine CW.region ?_
          refine RT.ev rfl rfl (Ev.assign rfl) ?_
          refine RT.nil ?_
          refine CW.ret ?_
          show PostK _ _ _ _ _ _
          refine post1 rfl rfl ?_
          have hs_65 : Sat w [] w_45 := hs_64.sub ((.cons _ (.cons _ (.cons _ (.cons _ (.cons _ .slnil))))))
          exact ⟨rfl, hs_65⟩
        · refine RT.yes rfl rfl rfl (by simpa using hg_6) ?_
          refine RT.ev rfl rfl (Ev.move rfl) ?_
          refine RT.yes rfl rfl rfl (by simpa using hg_6) ?_
          refine RT.ev rfl rfl (Ev.neqN (b := 0) rfl rfl) ?_
          refine RT.ev rfl rfl (Ev.pickN rfl (by simpa using hg_6) rfl) ?_
          refine RT.ev rfl rfl (Ev.move rfl) ?_
          refine RT.no rfl rfl rfl (decide_eq_true (fun h9 => he (by omega))) rfl ?_
          refine RT.no rfl rfl rfl (decide_eq_true (fun h9 => he (by omega))) rfl ?_
          refine RT.ev rfl rfl (Ev.pickY rfl (decide_eq_true (fun h9 => he (by omega))) rfl) ?_
          refine RT.nil ?_
          refine CW.condT rfl (rfl) ?_
          refine CW.seq ?_
          refine CW.region ?_
          refine RT.ev rfl rfl (Ev.assign rfl) ?_
          refine RT.nil ?_
          refine CW.ret ?_
          show PostK _ _ _ _ _ _
          refine post1 rfl rfl ?_
          have hs_66 : Sat w [] w_45 := hs_64.sub ((.cons _ (.cons _ (.cons _ (.cons _ (.cons _ .slnil))))))
          exact ⟨rfl, hs_66⟩
    · refine CW.region ?_
      refine RT.ev rfl rfl (Ev.move rfl) ?_
      refine RT.eff rfl rfl (OpE.call ent32 rfl ((lbuild_err (hu.ext hs_60.ext) he2).mono fun r_42 w_46 h_42 => ?_))
      obtain ⟨rfl, hp_42⟩ := h_42
      have hs_67 : Sat w [] _ := hs_60.adds hp_42
      refine RT.ev rfl rfl (Ev.move rfl) ?_
      refine RT.ev rfl rfl (Ev.extract rfl rfl) ?_
      refine RT.ev rfl rfl (Ev.extract rfl rfl) ?_
      refine RT.ev rfl rfl (Ev.extract rfl rfl) ?_
      refine RT.ev rfl rfl (Ev.assign rfl) ?_
      refine RT.ev rfl rfl (Ev.assign rfl) ?_
      refine RT.ev rfl rfl (Ev.assign rfl) ?_
      refine RT.nil ?_
      refine CW.seq ?_
      refine CW.seq ?_
      refine CW.region ?_
      refine RT.ev rfl rfl (Ev.move rfl) ?_
      refine RT.eff rfl rfl (OpE.call ent35 rfl ((long80_ok _ _ _ (hv.ext hs_67.ext) (by assumption)).mono fun r_43 w_47 h_43 => ?_))
      obtain ⟨⟨lb_7, rfl, hlg_7⟩, hp_43⟩ := h_43
      have hs_68 : Sat w [] _ := hs_67.adds hp_43
      refine RT.ev rfl rfl (Ev.move rfl) ?_
      by_cases hg_7 : lb_7 = true
      · refine RT.no rfl rfl rfl (hg_7) rfl ?_
        refine RT.no rfl rfl rfl (hg_7) rfl ?_
        refine RT.ev rfl rfl (Ev.pickY rfl (hg_7) rfl) ?_
        refine RT.ev rfl rfl (Ev.move rfl) ?_
        refine RT.no rfl rfl rfl (rfl) rfl ?_
        refine RT.no rfl rfl rfl (rfl) rfl ?_
        refine RT.ev rfl rfl (Ev.pickY rfl (rfl) rfl) ?_
        refine RT.ev rfl rfl (Ev.move rfl) ?_
        refine RT.no rfl rfl rfl (rfl) rfl ?_
        refine RT.no rfl rfl rfl (rfl) rfl ?_
        refine RT.ev rfl rfl (Ev.pickY rfl (rfl) rfl) ?_
        refine RT.nil ?_
        refine CW.condT rfl (rfl) ?_
        refine CW.seq ?_
        refine CW.region ?_
        refine RT.ev rfl rfl (Ev.assign rfl) ?_
        refine RT.nil ?_
        refine CW.ret ?_
        show PostK _ _ _ _ _ _
        refine post1 rfl rfl ?_
        have hs_69 : Sat w [] w_47 := hs_68.sub (.slnil)
        exact ⟨rfl, hs_69⟩
      · refine RT.yes rfl rfl rfl (by simpa using hg_7) ?_
        refine RT.ev rfl rfl (Ev.move rfl) ?_
        refine RT.yes rfl rfl rfl (by simpa using hg_7) ?_
        refine RT.eff rfl rfl (OpE.call ent35 rfl ((long80_ok _ _ _ (hu.ext hs_68.ext) (by assumption)).mono fun r_44 w_48 h_44 => ?_))
        obtain ⟨⟨lb_8, rfl, hlg_8⟩, hp_44⟩ := h_44
        have hs_70 : Sat w [] _ := hs_68.adds hp_44
        refine RT.ev rfl rfl (Ev.pickN rfl (by simpa using hg_7) rfl) ?_
        refine RT.ev rfl rfl (Ev.move rfl) ?_
        by_cases hg_8 : lb_8 = true
        · refine RT.no rfl rfl rfl (hg_8) rfl ?_
          refine RT.no rfl rfl rfl (hg_8) rfl ?_
          refine RT.ev rfl rfl (Ev.pickY rfl (hg_8) rfl) ?_
          refine RT.ev rfl rfl (Ev.move rfl) ?_
          refine RT.no rfl rfl rfl (rfl) rfl ?_
          refine RT.no rfl rfl rfl (rfl) rfl ?_
          refine RT.ev rfl rfl (Ev.pickY rfl (rfl) rfl) ?_
          refine RT.nil ?_
          refine CW.condT rfl (rfl) ?_
          refine CW.seq ?_
          refine CW.region ?_
          refine RT.ev rfl rfl (Ev.assign rfl) ?_
          refine RT.nil ?_
          refine CW.ret ?_
          show PostK _ _ _ _ _ _
          refine post1 rfl rfl ?_
          have hs_71 : Sat w [] w_48 := hs_70.sub (.slnil)
          exact ⟨rfl, hs_71⟩
        · refine RT.yes rfl rfl rfl (by simpa using hg_8) ?_
          refine RT.ev rfl rfl (Ev.move rfl) ?_
          refine RT.yes rfl rfl rfl (by simpa using hg_8) ?_
          refine RT.ev rfl rfl (Ev.neqN (b := 0) rfl rfl) ?_
          refine RT.ev rfl rfl (Ev.pickN rfl (by simpa using hg_8) rfl) ?_
          refine RT.ev rfl rfl (Ev.move rfl) ?_
          refine RT.no rfl rfl rfl (decide_eq_true (fun h9 => he (by omega))) rfl ?_
          refine RT.no rfl rfl rfl (decide_eq_true (fun h9 => he (by omega))) rfl ?_
          refine RT.ev rfl rfl (Ev.pickY rfl (decide_eq_true (fun h9 => he (by omega))) rfl) ?_
          refine RT.nil ?_
          refine CW.condT rfl (rfl) ?_
          refine CW.seq ?_
          refine CW.region ?_
          refine RT.ev rfl rfl (Ev.assign rfl) ?_
          refine RT.nil ?_
          refine CW.ret ?_
          show PostK _ _ _ _ _ _
          refine post1 rfl rfl ?_
          have hs_72 : Sat w [] w_48 := hs_70.sub (.slnil)
          exact ⟨rfl, hs_72⟩

end Go.Proofs.Ytfhbflhnelbkfaa
