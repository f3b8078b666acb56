/- The walks of the functions of F16r, printed by our own program (kwgen.py) out of our descriptions (base.py). -/
import Derived.Test.YtfhbflhnelbkfaaF14t
import Derived.Test.YtfhbflhnelbkfaaTab
namespace Go.Proofs.Ytfhbflhnelbkfaa
open Go.RowKit Go.Kw
set_option maxRecDepth 100000
set_option linter.unusedVariables false
set_option linter.unusedSimpArgs false
theorem unpack_ok (v : Value) (b s : List Nat) (w : World) (hv : RdL w v (encN .u8) b) (hb : ∀ x ∈ b, x < 256) (hn : b.length ≤ 1000000000) (h : unpk b = some s) : CallsV Try.prog 96 [v] w fun r w' => ∃ v', r = .tuple #[v', .int .i64 ((0 : Nat) : Int)] ∧ Sat w [cL v' 3 (encN .i64) s] w' := by
  refine (unpack_all v b w hv hb hn).mono ?_
  rintro r w' (⟨l, v', h1, h2, h3⟩ | ⟨h1, _⟩)
  · rw [h] at h1; cases h1; exact ⟨v', h2, h3⟩
  · rw [h] at h1; cases h1
theorem hdecode_ok (v u : Value) (l b s : List Nat) (bits count : Nat) (w : World) (hv : RdL w v (encN .i64) l) (hu : RdL w u (encN .u8) b) (hn : l.length ≤ 1024) (hval : validB l = true) (hb : ∀ x ∈ b, x < 256) (hbits : bits ≤ 8 * b.length) (hbl : b.length ≤ 1000000) (hcount : count ≤ 4096) (h : hdec l b bits count = some s) :
    CallsV Try.prog 97 [v, u, .int .i64 (bits : Int), .int .i64 (count : Int)] w fun r w' => ∃ v', r = .tuple #[v', .int .i64 ((0 : Nat) : Int)] ∧ Sat w [cL v' 3 (encN .i64) s] w' := by
  refine (hdecode_all v u l b bits count w hv hu hn hval hb hbits hbl hcount).mono ?_
  rintro r w' (⟨s2, v', h1, h2, h3⟩ | ⟨h1, _⟩)
  · rw [h] at h1; cases h1; exact ⟨v', h2, h3⟩
  · rw [h] at h1; cases h1

theorem ssize_ok (g n k : Nat) (w : World) (h0 : w.cell? ⟨g, 0, none⟩ = some (.int .i64 (n : Int))) (hk : 64 * k ≤ n) (hn : n ≤ 1000000) :
    CallsV Try.prog 98 [(Value.pointer (some ⟨g, 0, none⟩)), (Value.int .i64 ((k : Nat) : Int))] w fun r w' => r = .int .i64 ((min 64 (n - k * 64) : Nat) : Int) ∧ Sat w [] w' := by
  have hs0 := Sat.start w
  refine callsV_of Try.func98 rfl rfl ?_
  refine CW.seq ?_
  refine CW.region ?_
  refine RT.ev rfl rfl (Ev.assign rfl) ?_
  refine RT.nil ?_
  refine CW.seq ?_
  refine CW.region ?_
  refine RT.ev rfl rfl (Ev.move rfl) <| RT.ev rfl rfl (Ev.nilCheck rfl) <| RT.ev rfl rfl (Ev.fieldAddr fld79_0 rfl rfl) <| RT.ev rfl rfl (Ev.load scal3 rfl (hs0.ext _ _ h0)) <| RT.ev rfl rfl (Ev.move rfl) <| RT.ev rfl rfl (Ev.mulI (b := 64) rfl rfl (by omega)) <| RT.ev rfl rfl (Ev.subI rfl rfl (by omega) (by omega)) <| RT.ev rfl rfl (Ev.minN (a := 64) rfl rfl) <| RT.ev rfl rfl (Ev.assign rfl) ?_
  refine RT.nil ?_
  refine CW.ret ?_
  show PostK _ _ _ _ _ _
  refine post1 rfl rfl ?_
  exact ⟨rfl, hs0⟩

set_option maxHeartbeats 1000000 in
theorem sdecode_ok (w0 w : World) (cs : List Chunk) (g : Nat) (lv bv kv : Value) (l blk : List Nat) (ps : List Pt) (last : Nat) (hs : Sat w0 ([cObj g 79 [(Value.int .i64 ((l.length : Nat) : Int)), (Value.int .i64 (((kindN l) : Nat) : Int)), lv, bv, (Value.int .i64 ((last : Nat) : Int)), kv], cL lv 3 (encN .i64) (lensK l), cL bv 124 (encPt) (ps), cParts (ps), cL kv 3 (encN .i64) (blk)] ++ cs) w) (hl : OkN l) (hps : ptsOf ps = ptsK l) (hca : CacheOk l last blk) (k : Nat) (hk : k < nbk l.length) :
    CallsV Try.prog 58 [(Value.pointer (some ⟨g, 0, none⟩)), (Value.int .i64 ((k : Nat) : Int))] w fun r w' => Sat w0 ([cObj g 79 [(Value.int .i64 ((l.length : Nat) : Int)), (Value.int .i64 (((kindN l) : Nat) : Int)), lv, bv, (Value.int .i64 (((k + 1) : Nat) : Int)), r], cL lv 3 (encN .i64) (lensK l), cL bv 124 (encPt) (ps), cParts (ps), cL r 3 (encN .i64) (chk l k)] ++ cs) w' := by
  have hnl := hl.len
  have hnb : nbk l.length ≤ 64 := by unfold nbk; omega
  have hk64 : 64 * k < l.length := by unfold nbk at hk; omega
  refine callsV_of Try.func58 rfl rfl ?_
  refine CW.seq ?_
  refine CW.region ?_
  refine RT.ev rfl rfl (Ev.assign rfl) ?_
  refine RT.nil ?_
  refine CW.seq ?_
  refine CW.seq ?_
  refine CW.region ?_
  refine RT.ev rfl rfl (Ev.move rfl) <| RT.ev rfl rfl (Ev.nilCheck rfl) <| RT.ev rfl rfl (Ev.fieldAddr fld79_4 rfl rfl) <| RT.ev rfl rfl (Ev.load scal3 rfl (hs.cell (i := 0) (j := 4) rfl rfl)) <| RT.ev rfl rfl (Ev.move rfl) <| RT.ev rfl rfl (Ev.addI (b := 1) rfl rfl (by omega)) <| RT.ev rfl rfl (Ev.eqlN rfl rfl) ?_
  refine RT.nil ?_
  refine CW.condD rfl (fun hc_1 => ?_) (fun hc_1 => ?_)
  · refine CW.seq ?_
    refine CW.region ?_
    refine RT.ev rfl rfl (Ev.move rfl) <| RT.ev rfl rfl (Ev.nilCheck rfl) <| RT.ev rfl rfl (Ev.fieldAddr fld79_5 rfl rfl) <| RT.ev rfl rfl (Ev.load scal22 rfl (hs.cell (i := 0) (j := 5) rfl rfl)) <| RT.ev rfl rfl (Ev.assign rfl) ?_
    refine RT.nil ?_
    refine CW.ret ?_
    show PostK _ _ _ _ _ _
    refine post1 rfl rfl ?_
    have hca2 := hca
    rw [hc_1] at hca2
    have hs_1 : Sat w0 ([cObj g 79 [(Value.int .i64 ((l.length : Nat) : Int)), (Value.int .i64 (((kindN l) : Nat) : Int)), lv, bv, (Value.int .i64 ((last : Nat) : Int)), kv], cL lv 3 (encN .i64) (lensK l), cL bv 124 (encPt) (ps), cParts (ps), cL kv 3 (encN .i64) (chk l k)] ++ cs) w := by
      have hq : blk = chk l k := hca2.hit
      rw [← hq]; exact hs
    have hs_2 : Sat w0 ([cObj g 79 [(Value.int .i64 ((l.length : Nat) : Int)), (Value.int .i64 (((kindN l) : Nat) : Int)), lv, bv, (Value.int .i64 (((k + 1) : Nat) : Int)), kv], cL lv 3 (encN .i64) (lensK l), cL bv 124 (encPt) (ps), cParts (ps), cL kv 3 (encN .i64) (chk l k)] ++ cs) w := by have hq := hs_1; rw [hc_1] at hq; exact hq
    exact hs_2
  · refine CW.skip ?_
    refine CW.seq ?_
    refine CW.region ?_
    refine RT.ev rfl rfl (Ev.assign rfl) ?_
    refine RT.nil ?_
    refine CW.seq ?_
    refine CW.seq ?_
    refine CW.region ?_
    refine RT.ev rfl rfl (Ev.move rfl) <| RT.ev rfl rfl (Ev.nilCheck rfl) <| RT.ev rfl rfl (Ev.fieldAddr fld79_1 rfl rfl) <| RT.ev rfl rfl (Ev.load scal3 rfl (hs.cell (i := 0) (j := 1) rfl rfl)) <| RT.ev rfl rfl (Ev.eqlN (b := 0) rfl rfl) ?_
    refine RT.nil ?_
    refine CW.condD rfl (fun hc_2 => ?_) (fun hc_2 => ?_)
    · obtain ⟨x, hx, hxe⟩ := ptsK_get hps hk
      rw [if_neg (by omega)] at hxe
      have hxb : x.bys = packBk (chk l k) := congrArg Prod.fst hxe
      have hcl := chk_length l k
      have hpk := packBk_len (chk l k) (by omega)
      have hkp := lt_of_get hx
      refine CW.region ?_
      refine RT.ev rfl rfl (Ev.move rfl) <| RT.ev rfl rfl (Ev.nilCheck rfl) <| RT.ev rfl rfl (Ev.fieldAddr fld79_3 rfl rfl) <| RT.ev rfl rfl (Ev.load scal77 rfl (hs.cell (i := 0) (j := 3) rfl rfl)) <| RT.ev rfl rfl (Ev.move rfl) <| RT.ev rfl rfl (Ev.idxL (E := encPt) sl77 rfl rfl (hs.rdL 2 rfl) (lt_of_get hx)) <| RT.ev rfl rfl (Ev.fldL (E := encPt) fld124_0 rfl (hs.rdL 2 rfl) (by omega) (by decide)) <| RT.ev rfl rfl (Ev.ldLF (E := encPt) scal40 rfl (hs.rdL 2 rfl) hx (by decide) rfl) ?_
      refine RT.eff rfl rfl (OpE.call ent96 rfl ((unpack_ok _ (x.bys) (chk l k) _ (hs.rdParts 3 rfl x (mem_of_get hx)) (by rw [hxb]; exact encBk_lt _ _) (by rw [hxb]; omega) (by rw [hxb]; exact unpk_pack (by omega) (fun y hy => by have := hl.lt y (chk_mem hy); omega))).mono fun r_1 w_1 h_1 => ?_))
      obtain ⟨uv_1, rfl, hp_1⟩ := h_1
      have hs_3 : Sat w0 ([cObj g 79 [(Value.int .i64 ((l.length : Nat) : Int)), (Value.int .i64 (((kindN l) : Nat) : Int)), lv, bv, (Value.int .i64 ((last : Nat) : Int)), kv], cL lv 3 (encN .i64) (lensK l), cL bv 124 (encPt) (ps), cParts (ps), cL kv 3 (encN .i64) (blk), cL uv_1 3 (encN .i64) (chk l k)] ++ cs) _ := (hs.adds hp_1).mid
      refine RT.ev rfl rfl (Ev.move rfl) <| RT.ev rfl rfl (Ev.extract rfl rfl) <| RT.ev rfl rfl (Ev.extract rfl rfl) <| RT.ev rfl rfl (Ev.assign rfl) ?_
      refine RT.nil ?_
      refine CW.seq ?_
      refine CW.region ?_
      refine RT.ev rfl rfl (Ev.move rfl) <| RT.ev rfl rfl (Ev.move rfl) <| RT.ev rfl rfl (Ev.move rfl) <| RT.ev rfl rfl (Ev.addI (b := 1) rfl rfl (by omega)) <| RT.ev rfl rfl (Ev.move rfl) <| RT.ev rfl rfl (Ev.nilCheck rfl) <| RT.ev rfl rfl (Ev.fieldAddr fld79_4 rfl rfl) ?_
      refine RT.eff rfl rfl (OpE.storeObj one3 hs_3 (i := 0) rfl rfl rfl (rfl) rfl fun w_2 hs_4 hch_1 => ?_)
      have hs_4d : Sat w0 ([cObj g 79 [(Value.int .i64 ((l.length : Nat) : Int)), (Value.int .i64 (((kindN l) : Nat) : Int)), lv, bv, (Value.int .i64 (((k + 1) : Nat) : Int)), kv], cL lv 3 (encN .i64) (lensK l), cL bv 124 (encPt) (ps), cParts (ps), cL kv 3 (encN .i64) (blk), cL uv_1 3 (encN .i64) (chk l k)] ++ cs) _ := hs_4
      refine RT.ev rfl rfl (Ev.nilCheck rfl) <| RT.ev rfl rfl (Ev.fieldAddr fld79_5 rfl rfl) ?_
      refine RT.eff rfl rfl (OpE.storeObj one22 hs_4d (i := 0) rfl rfl rfl ((hs_4d.rdL 5 rfl).oneCell) rfl fun w_3 hs_5 hch_2 => ?_)
      have hs_5d : Sat w0 ([cObj g 79 [(Value.int .i64 ((l.length : Nat) : Int)), (Value.int .i64 (((kindN l) : Nat) : Int)), lv, bv, (Value.int .i64 (((k + 1) : Nat) : Int)), uv_1], cL lv 3 (encN .i64) (lensK l), cL bv 124 (encPt) (ps), cParts (ps), cL kv 3 (encN .i64) (blk), cL uv_1 3 (encN .i64) (chk l k)] ++ cs) _ := hs_5
      refine RT.nil ?_
      refine CW.seq ?_
      refine CW.region ?_
      refine RT.ev rfl rfl (Ev.move rfl) <| RT.ev rfl rfl (Ev.assign rfl) ?_
      refine RT.nil ?_
      refine CW.ret ?_
      show PostK _ _ _ _ _ _
      refine post1 rfl rfl ?_
      have hs_6 : Sat w0 ([cObj g 79 [(Value.int .i64 ((l.length : Nat) : Int)), (Value.int .i64 (((kindN l) : Nat) : Int)), lv, bv, (Value.int .i64 (((k + 1) : Nat) : Int)), uv_1], cL lv 3 (encN .i64) (lensK l), cL bv 124 (encPt) (ps), cParts (ps), cL uv_1 3 (encN .i64) (chk l k)] ++ cs) w_3 := hs_5d.sub ((.cons_cons _ (.cons_cons _ (.cons_cons _ (.cons_cons _ (.cons _ (.cons_cons _ (.refl _))))))))
      exact hs_6
    · obtain ⟨x, hx, hxe⟩ := ptsK_get hps hk
      have hk1 : kindN l = 1 := by have := kindN_le l; omega
      rw [if_pos hk1] at hxe
      have hxb : x.bys = packB (hufB (symL l) (chk l k)) := congrArg Prod.fst hxe
      have hxn : x.bits = (hufB (symL l) (chk l k)).length := congrArg Prod.snd hxe
      have hkp := lt_of_get hx
      have hcl := chk_length l k
      have hlk : lensK l = symL l := by unfold lensK; rw [if_pos hk1]
      have hok := symL_ok l hl.mx
      have hhl := hufB_length (GoodLens.of_ok hok) (chk l k)
      refine CW.draw (fun w' => Sat w0 ([cObj g 79 [(Value.int .i64 ((l.length : Nat) : Int)), (Value.int .i64 (((kindN l) : Nat) : Int)), lv, bv, (Value.int .i64 ((last : Nat) : Int)), kv], cL lv 3 (encN .i64) (lensK l), cL bv 124 (encPt) (ps), cParts (ps), cL kv 3 (encN .i64) (blk)] ++ cs) w') (.free 0 (.free 1 (.free 2 (.free 3 (.free 4 (.free 5 (.free 6 (.free 7 (.free 8 (.free 9 (.free 10 (.free 11 (.free 12 (.free 13 (.free 14 (.free 15 (.free 16 (.free 17 (.free 18 (.free 19 (.free 20 (.free 21 (.one 22 (.one 23 (.free 24 (.free 25 (.free 26 (.free 27 .fin)))))))))))))))))))))))))))) mixed (by kernel_rfl) ?_
      have hs_7 := hs.drew
      refine RP.ev rfl rfl rfl (fun w' hS' => Ev.move rfl) hs_7 ?_
      refine RP.ev rfl rfl rfl (fun w' hS' => Ev.nilCheck rfl) hs_7 ?_
      refine RP.ev rfl rfl rfl (fun w' hS' => Ev.fieldAddr fld79_2 rfl rfl) hs_7 ?_
      refine RP.ev rfl rfl rfl (fun w' hS' => Ev.load scal22 rfl (hS'.cell (i := 0) (j := 2) rfl rfl)) hs_7 ?_
      refine RP.ev rfl rfl rfl (fun w' hS' => Ev.move rfl) hs_7 ?_
      refine RP.ev rfl rfl rfl (fun w' hS' => Ev.nilCheck rfl) hs_7 ?_
      refine RP.ev rfl rfl rfl (fun w' hS' => Ev.fieldAddr fld79_3 rfl rfl) hs_7 ?_
      refine RP.ev rfl rfl rfl (fun w' hS' => Ev.load scal77 rfl (hS'.cell (i := 0) (j := 3) rfl rfl)) hs_7 ?_
      refine RP.ev rfl rfl rfl (fun w' hS' => Ev.move rfl) hs_7 ?_
      refine RP.ev rfl rfl rfl (fun w' hS' => Ev.idxL (E := encPt) sl77 rfl rfl (hS'.rdL 2 rfl) (lt_of_get hx)) hs_7 ?_
      refine RP.ev rfl rfl rfl (fun w' hS' => Ev.fldL (E := encPt) fld124_0 rfl (hS'.rdL 2 rfl) (by omega) (by decide)) hs_7 ?_
      refine RP.ev rfl rfl rfl (fun w' hS' => Ev.ldLF (E := encPt) scal40 rfl (hS'.rdL 2 rfl) hx (by decide) rfl) hs_7 ?_
      refine RP.ev rfl rfl rfl (fun w' hS' => Ev.move rfl) hs_7 ?_
      refine RP.ev rfl rfl rfl (fun w' hS' => Ev.nilCheck rfl) hs_7 ?_
      refine RP.ev rfl rfl rfl (fun w' hS' => Ev.fieldAddr fld79_3 rfl rfl) hs_7 ?_
      refine RP.ev rfl rfl rfl (fun w' hS' => Ev.load scal77 rfl (hS'.cell (i := 0) (j := 3) rfl rfl)) hs_7 ?_
      refine RP.ev rfl rfl rfl (fun w' hS' => Ev.move rfl) hs_7 ?_
      refine RP.ev rfl rfl rfl (fun w' hS' => Ev.idxL (E := encPt) sl77 rfl rfl (hS'.rdL 2 rfl) (lt_of_get hx)) hs_7 ?_
      refine RP.ev rfl rfl rfl (fun w' hS' => Ev.fldL (E := encPt) fld124_1 rfl (hS'.rdL 2 rfl) (by omega) (by decide)) hs_7 ?_
      refine RP.ev rfl rfl rfl (fun w' hS' => Ev.ldLF (E := encPt) scal3 rfl (hS'.rdL 2 rfl) hx (by decide) rfl) hs_7 ?_
      refine RP.ev rfl rfl rfl (fun w' hS' => Ev.move rfl) hs_7 ?_
      refine RP.ev rfl rfl rfl (fun w' hS' => Ev.move rfl) hs_7 ?_
      refine RP.eff rfl rfl rfl (OpE.call ent98 rfl ((ssize_ok _ (l.length) (k) _ (hs_7.cell (i := 0) (j := 0) rfl rfl) (by omega) (by omega)).mono fun r_2 w_4 h_2 => ?_))
      obtain ⟨rfl, hp_2⟩ := h_2
      have hs_8 : Sat w0 ([cObj g 79 [(Value.int .i64 ((l.length : Nat) : Int)), (Value.int .i64 (((kindN l) : Nat) : Int)), lv, bv, (Value.int .i64 ((last : Nat) : Int)), kv], cL lv 3 (encN .i64) (lensK l), cL bv 124 (encPt) (ps), cParts (ps), cL kv 3 (encN .i64) (blk)] ++ cs) _ := (hs_7.adds hp_2).mid
      have hS_1 : Sat w0 ([cObj g 79 [(Value.int .i64 ((l.length : Nat) : Int)), (Value.int .i64 (((kindN l) : Nat) : Int)), lv, bv, (Value.int .i64 ((last : Nat) : Int)), kv], cL lv 3 (encN .i64) (lensK l), cL bv 124 (encPt) (ps), cParts (ps), cL kv 3 (encN .i64) (blk)] ++ cs) _ := hs_8.sub ((.cons_cons _ (.cons_cons _ (.cons_cons _ (.cons_cons _ (.cons_cons _ (.refl _)))))))
      refine ⟨hS_1, ?_⟩
      refine RP.eff rfl rfl rfl (OpE.call ent97 rfl ((hdecode_ok _ _ (lensK l) (x.bys) (chk l k) (x.bits) ((min 64 (l.length - k * 64))) _ (hs_8.rdL 1 rfl) (hs_8.rdParts 3 rfl x (mem_of_get hx)) (lensK_len hl) (by rw [hlk]; exact validB_ok hok) (by rw [hxb]; exact packB_lt _) (by rw [hxn, hxb, packB_length]; omega) (by rw [hxb, packB_length]; omega) (by omega) (by rw [hlk, hxb, hxn, show min 64 (l.length - k * 64) = (chk l k).length by rw [hcl]; omega]; exact hdec_ok (GoodLens.of_ok hok) _ (fun y hy => (symL_pos hl.mx y (chk_mem hy)).2))).mono fun r_3 w_5 h_3 => ?_))
      obtain ⟨dv_1, rfl, hp_3⟩ := h_3
      have hs_9 : Sat w0 ([cObj g 79 [(Value.int .i64 ((l.length : Nat) : Int)), (Value.int .i64 (((kindN l) : Nat) : Int)), lv, bv, (Value.int .i64 ((last : Nat) : Int)), kv], cL lv 3 (encN .i64) (lensK l), cL bv 124 (encPt) (ps), cParts (ps), cL kv 3 (encN .i64) (blk), cL dv_1 3 (encN .i64) (chk l k)] ++ cs) _ := (hs_8.adds hp_3).mid
      have hS_2 : Sat w0 ([cObj g 79 [(Value.int .i64 ((l.length : Nat) : Int)), (Value.int .i64 (((kindN l) : Nat) : Int)), lv, bv, (Value.int .i64 ((last : Nat) : Int)), kv], cL lv 3 (encN .i64) (lensK l), cL bv 124 (encPt) (ps), cParts (ps), cL kv 3 (encN .i64) (blk)] ++ cs) _ := hs_9.sub ((.cons_cons _ (.cons_cons _ (.cons_cons _ (.cons_cons _ (.cons_cons _ (.cons _ (.refl _))))))))
      refine ⟨hS_2, ?_⟩
      refine RP.ev rfl rfl rfl (fun w' hS' => Ev.move rfl) hS_2 ?_
      refine RP.ev rfl rfl rfl (fun w' hS' => Ev.extract rfl rfl) hS_2 ?_
      refine RP.ev rfl rfl rfl (fun w' hS' => Ev.extract rfl rfl) hS_2 ?_
      refine RP.ev rfl rfl rfl (fun w' hS' => Ev.assign rfl) hS_2 ?_
      refine RP.fin ?_
      refine CW.seq ?_
      refine CW.weaken [(0, _), (1, _), (4, _), (5, _), (12, _), (21, _)] ⟨rfl, rfl, rfl, rfl, rfl, rfl, trivial⟩ ?_
      refine CW.region ?_
      refine RT.ev rfl rfl (Ev.move rfl) <| RT.ev rfl rfl (Ev.move rfl) <| RT.ev rfl rfl (Ev.move rfl) <| RT.ev rfl rfl (Ev.addI (b := 1) rfl rfl (by omega)) <| RT.ev rfl rfl (Ev.move rfl) <| RT.ev rfl rfl (Ev.nilCheck rfl) <| RT.ev rfl rfl (Ev.fieldAddr fld79_4 rfl rfl) ?_
      refine RT.eff rfl rfl (OpE.storeObj one3 hs_9 (i := 0) rfl rfl rfl (rfl) rfl fun w_6 hs_10 hch_3 => ?_)
      have hs_10d : Sat w0 ([cObj g 79 [(Value.int .i64 ((l.length : Nat) : Int)), (Value.int .i64 (((kindN l) : Nat) : Int)), lv, bv, (Value.int .i64 (((k + 1) : Nat) : Int)), kv], cL lv 3 (encN .i64) (lensK l), cL bv 124 (encPt) (ps), cParts (ps), cL kv 3 (encN .i64) (blk), cL dv_1 3 (encN .i64) (chk l k)] ++ cs) _ := hs_10
      refine RT.ev rfl rfl (Ev.nilCheck rfl) <| RT.ev rfl rfl (Ev.fieldAddr fld79_5 rfl rfl) ?_
      refine RT.eff rfl rfl (OpE.storeObj one22 hs_10d (i := 0) rfl rfl rfl ((hs_10d.rdL 5 rfl).oneCell) rfl fun w_7 hs_11 hch_4 => ?_)
      have hs_11d : Sat w0 ([cObj g 79 [(Value.int .i64 ((l.length : Nat) : Int)), (Value.int .i64 (((kindN l) : Nat) : Int)), lv, bv, (Value.int .i64 (((k + 1) : Nat) : Int)), dv_1], cL lv 3 (encN .i64) (lensK l), cL bv 124 (encPt) (ps), cParts (ps), cL kv 3 (encN .i64) (blk), cL dv_1 3 (encN .i64) (chk l k)] ++ cs) _ := hs_11
      refine RT.nil ?_
      refine CW.seq ?_
      refine CW.region ?_
      refine RT.ev rfl rfl (Ev.move rfl) <| RT.ev rfl rfl (Ev.assign rfl) ?_
      refine RT.nil ?_
      refine CW.ret ?_
      show PostK _ _ _ _ _ _
      refine post1 rfl rfl ?_
      have hs_12 : Sat w0 ([cObj g 79 [(Value.int .i64 ((l.length : Nat) : Int)), (Value.int .i64 (((kindN l) : Nat) : Int)), lv, bv, (Value.int .i64 (((k + 1) : Nat) : Int)), dv_1], cL lv 3 (encN .i64) (lensK l), cL bv 124 (encPt) (ps), cParts (ps), cL dv_1 3 (encN .i64) (chk l k)] ++ cs) w_7 := hs_11d.sub ((.cons_cons _ (.cons_cons _ (.cons_cons _ (.cons_cons _ (.cons _ (.cons_cons _ (.refl _))))))))
      exact hs_12

set_option maxHeartbeats 1000000 in
theorem sat_ok (w0 w : World) (cs : List Chunk) (g : Nat) (lv bv kv : Value) (l blk : List Nat) (ps : List Pt) (last : Nat) (hs : Sat w0 ([cObj g 79 [(Value.int .i64 ((l.length : Nat) : Int)), (Value.int .i64 (((kindN l) : Nat) : Int)), lv, bv, (Value.int .i64 ((last : Nat) : Int)), kv], cL lv 3 (encN .i64) (lensK l), cL bv 124 (encPt) (ps), cParts (ps), cL kv 3 (encN .i64) (blk)] ++ cs) w) (hl : OkN l) (hps : ptsOf ps = ptsK l) (hca : CacheOk l last blk) (i : Nat) (hi : i < l.length) :
    CallsV Try.prog 23 [(Value.pointer (some ⟨g, 0, none⟩)), (Value.int .i64 ((i : Nat) : Int))] w fun r w' => ∃ x, l[i]? = some x ∧ r = .tuple #[.int .i64 (x : Int), .bool true] ∧ ∃ last' kv' blk', CacheOk l last' blk' ∧ Sat w0 ([cObj g 79 [(Value.int .i64 ((l.length : Nat) : Int)), (Value.int .i64 (((kindN l) : Nat) : Int)), lv, bv, (Value.int .i64 ((last' : Nat) : Int)), kv'], cL lv 3 (encN .i64) (lensK l), cL bv 124 (encPt) (ps), cParts (ps), cL kv' 3 (encN .i64) (blk')] ++ cs) w' := by
  have hnl := hl.len
  refine callsV_of Try.func23 rfl rfl ?_
  refine CW.seq ?_
  refine CW.region ?_
  refine RT.ev rfl rfl (Ev.assign rfl) <| RT.ev rfl rfl (Ev.assign rfl) ?_
  refine RT.nil ?_
  refine CW.seq ?_
  refine CW.seq ?_
  refine CW.mid (fun L' w' => Weak [(0, (Value.pointer (some ⟨g, 0, none⟩))), (1, (Value.int .i64 ((i : Nat) : Int))), (4, (Value.int .i64 ((0 : Nat) : Int))), (5, (Value.bool false)), (15, (Value.bool (decide ((i < 0) ∨ (l.length ≤ i)))))] L' ∧ Sat w0 ([cObj g 79 [(Value.int .i64 ((l.length : Nat) : Int)), (Value.int .i64 (((kindN l) : Nat) : Int)), lv, bv, (Value.int .i64 ((last : Nat) : Int)), kv], cL lv 3 (encN .i64) (lensK l), cL bv 124 (encPt) (ps), cParts (ps), cL kv 3 (encN .i64) (blk)] ++ cs) w') ?_ ?_
  · refine CW.region ?_
    refine RT.ev rfl rfl (Ev.move rfl) <| RT.ev rfl rfl (Ev.lssN (b := 0) rfl rfl) <| RT.ev rfl rfl (Ev.move rfl) ?_
    by_cases hg_1 : i < 0
    · refine RT.no rfl rfl rfl (decide_eq_true hg_1) rfl ?_
      refine RT.no rfl rfl rfl (decide_eq_true hg_1) rfl ?_
      refine RT.no rfl rfl rfl (decide_eq_true hg_1) rfl ?_
      refine RT.no rfl rfl rfl (decide_eq_true hg_1) rfl ?_
      refine RT.no rfl rfl rfl (decide_eq_true hg_1) rfl ?_
      refine RT.no rfl rfl rfl (decide_eq_true hg_1) rfl ?_
      refine RT.ev rfl rfl (Ev.pickY rfl (decide_eq_true hg_1) rfl) ?_
      refine RT.nil ?_
      exact ⟨⟨rfl, rfl, rfl, rfl, congrArg some (congrArg Value.bool (by simp [hg_1])), trivial⟩, hs⟩
    · refine RT.yes rfl rfl rfl (decide_eq_false hg_1) ?_
      refine RT.ev rfl rfl (Ev.move rfl) ?_
      refine RT.yes rfl rfl rfl (decide_eq_false hg_1) ?_
      refine RT.ev rfl rfl (Ev.move rfl) ?_
      refine RT.yes rfl rfl rfl (decide_eq_false hg_1) ?_
      refine RT.ev rfl rfl (Ev.nilCheck rfl) ?_
      refine RT.yes rfl rfl rfl (decide_eq_false hg_1) ?_
      refine RT.ev rfl rfl (Ev.fieldAddr fld79_0 rfl rfl) ?_
      refine RT.yes rfl rfl rfl (decide_eq_false hg_1) ?_
      refine RT.ev rfl rfl (Ev.load scal3 rfl (hs.cell (i := 0) (j := 0) rfl rfl)) ?_
      refine RT.yes rfl rfl rfl (decide_eq_false hg_1) ?_
      refine RT.ev rfl rfl (Ev.geqN rfl rfl) <| RT.ev rfl rfl (Ev.pickN rfl (decide_eq_false hg_1) rfl) ?_
      refine RT.nil ?_
      exact ⟨⟨rfl, rfl, rfl, rfl, congrArg some (congrArg Value.bool (by simp [hg_1])), trivial⟩, hs⟩
  · rintro L' w_1 ⟨hw_1, hs_1⟩
    refine CW.weaken _ hw_1 ?_
    refine CW.condF rfl (decide_eq_false (by omega)) ?_
    refine CW.skip ?_
    refine CW.seq ?_
    obtain ⟨x, hx⟩ : ∃ x, l[i]? = some x := ⟨_, List.getElem?_eq_getElem hi⟩
    have hcx : (chk l (i / 64))[i % 64]? = some x := by rw [chk_get]; exact hx
    have hcl := lt_of_get hcx
    refine CW.region ?_
    refine RT.ev rfl rfl (Ev.move rfl) <| RT.ev rfl rfl (Ev.move rfl) <| RT.ev rfl rfl (Ev.quo (b := 64) rfl rfl (by omega) (by unfold inI64; omega)) ?_
    have hA_1 : Sat w0 ([cObj g 79 [(Value.int .i64 ((l.length : Nat) : Int)), (Value.int .i64 (((kindN l) : Nat) : Int)), lv, bv, (Value.int .i64 ((last : Nat) : Int)), kv], cL lv 3 (encN .i64) (lensK l), cL bv 124 (encPt) (ps), cParts (ps), cL kv 3 (encN .i64) (blk)] ++ ([] ++ cs)) _ := (Sat.order [0, 1, 2, 3, 4] (by decide) hs_1).cut 5
    refine RT.eff rfl rfl (OpE.call ent58 rfl ((sdecode_ok _ _ _ _ _ _ _ (l) (blk) (ps) (last) hA_1 (hl) (hps) (hca) ((i / 64)) (nbk_lt hi)).mono fun r_1 w_2 h_1 => ?_))
    have hs_2 : Sat w0 ([cObj g 79 [(Value.int .i64 ((l.length : Nat) : Int)), (Value.int .i64 (((kindN l) : Nat) : Int)), lv, bv, (Value.int .i64 ((((i / 64) + 1) : Nat) : Int)), r_1], cL lv 3 (encN .i64) (lensK l), cL bv 124 (encPt) (ps), cParts (ps), cL r_1 3 (encN .i64) (chk l (i / 64))] ++ cs) _ := h_1
    refine RT.ev rfl rfl (Ev.move rfl) <| RT.ev rfl rfl (Ev.rem (b := 64) rfl rfl (by omega)) <| RT.ev rfl rfl (Ev.idxL (E := encN .i64) sl22 rfl rfl (hs_2.rdL 4 rfl) (by omega)) <| RT.ev rfl rfl (Ev.ldL (E := encN .i64) scal3 rfl (hs_2.rdL 4 rfl) hcx (by decide) rfl) <| RT.ev rfl rfl (Ev.assign rfl) <| RT.ev rfl rfl (Ev.assign rfl) ?_
    refine RT.nil ?_
    refine CW.ret ?_
    show PostK _ _ _ _ _ _
    refine post2 rfl rfl rfl ?_
    exact ⟨x, hx, rfl, _, _, _, .now (nbk_lt hi), hs_2⟩

theorem sat_no (g n : Nat) (z : Int) (w : World) (h0 : w.cell? ⟨g, 0, none⟩ = some (.int .i64 (n : Int))) (hz : z < 0 ∨ (n : Int) ≤ z) :
    CallsV Try.prog 23 [(Value.pointer (some ⟨g, 0, none⟩)), (Value.int .i64 (z))] w fun r w' => r = .tuple #[.int .i64 ((0 : Nat) : Int), .bool false] ∧ Sat w [] w' := by
  have hs0 := Sat.start w
  refine callsV_of Try.func23 rfl rfl ?_
  refine CW.seq ?_
  refine CW.region ?_
  refine RT.ev rfl rfl (Ev.assign rfl) <| RT.ev rfl rfl (Ev.assign rfl) ?_
  refine RT.nil ?_
  refine CW.seq ?_
  refine CW.seq ?_
  refine CW.mid (fun L' w' => Weak [(0, (Value.pointer (some ⟨g, 0, none⟩))), (1, (Value.int .i64 (z))), (4, (Value.int .i64 ((0 : Nat) : Int))), (5, (Value.bool false)), (15, (Value.bool (decide (((z : Int) < (0 : Int)) ∨ (((n : Nat) : Int) ≤ (z : Int))))))] L' ∧ Sat w [] w') ?_ ?_
  · refine CW.region ?_
    refine RT.ev rfl rfl (Ev.move rfl) <| RT.ev rfl rfl (Ev.lss rfl rfl) <| RT.ev rfl rfl (Ev.move rfl) ?_
    by_cases hg_1 : (z : Int) < (0 : Int)
    · refine RT.no rfl rfl rfl (decide_eq_true hg_1) rfl ?_
      refine RT.no rfl rfl rfl (decide_eq_true hg_1) rfl ?_
      refine RT.no rfl rfl rfl (decide_eq_true hg_1) rfl ?_
      refine RT.no rfl rfl rfl (decide_eq_true hg_1) rfl ?_
      refine RT.no rfl rfl rfl (decide_eq_true hg_1) rfl ?_
      refine RT.no rfl rfl rfl (decide_eq_true hg_1) rfl ?_
      refine RT.ev rfl rfl (Ev.pickY rfl (decide_eq_true hg_1) rfl) ?_
      refine RT.nil ?_
      exact ⟨⟨rfl, rfl, rfl, rfl, congrArg some (congrArg Value.bool (by simp [hg_1])), trivial⟩, hs0⟩
    · refine RT.yes rfl rfl rfl (decide_eq_false hg_1) ?_
      refine RT.ev rfl rfl (Ev.move rfl) ?_
      refine RT.yes rfl rfl rfl (decide_eq_false hg_1) ?_
      refine RT.ev rfl rfl (Ev.move rfl) ?_
      refine RT.yes rfl rfl rfl (decide_eq_false hg_1) ?_
      refine RT.ev rfl rfl (Ev.nilCheck rfl) ?_
      refine RT.yes rfl rfl rfl (decide_eq_false hg_1) ?_
      refine RT.ev rfl rfl (Ev.fieldAddr fld79_0 rfl rfl) ?_
      refine RT.yes rfl rfl rfl (decide_eq_false hg_1) ?_
      refine RT.ev rfl rfl (Ev.load scal3 rfl (hs0.ext _ _ h0)) ?_
      refine RT.yes rfl rfl rfl (decide_eq_false hg_1) ?_
      refine RT.ev rfl rfl (Ev.geq rfl rfl) <| RT.ev rfl rfl (Ev.pickN rfl (decide_eq_false hg_1) rfl) ?_
      refine RT.nil ?_
      exact ⟨⟨rfl, rfl, rfl, rfl, congrArg some (congrArg Value.bool (by simp [hg_1])), trivial⟩, hs0⟩
  · rintro L' w_1 ⟨hw_1, hs_1⟩
    refine CW.weaken _ hw_1 ?_
    refine CW.condT rfl (decide_eq_true hz) ?_
    refine CW.seq ?_
    refine CW.region ?_
    refine RT.ev rfl rfl (Ev.assign rfl) <| RT.ev rfl rfl (Ev.assign rfl) ?_
    refine RT.nil ?_
    refine CW.ret ?_
    show PostK _ _ _ _ _ _
    refine post2 rfl rfl rfl ?_
    have hs_2 : Sat w [] w_1 := hs_1.sub (.slnil)
    exact ⟨rfl, hs_2⟩

set_option maxHeartbeats 1000000 in
theorem sslice_ok (w0 w : World) (cs : List Chunk) (g : Nat) (lv bv kv : Value) (l blk : List Nat) (ps : List Pt) (last : Nat) (hs : Sat w0 ([cObj g 79 [(Value.int .i64 ((l.length : Nat) : Int)), (Value.int .i64 (((kindN l) : Nat) : Int)), lv, bv, (Value.int .i64 ((last : Nat) : Int)), kv], cL lv 3 (encN .i64) (lensK l), cL bv 124 (encPt) (ps), cParts (ps), cL kv 3 (encN .i64) (blk)] ++ cs) w) (hl : OkN l) (hps : ptsOf ps = ptsK l) (hca : CacheOk l last blk) (a e : Nat) (hae : a ≤ e) (hel : e ≤ l.length) :
    CallsV Try.prog 25 [(Value.pointer (some ⟨g, 0, none⟩)), (Value.int .i64 ((a : Nat) : Int)), (Value.int .i64 ((e : Nat) : Int))] w fun r w' => ∃ v' last' kv' blk', r = .tuple #[v', .bool true] ∧ CacheOk l last' blk' ∧ Sat w0 ([cObj g 79 [(Value.int .i64 ((l.length : Nat) : Int)), (Value.int .i64 (((kindN l) : Nat) : Int)), lv, bv, (Value.int .i64 ((last' : Nat) : Int)), kv'], cL lv 3 (encN .i64) (lensK l), cL bv 124 (encPt) (ps), cParts (ps), cL kv' 3 (encN .i64) (blk'), cL v' 3 (encN .i64) ((l.take e).drop a)] ++ cs) w' := by
  have hnl := hl.len
  refine callsV_of Try.func25 rfl rfl ?_
  refine CW.seq ?_
  refine CW.region ?_
  refine RT.ev rfl rfl (Ev.assign rfl) <| RT.ev rfl rfl (Ev.assign rfl) ?_
  refine RT.nil ?_
  refine CW.seq ?_
  refine CW.seq ?_
  refine CW.mid (fun L' w' => Weak [(0, (Value.pointer (some ⟨g, 0, none⟩))), (1, (Value.int .i64 ((a : Nat) : Int))), (2, (Value.int .i64 ((e : Nat) : Int))), (6, (Value.slice none 0 0)), (7, (Value.bool false)), (26, (Value.bool (decide (((a < 0) ∨ (e < a)) ∨ (l.length < e)))))] L' ∧ Sat w0 ([cObj g 79 [(Value.int .i64 ((l.length : Nat) : Int)), (Value.int .i64 (((kindN l) : Nat) : Int)), lv, bv, (Value.int .i64 ((last : Nat) : Int)), kv], cL lv 3 (encN .i64) (lensK l), cL bv 124 (encPt) (ps), cParts (ps), cL kv 3 (encN .i64) (blk)] ++ cs) w') ?_ ?_
  · refine CW.region ?_
    refine RT.ev rfl rfl (Ev.move rfl) <| RT.ev rfl rfl (Ev.lssN (b := 0) rfl rfl) <| RT.ev rfl rfl (Ev.move rfl) ?_
    by_cases hg_1 : a < 0
    · refine RT.no rfl rfl rfl (decide_eq_true hg_1) rfl ?_
      refine RT.no rfl rfl rfl (decide_eq_true hg_1) rfl ?_
      refine RT.no rfl rfl rfl (decide_eq_true hg_1) rfl ?_
      refine RT.ev rfl rfl (Ev.pickY rfl (decide_eq_true hg_1) rfl) <| RT.ev rfl rfl (Ev.move rfl) ?_
      refine RT.no rfl rfl rfl (rfl) rfl ?_
      refine RT.no rfl rfl rfl (rfl) rfl ?_
      refine RT.no rfl rfl rfl (rfl) rfl ?_
      refine RT.no rfl rfl rfl (rfl) rfl ?_
      refine RT.no rfl rfl rfl (rfl) rfl ?_
      refine RT.no rfl rfl rfl (rfl) rfl ?_
      refine RT.ev rfl rfl (Ev.pickY rfl (rfl) rfl) ?_
      refine RT.nil ?_
      exact ⟨⟨rfl, rfl, rfl, rfl, rfl, congrArg some (congrArg Value.bool (by simp [hg_1])), trivial⟩, hs⟩
    · refine RT.yes rfl rfl rfl (decide_eq_false hg_1) ?_
      refine RT.ev rfl rfl (Ev.move rfl) ?_
      refine RT.yes rfl rfl rfl (decide_eq_false hg_1) ?_
      refine RT.ev rfl rfl (Ev.move rfl) ?_
      refine RT.yes rfl rfl rfl (decide_eq_false hg_1) ?_
      refine RT.ev rfl rfl (Ev.gtrN rfl rfl) <| RT.ev rfl rfl (Ev.pickN rfl (decide_eq_false hg_1) rfl) <| RT.ev rfl rfl (Ev.move rfl) ?_
      by_cases hg_2 : e < a
      · refine RT.no rfl rfl rfl (decide_eq_true hg_2) rfl ?_
        refine RT.no rfl rfl rfl (decide_eq_true hg_2) rfl ?_
        refine RT.no rfl rfl rfl (decide_eq_true hg_2) rfl ?_
        refine RT.no rfl rfl rfl (decide_eq_true hg_2) rfl ?_
        refine RT.no rfl rfl rfl (decide_eq_true hg_2) rfl ?_
        refine RT.no rfl rfl rfl (decide_eq_true hg_2) rfl ?_
        refine RT.ev rfl rfl (Ev.pickY rfl (decide_eq_true hg_2) rfl) ?_
        refine RT.nil ?_
        exact ⟨⟨rfl, rfl, rfl, rfl, rfl, congrArg some (congrArg Value.bool (by simp [hg_1, hg_2])), trivial⟩, hs⟩
      · refine RT.yes rfl rfl rfl (decide_eq_false hg_2) ?_
        refine RT.ev rfl rfl (Ev.move rfl) ?_
        refine RT.yes rfl rfl rfl (decide_eq_false hg_2) ?_
        refine RT.ev rfl rfl (Ev.move rfl) ?_
        refine RT.yes rfl rfl rfl (decide_eq_false hg_2) ?_
        refine RT.ev rfl rfl (Ev.nilCheck rfl) ?_
        refine RT.yes rfl rfl rfl (decide_eq_false hg_2) ?_
        refine RT.ev rfl rfl (Ev.fieldAddr fld79_0 rfl rfl) ?_
        refine RT.yes rfl rfl rfl (decide_eq_false hg_2) ?_
        refine RT.ev rfl rfl (Ev.load scal3 rfl (hs.cell (i := 0) (j := 0) rfl rfl)) ?_
        refine RT.yes rfl rfl rfl (decide_eq_false hg_2) ?_
        refine RT.ev rfl rfl (Ev.gtrN rfl rfl) <| RT.ev rfl rfl (Ev.pickN rfl (decide_eq_false hg_2) rfl) ?_
        refine RT.nil ?_
        exact ⟨⟨rfl, rfl, rfl, rfl, rfl, congrArg some (congrArg Value.bool (by simp [hg_1, hg_2])), trivial⟩, hs⟩
  · rintro L' w_1 ⟨hw_1, hs_1⟩
    refine CW.weaken _ hw_1 ?_
    refine CW.condF rfl (decide_eq_false (by omega)) ?_
    refine CW.skip ?_
    refine CW.seq ?_
    refine CW.region ?_
    refine RT.ev rfl rfl (Ev.move rfl) <| RT.ev rfl rfl (Ev.move rfl) <| RT.ev rfl rfl (Ev.subI rfl rfl (by omega) (by omega)) ?_
    refine RT.eff rfl rfl (OpE.makeL (encN .i64) (0) (l := 0) sl22 rfl hs_1 rfl rfl (by omega) (by omega) (by omega) fun v_1 w_2 hs_2 hch_1 => ?_)
    have hs_2d : Sat w0 ([cObj g 79 [(Value.int .i64 ((l.length : Nat) : Int)), (Value.int .i64 (((kindN l) : Nat) : Int)), lv, bv, (Value.int .i64 ((last : Nat) : Int)), kv], cL lv 3 (encN .i64) (lensK l), cL bv 124 (encPt) (ps), cParts (ps), cL kv 3 (encN .i64) (blk), cL v_1 3 (encN .i64) ([])] ++ cs) _ := (hs_2).mid
    refine RT.ev rfl rfl (Ev.assign rfl) ?_
    refine RT.nil ?_
    refine CW.seq ?_
    refine CW.seq ?_
    refine CW.region ?_
    refine RT.ev rfl rfl (Ev.move rfl) <| RT.ev rfl rfl (Ev.assign rfl) ?_
    refine RT.nil ?_
    refine CW.block ?_
    have hs_3 : Sat w0 ([cObj g 79 [(Value.int .i64 ((l.length : Nat) : Int)), (Value.int .i64 (((kindN l) : Nat) : Int)), lv, bv, (Value.int .i64 ((last : Nat) : Int)), kv], cL lv 3 (encN .i64) (lensK l), cL bv 124 (encPt) (ps), cParts (ps), cL kv 3 (encN .i64) (blk), cL v_1 3 (encN .i64) ((l.take a).drop a)] ++ cs) w_2 := by
      have hq : [] = (l.take a).drop a := by rw [List.drop_of_length_le (by simp; omega)]
      rw [← hq]; exact hs_2d
    refine CW.loop (α := Nat × Value × Nat × Value × List Nat) (fun (at_, ov, last2, kv2, blk2) => [(0, (Value.pointer (some ⟨g, 0, none⟩))), (1, (Value.int .i64 ((a : Nat) : Int))), (2, (Value.int .i64 ((e : Nat) : Int))), (8, ov), (9, (Value.int .i64 ((at_ : Nat) : Int)))]) (fun (at_, ov, last2, kv2, blk2) w' => Sat w0 ([cObj g 79 [(Value.int .i64 ((l.length : Nat) : Int)), (Value.int .i64 (((kindN l) : Nat) : Int)), lv, bv, (Value.int .i64 ((last2 : Nat) : Int)), kv2], cL lv 3 (encN .i64) (lensK l), cL bv 124 (encPt) (ps), cParts (ps), cL kv2 3 (encN .i64) (blk2), cL ov 3 (encN .i64) ((l.take at_).drop a)] ++ cs) w' ∧ (a ≤ at_) ∧ (at_ ≤ e) ∧ (CacheOk l last2 blk2)) (fun (at_, ov, last2, kv2, blk2) => e - at_) (a, v_1, last, kv, blk) ⟨rfl, rfl, rfl, rfl, rfl, trivial⟩ ⟨hs_3, Nat.le_refl _, hae, hca⟩ ?_
    rintro ⟨at_, ov, last2, kv2, blk2⟩ w_3 ⟨hs_4, haat, hate, hca2⟩
    show CW _ _ _ _ [(0, (Value.pointer (some ⟨g, 0, none⟩))), (1, (Value.int .i64 ((a : Nat) : Int))), (2, (Value.int .i64 ((e : Nat) : Int))), (8, ov), (9, (Value.int .i64 ((at_ : Nat) : Int)))] _
    refine CW.seq ?_
    refine CW.seq ?_
    refine CW.region ?_
    refine RT.ev rfl rfl (Ev.move rfl) <| RT.ev rfl rfl (Ev.move rfl) <| RT.ev rfl rfl (Ev.lssN rfl rfl) ?_
    refine RT.nil ?_
    refine CW.condD rfl (fun hc_1 => ?_) (fun hc_1 => ?_)
    · refine CW.skip ?_
      refine CW.block ?_
      refine CW.seq ?_
      refine CW.region ?_
      refine RT.ev rfl rfl (Ev.move rfl) <| RT.ev rfl rfl (Ev.move rfl) <| RT.ev rfl rfl (Ev.quo (b := 64) rfl rfl (by omega) (by unfold inI64; omega)) ?_
      have hA_1 : Sat w0 ([cObj g 79 [(Value.int .i64 ((l.length : Nat) : Int)), (Value.int .i64 (((kindN l) : Nat) : Int)), lv, bv, (Value.int .i64 ((last2 : Nat) : Int)), kv2], cL lv 3 (encN .i64) (lensK l), cL bv 124 (encPt) (ps), cParts (ps), cL kv2 3 (encN .i64) (blk2)] ++ ([cL ov 3 (encN .i64) ((l.take at_).drop a)] ++ cs)) _ := (Sat.order [0, 1, 2, 3, 4, 5] (by decide) hs_4).cut 5
      refine RT.eff rfl rfl (OpE.call ent58 rfl ((sdecode_ok _ _ _ _ _ _ _ (l) (blk2) (ps) (last2) hA_1 (hl) (hps) (hca2) ((at_ / 64)) (nbk_lt (by omega))).mono fun r_1 w_4 h_1 => ?_))
      have hs_5 : Sat w0 ([cObj g 79 [(Value.int .i64 ((l.length : Nat) : Int)), (Value.int .i64 (((kindN l) : Nat) : Int)), lv, bv, (Value.int .i64 ((((at_ / 64) + 1) : Nat) : Int)), r_1], cL lv 3 (encN .i64) (lensK l), cL bv 124 (encPt) (ps), cParts (ps), cL r_1 3 (encN .i64) (chk l (at_ / 64)), cL ov 3 (encN .i64) ((l.take at_).drop a)] ++ cs) _ := Sat.order [0, 1, 2, 3, 4, 5] (by decide) h_1.join
      refine RT.ev rfl rfl (Ev.assign rfl) ?_
      refine RT.nil ?_
      refine CW.seq ?_
      refine CW.region ?_
      refine RT.ev rfl rfl (Ev.move rfl) <| RT.ev rfl rfl (Ev.move rfl) <| RT.ev rfl rfl (Ev.quo (b := 64) rfl rfl (by omega) (by unfold inI64; omega)) <| RT.ev rfl rfl (Ev.addI (b := 1) rfl rfl (by omega)) <| RT.ev rfl rfl (Ev.mulI (b := 64) rfl rfl (by omega)) <| RT.ev rfl rfl (Ev.minN rfl rfl) <| RT.ev rfl rfl (Ev.assign rfl) ?_
      refine RT.nil ?_
      refine CW.seq ?_
      have hcl := chk_length l (at_ / 64)
      obtain ⟨en, hen⟩ : ∃ en, en = (min e (((at_ / 64) + 1) * 64)) := ⟨_, rfl⟩
      refine CW.weaken [(0, _), (1, _), (2, _), (8, _), (9, _), (10, _), (11, (Value.int .i64 ((en : Nat) : Int))), (32, _), (33, _), (34, _), (35, _), (36, _), (37, _), (38, _), (39, _), (40, _), (41, _), (42, _), (43, _), (44, _)] ⟨rfl, rfl, rfl, rfl, rfl, rfl, congrArg some (by rw [hen]), rfl, rfl, rfl, rfl, rfl, rfl, rfl, rfl, rfl, rfl, rfl, rfl, rfl, trivial⟩ ?_
      refine CW.region ?_
      refine RT.ev rfl rfl (Ev.move rfl) <| RT.ev rfl rfl (Ev.move rfl) <| RT.ev rfl rfl (Ev.move rfl) <| RT.ev rfl rfl (Ev.rem (b := 64) rfl rfl (by omega)) <| RT.ev rfl rfl (Ev.move rfl) <| RT.ev rfl rfl (Ev.move rfl) <| RT.ev rfl rfl (Ev.quo (b := 64) rfl rfl (by omega) (by unfold inI64; omega)) <| RT.ev rfl rfl (Ev.mulI (b := 64) rfl rfl (by omega)) <| RT.ev rfl rfl (Ev.subI rfl rfl (by omega) (by omega)) <| RT.ev rfl rfl (Ev.sliceL (E := encN .i64) (a := (at_ % 64)) (c := (en - ((at_ / 64) * 64))) sl22 rfl (hs_5.rdL 4 rfl) ⟨_, rfl⟩ ⟨_, rfl⟩ (by omega) (by rw [hcl]; omega)) ?_
      refine RT.eff rfl rfl (OpE.appendL 5 sl22 hs_5 rfl rfl rfl Try.underlying22 (((hs_5.rdL 4 rfl)).sub (a := (at_ % 64)) (b := (en - ((at_ / 64) * 64))) (by omega) (by rw [hcl]; omega)) (by simp; omega) (by simp; omega) fun v_2 w_5 hs_6 hch_2 => ?_)
      have hs_6d : Sat w0 ([cObj g 79 [(Value.int .i64 ((l.length : Nat) : Int)), (Value.int .i64 (((kindN l) : Nat) : Int)), lv, bv, (Value.int .i64 ((((at_ / 64) + 1) : Nat) : Int)), r_1], cL lv 3 (encN .i64) (lensK l), cL bv 124 (encPt) (ps), cParts (ps), cL r_1 3 (encN .i64) (chk l (at_ / 64)), cL v_2 3 (encN .i64) ((l.take at_).drop a ++ ((chk l (at_ / 64)).take (en - ((at_ / 64) * 64))).drop (at_ % 64))] ++ cs) _ := hs_6
      refine RT.ev rfl rfl (Ev.assign rfl) ?_
      refine RT.nil ?_
      refine CW.region ?_
      refine RT.ev rfl rfl (Ev.move rfl) <| RT.ev rfl rfl (Ev.assign rfl) ?_
      refine RT.nil ?_
      have hs_7 : Sat w0 ([cObj g 79 [(Value.int .i64 ((l.length : Nat) : Int)), (Value.int .i64 (((kindN l) : Nat) : Int)), lv, bv, (Value.int .i64 ((((at_ / 64) + 1) : Nat) : Int)), r_1], cL lv 3 (encN .i64) (lensK l), cL bv 124 (encPt) (ps), cParts (ps), cL r_1 3 (encN .i64) (chk l (at_ / 64)), cL v_2 3 (encN .i64) ((l.take en).drop a)] ++ cs) w_5 := by
        have hq : (l.take at_).drop a ++ ((chk l (at_ / 64)).take (en - ((at_ / 64) * 64))).drop (at_ % 64) = (l.take en).drop a := by rw [chk_slice l (a := at_) (e := en) (by omega) (by omega) (by omega)]; exact take_drop_glue l (by omega) (by omega)
        rw [← hq]; exact hs_6d
      exact ⟨(en, v_2, (at_ / 64 + 1), r_1, chk l (at_ / 64)), ⟨rfl, rfl, rfl, rfl, rfl, trivial⟩, ⟨hs_7, by omega, by omega, .now (nbk_lt (by omega))⟩, (show (e - (en)) < (e - at_) from by omega)⟩
    · refine CW.exit0 ?_
      refine CW.seq ?_
      refine CW.region ?_
      refine RT.ev rfl rfl (Ev.move rfl) <| RT.ev rfl rfl (Ev.assign rfl) <| RT.ev rfl rfl (Ev.assign rfl) ?_
      refine RT.nil ?_
      refine CW.ret ?_
      show PostK _ _ _ _ _ _
      refine post2 rfl rfl rfl ?_
      have hs_8 : Sat w0 ([cObj g 79 [(Value.int .i64 ((l.length : Nat) : Int)), (Value.int .i64 (((kindN l) : Nat) : Int)), lv, bv, (Value.int .i64 ((last2 : Nat) : Int)), kv2], cL lv 3 (encN .i64) (lensK l), cL bv 124 (encPt) (ps), cParts (ps), cL kv2 3 (encN .i64) (blk2), cL ov 3 (encN .i64) ((l.take e).drop a)] ++ cs) w_3 := by
        have hq : (l.take at_).drop a = (l.take e).drop a := by rw [show at_ = e by omega]
        rw [← hq]; exact hs_4
      exact ⟨_, _, _, _, rfl, hca2, hs_8⟩

theorem sslice_no (g n : Nat) (a e : Int) (w : World) (h0 : w.cell? ⟨g, 0, none⟩ = some (.int .i64 (n : Int))) (hz : ((a < (0 : Int)) ∨ (e < a)) ∨ (((n : Nat) : Int) < e)) :
    CallsV Try.prog 25 [(Value.pointer (some ⟨g, 0, none⟩)), (Value.int .i64 (a)), (Value.int .i64 (e))] w fun r w' => r = .tuple #[.slice none 0 0, .bool false] ∧ Sat w [] w' := by
  have hs0 := Sat.start w
  refine callsV_of Try.func25 rfl rfl ?_
  refine CW.seq ?_
  refine CW.region ?_
  refine RT.ev rfl rfl (Ev.assign rfl) <| RT.ev rfl rfl (Ev.assign rfl) ?_
  refine RT.nil ?_
  refine CW.seq ?_
  refine CW.seq ?_
  refine CW.mid (fun L' w' => Weak [(0, (Value.pointer (some ⟨g, 0, none⟩))), (1, (Value.int .i64 (a))), (2, (Value.int .i64 (e))), (6, (Value.slice none 0 0)), (7, (Value.bool false)), (26, (Value.bool (decide ((((a : Int) < (0 : Int)) ∨ ((e : Int) < (a : Int))) ∨ (((n : Nat) : Int) < (e : Int))))))] L' ∧ Sat w [] w') ?_ ?_
  · refine CW.region ?_
    refine RT.ev rfl rfl (Ev.move rfl) <| RT.ev rfl rfl (Ev.lss rfl rfl) <| RT.ev rfl rfl (Ev.move rfl) ?_
    by_cases hg_1 : (a : Int) < (0 : Int)
    · refine RT.no rfl rfl rfl (decide_eq_true hg_1) rfl ?_
      refine RT.no rfl rfl rfl (decide_eq_true hg_1) rfl ?_
      refine RT.no rfl rfl rfl (decide_eq_true hg_1) rfl ?_
      refine RT.ev rfl rfl (Ev.pickY rfl (decide_eq_true hg_1) rfl) <| RT.ev rfl rfl (Ev.move rfl) ?_
      refine RT.no rfl rfl rfl (rfl) rfl ?_
      refine RT.no rfl rfl rfl (rfl) rfl ?_
      refine RT.no rfl rfl rfl (rfl) rfl ?_
      refine RT.no rfl rfl rfl (rfl) rfl ?_
      refine RT.no rfl rfl rfl (rfl) rfl ?_
      refine RT.no rfl rfl rfl (rfl) rfl ?_
      refine RT.ev rfl rfl (Ev.pickY rfl (rfl) rfl) ?_
      refine RT.nil ?_
      exact ⟨⟨rfl, rfl, rfl, rfl, rfl, congrArg some (congrArg Value.bool (by simp [hg_1])), trivial⟩, hs0⟩
    · refine RT.yes rfl rfl rfl (decide_eq_false hg_1) ?_
      refine RT.ev rfl rfl (Ev.move rfl) ?_
      refine RT.yes rfl rfl rfl (decide_eq_false hg_1) ?_
      refine RT.ev rfl rfl (Ev.move rfl) ?_
      refine RT.yes rfl rfl rfl (decide_eq_false hg_1) ?_
      refine RT.ev rfl rfl (Ev.gtr rfl rfl) <| RT.ev rfl rfl (Ev.pickN rfl (decide_eq_false hg_1) rfl) <| RT.ev rfl rfl (Ev.move rfl) ?_
      by_cases hg_2 : (e : Int) < (a : Int)
      · refine RT.no rfl rfl rfl (decide_eq_true hg_2) rfl ?_
        refine RT.no rfl rfl rfl (decide_eq_true hg_2) rfl ?_
        refine RT.no rfl rfl rfl (decide_eq_true hg_2) rfl ?_
        refine RT.no rfl rfl rfl (decide_eq_true hg_2) rfl ?_
        refine RT.no rfl rfl rfl (decide_eq_true hg_2) rfl ?_
        refine RT.no rfl rfl rfl (decide_eq_true hg_2) rfl ?_
        refine RT.ev rfl rfl (Ev.pickY rfl (decide_eq_true hg_2) rfl) ?_
        refine RT.nil ?_
        exact ⟨⟨rfl, rfl, rfl, rfl, rfl, congrArg some (congrArg Value.bool (by simp [hg_1, hg_2])), trivial⟩, hs0⟩
      · refine RT.yes rfl rfl rfl (decide_eq_false hg_2) ?_
        refine RT.ev rfl rfl (Ev.move rfl) ?_
        refine RT.yes rfl rfl rfl (decide_eq_false hg_2) ?_
        refine RT.ev rfl rfl (Ev.move rfl) ?_
        refine RT.yes rfl rfl rfl (decide_eq_false hg_2) ?_
        refine RT.ev rfl rfl (Ev.nilCheck rfl) ?_
        refine RT.yes rfl rfl rfl (decide_eq_false hg_2) ?_
        refine RT.ev rfl rfl (Ev.fieldAddr fld79_0 rfl rfl) ?_
        refine RT.yes rfl rfl rfl (decide_eq_false hg_2) ?_
        refine RT.ev rfl rfl (Ev.load scal3 rfl (hs0.ext _ _ h0)) ?_
        refine RT.yes rfl rfl rfl (decide_eq_false hg_2) ?_
        refine RT.ev rfl rfl (Ev.gtr rfl rfl) <| RT.ev rfl rfl (Ev.pickN rfl (decide_eq_false hg_2) rfl) ?_
        refine RT.nil ?_
        exact ⟨⟨rfl, rfl, rfl, rfl, rfl, congrArg some (congrArg Value.bool (by simp [hg_1, hg_2])), trivial⟩, hs0⟩
  · rintro L' w_1 ⟨hw_1, hs_1⟩
    refine CW.weaken _ hw_1 ?_
    refine CW.condT rfl (decide_eq_true hz) ?_
    refine CW.seq ?_
    refine CW.region ?_
    refine RT.ev rfl rfl (Ev.assign rfl) <| RT.ev rfl rfl (Ev.assign rfl) ?_
    refine RT.nil ?_
    refine CW.ret ?_
    show PostK _ _ _ _ _ _
    refine post2 rfl rfl rfl ?_
    have hs_2 : Sat w [] w_1 := hs_1.sub (.slnil)
    exact ⟨rfl, hs_2⟩

theorem same_ok (v u : Value) (a b : List Nat) (w : World) (hv : RdL w v (encN .i64) a) (hu : RdL w u (encN .i64) b) (hn : a.length ≤ 1000000000) :
    CallsV Try.prog 26 [v, u] w fun r w' => r = .bool (decide (a = b)) ∧ Sat w [] w' := by
  have hs0 := Sat.start w
  refine callsV_of Try.func26 rfl rfl ?_
  refine CW.seq ?_
  refine CW.region ?_
  refine RT.ev rfl rfl (Ev.assign rfl) ?_
  refine RT.nil ?_
  refine CW.seq ?_
  refine CW.seq ?_
  refine CW.region ?_
  refine RT.ev rfl rfl (Ev.move rfl) <| RT.ev rfl rfl (Ev.lenL Try.underlying22 rfl (hv.ext hs0.ext)) <| RT.ev rfl rfl (Ev.move rfl) <| RT.ev rfl rfl (Ev.lenL Try.underlying22 rfl (hu.ext hs0.ext)) <| RT.ev rfl rfl (Ev.neqN rfl rfl) ?_
  refine RT.nil ?_
  refine CW.condD rfl (fun hc_1 => ?_) (fun hc_1 => ?_)
  · refine CW.seq ?_
    refine CW.region ?_
    refine RT.ev rfl rfl (Ev.assign rfl) ?_
    refine RT.nil ?_
    refine CW.ret ?_
    show PostK _ _ _ _ _ _
    refine post1 rfl rfl ?_
    exact ⟨by rw [decide_eq_false fun h => hc_1 (by rw [h])], hs0⟩
  · refine CW.skip ?_
    refine CW.seq ?_
    refine CW.seq ?_
    refine CW.region ?_
    refine RT.ev rfl rfl (Ev.move rfl) <| RT.ev rfl rfl (Ev.lenL Try.underlying22 rfl (hv.ext hs0.ext)) <| RT.ev rfl rfl (Ev.move rfl) ?_
    refine RT.nil ?_
    refine CW.block ?_
    refine CW.loop (α := Nat) (fun k => [(0, v), (1, u), (12, (Value.int .i64 ((a.length : Nat) : Int))), (13, (Value.int .i64 ((k : Nat) : Int)))]) (fun k w' => Sat w [] w' ∧ (k ≤ a.length) ∧ (a.take k = b.take k)) (fun k => a.length - k) 0 ⟨rfl, rfl, rfl, rfl, trivial⟩ ⟨hs0, Nat.zero_le _, by simp⟩ ?_
    rintro k w_1 ⟨hs_1, hk, heq⟩
    show CW _ _ _ _ [(0, v), (1, u), (12, (Value.int .i64 ((a.length : Nat) : Int))), (13, (Value.int .i64 ((k : Nat) : Int)))] _
    refine CW.seq ?_
    refine CW.region ?_
    refine RT.ev rfl rfl (Ev.lssN rfl rfl) ?_
    refine RT.nil ?_
    refine CW.seq ?_
    refine CW.condD rfl (fun hc_2 => ?_) (fun hc_2 => ?_)
    · refine CW.skip ?_
      refine CW.seq ?_
      refine CW.block ?_
      refine CW.seq ?_
      refine CW.region ?_
      refine RT.ev rfl rfl (Ev.move rfl) <| RT.ev rfl rfl (Ev.assign rfl) ?_
      refine RT.nil ?_
      refine CW.seq ?_
      obtain ⟨x, hx⟩ : ∃ x, (a)[k]? = some x := ⟨_, List.getElem?_eq_getElem (hc_2)⟩
      obtain ⟨y, hy⟩ : ∃ y, (b)[k]? = some y := ⟨_, List.getElem?_eq_getElem (by omega)⟩
      refine CW.draw (fun w' => Sat w [] w') (.free 0 (.free 1 (.free 2 (.free 3 (.free 4 (.free 5 (.free 6 (.free 7 (.free 8 .fin))))))))) mixed (by kernel_rfl) ?_
      have hs_2 := hs_1.drew
      refine RP.ev rfl rfl rfl (fun w' hS' => Ev.move rfl) hs_2 ?_
      refine RP.ev rfl rfl rfl (fun w' hS' => Ev.move rfl) hs_2 ?_
      refine RP.ev rfl rfl rfl (fun w' hS' => Ev.idxL (E := encN .i64) sl22 rfl rfl (hv.ext hS'.ext) (by omega)) hs_2 ?_
      refine RP.ev rfl rfl rfl (fun w' hS' => Ev.ldL (E := encN .i64) scal3 rfl (hv.ext hS'.ext) hx (by decide) rfl) hs_2 ?_
      refine RP.ev rfl rfl rfl (fun w' hS' => Ev.move rfl) hs_2 ?_
      refine RP.ev rfl rfl rfl (fun w' hS' => Ev.move rfl) hs_2 ?_
      refine RP.ev rfl rfl rfl (fun w' hS' => Ev.idxL (E := encN .i64) sl22 rfl rfl (hu.ext hS'.ext) (by omega)) hs_2 ?_
      refine RP.ev rfl rfl rfl (fun w' hS' => Ev.ldL (E := encN .i64) scal3 rfl (hu.ext hS'.ext) hy (by decide) rfl) hs_2 ?_
      refine RP.ev rfl rfl rfl (fun w' hS' => Ev.neqN rfl rfl) hs_2 ?_
      refine RP.fin ?_
      refine CW.condD rfl (fun hc_3 => ?_) (fun hc_3 => ?_)
      · refine CW.seq ?_
        refine CW.region ?_
        refine RT.ev rfl rfl (Ev.assign rfl) ?_
        refine RT.nil ?_
        refine CW.ret ?_
        show PostK _ _ _ _ _ _
        refine post1 rfl rfl ?_
        subst_vars
        exact ⟨congrArg Value.bool (decide_eq_false fun h => hc_3 (by subst h; rw [hx] at hy; exact Option.some.inj hy)).symm, hs_2⟩
      · refine CW.skip ?_
        refine CW.region ?_
        refine RT.ev rfl rfl (Ev.addI (b := 1) rfl rfl (by omega)) <| RT.ev rfl rfl (Ev.move rfl) ?_
        refine RT.nil ?_
        exact ⟨k + 1, ⟨rfl, rfl, rfl, rfl, trivial⟩, ⟨hs_2, by omega, by rw [take_succ_of hx, take_succ_of hy, heq, show x = y by omega]⟩, (show (a.length - (k + 1)) < (a.length - k) from by omega)⟩
    · refine CW.exit0 ?_
      refine CW.seq ?_
      refine CW.region ?_
      refine RT.ev rfl rfl (Ev.assign rfl) ?_
      refine RT.nil ?_
      refine CW.ret ?_
      show PostK _ _ _ _ _ _
      refine post1 rfl rfl ?_
      rw [show k = a.length by omega, List.take_length, List.take_of_length_le (by omega)] at heq
      exact ⟨by rw [decide_eq_true heq], hs_1⟩

end Go.Proofs.Ytfhbflhnelbkfaa
