/- The walks of the functions of F16s, printed by our own program (kwgen.py) out of our descriptions (base.py). -/
import Derived.Test.YtfhbflhnelbkfaaF14q
import Derived.Test.YtfhbflhnelbkfaaMz
import Derived.Test.YtfhbflhnelbkfaaF16c
import Derived.Test.YtfhbflhnelbkfaaTab
import Derived.Test.YtfhbflhnelbkfaaF16r
import Derived.Test.YtfhbflhnelbkfaaKy
import Derived.Test.YtfhbflhnelbkfaaF16d
namespace Go.Proofs.Ytfhbflhnelbkfaa
open Go.RowKit Go.Kw
set_option maxRecDepth 100000
set_option linter.unusedVariables false
set_option linter.unusedSimpArgs false
theorem rblocks_ok (w0 w : World) (cs : List Chunk) (s : SV) (l : List Nat) (hs : Sat w0 ([] ++ cs) w) (hv : RdL w0 s.val (encN .i64) l) (hn : l.length ≤ 4096) :
    CallsV Try.prog 107 [s.val] w fun r w' => ∃ ps : List (SV × List Nat), ps.map Prod.snd = (List.range (nbk l.length)).map (chk l) ∧ (∀ p ∈ ps, RdL w0 p.1.val (encN .i64) p.2) ∧ Sat w0 ([cL r 22 (encSl Nat) ps] ++ cs) w' := by
  refine callsV_of Try.func107 rfl rfl ?_
  refine CW.seq ?_
  refine CW.region ?_
  refine RT.ev rfl rfl (Ev.assign rfl) ?_
  refine RT.nil ?_
  refine CW.seq ?_
  refine CW.region ?_
  refine RT.ev rfl rfl (Ev.assign rfl) ?_
  refine RT.nil ?_
  refine CW.seq ?_
  refine CW.seq ?_
  refine CW.region ?_
  refine RT.ev rfl rfl (Ev.assign rfl) ?_
  refine RT.nil ?_
  refine CW.block ?_
  have hs_1 : Sat w0 ([cL (Value.slice none 0 0) 22 (encSl Nat) ([])] ++ cs) _ := (hs.newNilL 22 (encSl Nat)).mid
  refine CW.loop (α := Nat × Value × List (SV × List Nat)) (fun (k, ov, ps) => [(0, s.val), (3, ov), (4, (Value.int .i64 (((64 * k) : Nat) : Int)))]) (fun (k, ov, ps) w' => Sat w0 ([cL ov 22 (encSl Nat) (ps)] ++ cs) w' ∧ (64 * k ≤ l.length + 63) ∧ (ps.map Prod.snd = (List.range k).map (chk l)) ∧ (∀ p ∈ ps, RdL w0 p.1.val (encN .i64) p.2)) (fun (k, ov, ps) => l.length + 64 - 64 * k) (0, (Value.slice none 0 0), []) ⟨rfl, rfl, rfl, trivial⟩ ⟨hs_1, by omega, rfl, (fun _ h => by cases h)⟩ ?_
  rintro ⟨k, ov, ps⟩ w_1 ⟨hs_2, hk, hps, hall⟩
  show CW _ _ _ _ [(0, s.val), (3, ov), (4, (Value.int .i64 (((64 * k) : Nat) : Int)))] _
  have hpl : ps.length = k := by have := congrArg List.length hps; simpa using this
  refine CW.seq ?_
  refine CW.seq ?_
  refine CW.region ?_
  refine RT.ev rfl rfl (Ev.move rfl) <| RT.ev rfl rfl (Ev.move rfl) <| RT.ev rfl rfl (Ev.lenL Try.underlying22 rfl (hv.ext hs_2.ext)) <| RT.ev rfl rfl (Ev.lssN rfl rfl) ?_
  refine RT.nil ?_
  refine CW.condD rfl (fun hc_1 => ?_) (fun hc_1 => ?_)
  · refine CW.skip ?_
    refine CW.seq ?_
    refine CW.block ?_
    refine CW.region ?_
    refine RT.ev rfl rfl (Ev.move rfl) <| RT.ev rfl rfl (Ev.move rfl) <| RT.ev rfl rfl (Ev.move rfl) <| RT.ev rfl rfl (Ev.move rfl) <| RT.ev rfl rfl (Ev.addI (b := 64) rfl rfl (by omega)) <| RT.ev rfl rfl (Ev.move rfl) <| RT.ev rfl rfl (Ev.lenL Try.underlying22 rfl (hv.ext hs_2.ext)) <| RT.ev rfl rfl (Ev.minN rfl rfl) <| RT.ev rfl rfl (Ev.sliceL (E := encN .i64) (a := (64 * k)) (c := (min ((64 * k) + 64) l.length)) sl22 rfl (hv.ext hs_2.ext) ⟨_, rfl⟩ ⟨_, rfl⟩ (by omega) (by omega)) ?_
    refine RT.eff rfl rfl (OpE.lit1 (encSl Nat) (svOf (subSl (encN .i64).s s.val (64 * k) (min ((64 * k) + 64) l.length)), ((l).take (min ((64 * k) + 64) l.length)).drop (64 * k)) sl136 rfl hs_2 rfl fun v_1 w_2 hs_3 hch_1 => ?_)
    have hs_3d : Sat w0 ([cL ov 22 (encSl Nat) (ps), cL v_1 22 (encSl Nat) ([(svOf (subSl (encN .i64).s s.val (64 * k) (min ((64 * k) + 64) l.length)), ((l).take (min ((64 * k) + 64) l.length)).drop (64 * k))])] ++ cs) _ := (hs_3).mid
    refine RT.eff rfl rfl (OpE.appendL 0 sl136 hs_3d rfl rfl rfl Try.underlying136 (hs_3d.rdL 1 rfl) (by simp; omega) (by simp; omega) fun v_2 w_3 hs_4 hch_2 => ?_)
    have hs_4d : Sat w0 ([cL v_2 22 (encSl Nat) (ps ++ [(svOf (subSl (encN .i64).s s.val (64 * k) (min ((64 * k) + 64) l.length)), ((l).take (min ((64 * k) + 64) l.length)).drop (64 * k))])] ++ cs) _ := hs_4.drop 1
    refine RT.ev rfl rfl (Ev.assign rfl) ?_
    refine RT.nil ?_
    refine CW.region ?_
    refine RT.ev rfl rfl (Ev.move rfl) <| RT.ev rfl rfl (Ev.addI (b := 64) rfl rfl (by omega)) <| RT.ev rfl rfl (Ev.assign rfl) ?_
    refine RT.nil ?_
    exact ⟨(k + 1, v_2, ps ++ [(svOf (subSl (encN .i64).s s.val (64 * k) (min ((64 * k) + 64) l.length)), ((l).take (min ((64 * k) + 64) l.length)).drop (64 * k))]), ⟨rfl, rfl, rfl, trivial⟩, ⟨hs_4d, by omega, by rw [List.map_append, hps, List.range_succ, List.map_append]; exact congrArg (_ ++ [·]) (chk_eq l k), fun p hp => by
        rcases List.mem_append.1 hp with hp | hp
        · exact hall p hp
        · have := List.mem_singleton.1 hp
          subst this
          exact hv.sub (by omega) (by omega)⟩, (show (l.length + 64 - 64 * (k + 1)) < (l.length + 64 - 64 * k) from by omega)⟩
  · refine CW.exit0 ?_
    refine CW.seq ?_
    refine CW.region ?_
    refine RT.ev rfl rfl (Ev.move rfl) <| RT.ev rfl rfl (Ev.assign rfl) ?_
    refine RT.nil ?_
    refine CW.ret ?_
    show PostK _ _ _ _ _ _
    refine post1 rfl rfl ?_
    exact ⟨ps, by rw [hps, show k = nbk l.length by unfold nbk; omega], hall, hs_2⟩

theorem rkind0_ok (s : SV) (l : List Nat) (w : World) (hv : RdL w s.val (encN .i64) l) (hl : OkN l) :
    CallsV Try.prog 67 [s.val] w fun r w' => Sat w [cL r 5 (encN .u8) (plK l 0)] w' := by
  have hs0 := Sat.start w
  refine callsV_of Try.func67 rfl rfl ?_
  refine CW.seq ?_
  have hln := hl.len
  have hu0 := uv_le l.length
  have hnb : nbk l.length ≤ 64 := by unfold nbk; omega
  refine CW.region ?_
  refine RT.ev rfl rfl (Ev.assign rfl) ?_
  refine RT.nil ?_
  refine CW.seq ?_
  refine CW.region ?_
  refine RT.ev rfl rfl (Ev.move rfl) <| RT.ev rfl rfl (Ev.lenL Try.underlying22 rfl (hv.ext hs0.ext)) <| RT.ev rfl rfl (Ev.convK (by rw [Try.underlying3]; rfl) Try.underlying108 rfl (wrap_u rfl (by (try simp only [IntKind.bits]); omega))) ?_
  refine RT.eff rfl rfl (OpE.call ent87 rfl ((ruv_ok (l.length) _ (by omega)).mono fun r_1 w_1 h_1 => ?_))
  have hp_1 := h_1
  have hs_1 : Sat w [cL r_1 5 (encN .u8) (uv (l.length))] _ := hs0.adds hp_1
  refine RT.eff rfl rfl (OpE.lit1 (encN .u8) 0 sl40 rfl hs_1 rfl fun v_1 w_2 hs_2 hch_1 => ?_)
  have hs_2d : Sat w [cL r_1 5 (encN .u8) (uv (l.length)), cL v_1 5 (encN .u8) ([0])] _ := hs_2
  refine RT.eff rfl rfl (OpE.appendL 0 sl40 hs_2d rfl rfl rfl Try.underlying40 (hs_2d.rdL 1 rfl) (by simp; omega) (by simp; omega) fun v_2 w_3 hs_3 hch_2 => ?_)
  have hs_3d : Sat w [cL v_2 5 (encN .u8) (uv (l.length) ++ [0])] _ := hs_3.drop 1
  refine RT.ev rfl rfl (Ev.assign rfl) ?_
  refine RT.nil ?_
  refine CW.seq ?_
  refine CW.seq ?_
  refine CW.region ?_
  refine RT.ev rfl rfl (Ev.move rfl) ?_
  have hA_1 : Sat w ([] ++ ([cL v_2 5 (encN .u8) (uv (l.length) ++ [0])] ++ [])) _ := (Sat.order [0] (by decide) hs_3d.tail).cut 0
  refine RT.eff rfl rfl (OpE.call ent107 rfl ((rblocks_ok _ _ _ _ (l) hA_1 hv (by omega)).mono fun r_2 w_4 h_2 => ?_))
  obtain ⟨ps_1, hps_1, hall_1, hp_2⟩ := h_2
  have hs_4 : Sat w [cL v_2 5 (encN .u8) (uv (l.length) ++ [0]), cL r_2 22 (encSl Nat) (ps_1)] _ := (Sat.order [1, 0] (by decide) hp_2.join).untail
  refine RT.ev rfl rfl (Ev.lenL Try.underlying136 rfl (hs_4.rdL 1 rfl)) <| RT.ev rfl rfl (Ev.move rfl) ?_
  refine RT.nil ?_
  refine CW.block ?_
  have hpsl : ps_1.length = nbk l.length := by have h1 := congrArg List.length hps_1; simpa using h1
  have hs_5 : Sat w [cL v_2 5 (encN .u8) (hdP l.length 0 [] ++ pld 0 ((pk0 l (nbk l.length)).take (0))), cL r_2 22 (encSl Nat) (ps_1)] w_4 := by
    have hq : uv (l.length) ++ [0] = hdP l.length 0 [] ++ pld 0 ((pk0 l (nbk l.length)).take (0)) := by rw [hdP_zero]; simp [pld]
    rw [← hq]; exact hs_4
  have hs_6 : Sat w [cL v_2 5 (encN .u8) (hdP l.length 0 [] ++ pld 0 ((pk0 l (nbk l.length)).take (0))), cL r_2 22 (encSl Nat) (ps_1)] w_4 := hs_5.sub ((.cons_cons _ (.cons_cons _ .slnil)))
  refine CW.loop (α := Nat × Value) (fun (k, bv) => [(0, s.val), (3, bv), (14, r_2), (15, (Value.int .i64 ((ps_1.length : Nat) : Int))), (16, (Value.int .i64 ((k : Nat) : Int)))]) (fun (k, bv) w' => Sat w [cL bv 5 (encN .u8) (hdP l.length 0 [] ++ pld 0 ((pk0 l (nbk l.length)).take (k))), cL r_2 22 (encSl Nat) (ps_1)] w' ∧ (k ≤ ps_1.length) ∧ ((hdP l.length 0 [] ++ pld 0 ((pk0 l (nbk l.length)).take (k))).length ≤ 100 + 20010 * k)) (fun (k, bv) => nbk l.length - k) (0, v_2) ⟨rfl, rfl, rfl, rfl, rfl, trivial⟩ ⟨hs_6, Nat.zero_le _, by rw [hdP_zero]; have := uv_le l.length; simp [pld]; omega⟩ ?_
  rintro ⟨k, bv⟩ w_5 ⟨hs_7, hk, hpb⟩
  show CW _ _ _ _ [(0, s.val), (3, bv), (14, r_2), (15, (Value.int .i64 ((ps_1.length : Nat) : Int))), (16, (Value.int .i64 ((k : Nat) : Int)))] _
  refine CW.seq ?_
  refine CW.region ?_
  refine RT.ev rfl rfl (Ev.lssN rfl rfl) ?_
  refine RT.nil ?_
  refine CW.seq ?_
  refine CW.condD rfl (fun hc_1 => ?_) (fun hc_1 => ?_)
  · refine CW.skip ?_
    refine CW.seq ?_
    refine CW.block ?_
    refine CW.seq ?_
    obtain ⟨x, hx⟩ : ∃ x, (ps_1)[k]? = some x := ⟨_, List.getElem?_eq_getElem hc_1⟩
    obtain ⟨hkb, hx2⟩ := chks_get hps_1 hx
    have hcl : x.2.length ≤ 64 := by rw [hx2, chk_length]; omega
    refine CW.region ?_
    refine RT.ev rfl rfl (Ev.idxL (E := encSl Nat) sl136 rfl rfl (hs_7.rdL 1 rfl) (by omega)) <| RT.ev rfl rfl (Ev.ldL (E := encSl Nat) scal22 rfl (hs_7.rdL 1 rfl) hx (by decide) rfl) <| RT.ev rfl rfl (Ev.assign rfl) ?_
    refine RT.nil ?_
    refine CW.seq ?_
    have hpkl := packBk_len x.2 (by omega)
    have hpu := uv_le (packBk x.2).length
    refine CW.region ?_
    refine RT.ev rfl rfl (Ev.move rfl) ?_
    refine RT.eff rfl rfl (OpE.call ent109 rfl ((rbpack_ok _ (x.2) _ ((hall_1 x (mem_of_get hx)).ext hs_7.ext) (by omega) (fun y hy => by rw [hx2] at hy; have := hl.lt y (chk_mem hy); omega)).mono fun r_3 w_6 h_3 => ?_))
    have hp_3 := h_3
    have hs_8 : Sat w [cL bv 5 (encN .u8) (hdP l.length 0 [] ++ pld 0 ((pk0 l (nbk l.length)).take (k))), cL r_2 22 (encSl Nat) (ps_1), cL r_3 5 (encN .u8) (packBk (x.2))] _ := hs_7.adds hp_3
    refine RT.ev rfl rfl (Ev.assign rfl) ?_
    refine RT.nil ?_
    refine CW.region ?_
    refine RT.ev rfl rfl (Ev.move rfl) <| RT.ev rfl rfl (Ev.move rfl) <| RT.ev rfl rfl (Ev.lenL Try.underlying40 rfl (hs_8.rdL 2 rfl)) <| RT.ev rfl rfl (Ev.convK (by rw [Try.underlying3]; rfl) Try.underlying108 rfl (wrap_u rfl (by (try simp only [IntKind.bits]); omega))) ?_
    refine RT.eff rfl rfl (OpE.call ent87 rfl ((ruv_ok ((packBk (x.2)).length) _ (by omega)).mono fun r_4 w_7 h_4 => ?_))
    have hp_4 := h_4
    have hs_9 : Sat w [cL bv 5 (encN .u8) (hdP l.length 0 [] ++ pld 0 ((pk0 l (nbk l.length)).take (k))), cL r_2 22 (encSl Nat) (ps_1), cL r_3 5 (encN .u8) (packBk (x.2)), cL r_4 5 (encN .u8) (uv ((packBk (x.2)).length))] _ := hs_8.adds hp_4
    refine RT.eff rfl rfl (OpE.appendL 0 sl40 hs_9 rfl rfl rfl Try.underlying40 (hs_9.rdL 3 rfl) (by (try simp only [List.length_append]); simp only [List.length_append] at hpb; omega) (by (try simp only [List.length_append]); simp only [List.length_append] at hpb; omega) fun v_3 w_8 hs_10 hch_3 => ?_)
    have hs_10d : Sat w [cL v_3 5 (encN .u8) (hdP l.length 0 [] ++ pld 0 ((pk0 l (nbk l.length)).take (k)) ++ uv ((packBk (x.2)).length)), cL r_2 22 (encSl Nat) (ps_1), cL r_3 5 (encN .u8) (packBk (x.2)), cL r_4 5 (encN .u8) (uv ((packBk (x.2)).length))] _ := hs_10
    refine RT.ev rfl rfl (Ev.move rfl) ?_
    refine RT.eff rfl rfl (OpE.appendL 0 sl40 hs_10d rfl rfl rfl Try.underlying40 (hs_10d.rdL 2 rfl) (by (try simp only [List.length_append]); simp only [List.length_append] at hpb; omega) (by (try simp only [List.length_append]); simp only [List.length_append] at hpb; omega) fun v_4 w_9 hs_11 hch_4 => ?_)
    have hs_11d : Sat w [cL v_4 5 (encN .u8) (hdP l.length 0 [] ++ pld 0 ((pk0 l (nbk l.length)).take (k)) ++ uv ((packBk (x.2)).length) ++ packBk (x.2)), cL r_2 22 (encSl Nat) (ps_1), cL r_3 5 (encN .u8) (packBk (x.2)), cL r_4 5 (encN .u8) (uv ((packBk (x.2)).length))] _ := hs_11
    refine RT.ev rfl rfl (Ev.assign rfl) ?_
    refine RT.nil ?_
    refine CW.region ?_
    refine RT.ev rfl rfl (Ev.addI (b := 1) rfl rfl (by omega)) <| RT.ev rfl rfl (Ev.move rfl) ?_
    refine RT.nil ?_
    have hs_12 : Sat w [cL v_4 5 (encN .u8) (hdP l.length 0 [] ++ pld 0 ((pk0 l (nbk l.length)).take (k)) ++ uv ((packBk (x.2)).length) ++ packBk (x.2)), cL r_2 22 (encSl Nat) (ps_1)] w_9 := hs_11d.sub ((.cons_cons _ (.cons_cons _ (.cons _ (.cons _ .slnil)))))
    have hs_13 : Sat w [cL v_4 5 (encN .u8) (hdP l.length 0 [] ++ pld 0 ((pk0 l (nbk l.length)).take (k + 1))), cL r_2 22 (encSl Nat) (ps_1)] w_9 := by
      have hq : hdP l.length 0 [] ++ pld 0 ((pk0 l (nbk l.length)).take (k)) ++ uv ((packBk (x.2)).length) ++ packBk (x.2) = hdP l.length 0 [] ++ pld 0 ((pk0 l (nbk l.length)).take (k + 1)) := by rw [take_succ_of (pk0_get hkb), pld_snoc, pld1, hx2]; simp
      rw [← hq]; exact hs_12
    exact ⟨(k + 1, v_4), ⟨rfl, rfl, rfl, rfl, rfl, trivial⟩, ⟨hs_13, by omega, by rw [take_succ_of (pk0_get hkb), pld_snoc, pld1, if_pos rfl, ← hx2]; simp only [List.length_append] at hpb ⊢; omega⟩, (show (nbk l.length - (k + 1)) < (nbk l.length - k) from by omega)⟩
  · refine CW.exit0 ?_
    refine CW.seq ?_
    refine CW.region ?_
    refine RT.ev rfl rfl (Ev.move rfl) <| RT.ev rfl rfl (Ev.assign rfl) ?_
    refine RT.nil ?_
    refine CW.ret ?_
    show PostK _ _ _ _ _ _
    refine post1 rfl rfl ?_
    have hs_14 : Sat w [cL bv 5 (encN .u8) (hdP l.length 0 [] ++ pld 0 ((pk0 l (nbk l.length)).take (k)))] w_5 := hs_7.sub ((.cons_cons _ (.cons _ .slnil)))
    have hkn : k = nbk l.length := by have h1 := congrArg List.length hps_1; simp at h1; omega
    have hs_15 : Sat w [cL bv 5 (encN .u8) (plK l 0)] w_5 := by
      have hq : hdP l.length 0 [] ++ pld 0 ((pk0 l (nbk l.length)).take (k)) = plK l 0 := by rw [plK_zero, hkn, List.take_of_length_le (by rw [pk0_len]; exact Nat.le_refl _)]
      rw [← hq]; exact hs_14
    exact hs_15

theorem rkind1_ok (s : SV) (l : List Nat) (w : World) (hv : RdL w s.val (encN .i64) l) (hl : OkN l) :
    CallsV Try.prog 66 [s.val] w fun r w' => Sat w [cL r 5 (encN .u8) (plK l 1)] w' := by
  have hs0 := Sat.start w
  refine callsV_of Try.func66 rfl rfl ?_
  refine CW.seq ?_
  have hln := hl.len
  have hu0 := uv_le l.length
  have hnb : nbk l.length ≤ 64 := by unfold nbk; omega
  have hmx := hl.mx
  have hsyl := symL_length l
  have hu1 := uv_le (mxN l)
  refine CW.region ?_
  refine RT.ev rfl rfl (Ev.assign rfl) ?_
  refine RT.nil ?_
  refine CW.seq ?_
  refine CW.region ?_
  refine RT.ev rfl rfl (Ev.assign rfl) ?_
  refine RT.nil ?_
  refine CW.seq ?_
  refine CW.seq ?_
  refine CW.region ?_
  refine RT.ev rfl rfl (Ev.move rfl) <| RT.ev rfl rfl (Ev.lenL Try.underlying22 rfl (hv.ext hs0.ext)) <| RT.ev rfl rfl (Ev.move rfl) ?_
  refine RT.nil ?_
  refine CW.block ?_
  refine CW.loop (α := Nat × Nat) (fun (k, m) => [(0, s.val), (3, (Value.int .i64 ((m : Nat) : Int))), (19, s.val), (20, (Value.int .i64 ((l.length : Nat) : Int))), (21, (Value.int .i64 ((k : Nat) : Int)))]) (fun (k, m) w' => Sat w [] w' ∧ (k ≤ l.length) ∧ (m = mxN (l.take k)) ∧ (m ≤ 1024)) (fun (k, m) => l.length - k) (0, 0) ⟨rfl, rfl, rfl, rfl, rfl, trivial⟩ ⟨hs0, Nat.zero_le _, rfl, Nat.zero_le _⟩ ?_
  rintro ⟨k, m⟩ w_1 ⟨hs_1, hk, hm, hmb⟩
  show CW _ _ _ _ [(0, s.val), (3, (Value.int .i64 ((m : Nat) : Int))), (19, s.val), (20, (Value.int .i64 ((l.length : Nat) : Int))), (21, (Value.int .i64 ((k : Nat) : Int)))] _
  refine CW.seq ?_
  refine CW.region ?_
  refine RT.ev rfl rfl (Ev.lssN rfl rfl) ?_
  refine RT.nil ?_
  refine CW.seq ?_
  refine CW.condD rfl (fun hc_1 => ?_) (fun hc_1 => ?_)
  · refine CW.skip ?_
    refine CW.seq ?_
    refine CW.block ?_
    refine CW.seq ?_
    obtain ⟨x, hx⟩ : ∃ x, (l)[k]? = some x := ⟨_, List.getElem?_eq_getElem hc_1⟩
    refine CW.region ?_
    refine RT.ev rfl rfl (Ev.idxL (E := encN .i64) sl22 rfl rfl (hv.ext hs_1.ext) (by omega)) <| RT.ev rfl rfl (Ev.ldL (E := encN .i64) scal3 rfl (hv.ext hs_1.ext) hx (by decide) rfl) <| RT.ev rfl rfl (Ev.assign rfl) ?_
    refine RT.nil ?_
    have hxb := hl.lt x (mem_of_get hx)
    refine CW.region ?_
    refine RT.ev rfl rfl (Ev.move rfl) <| RT.ev rfl rfl (Ev.move rfl) <| RT.ev rfl rfl (Ev.addI (b := 1) rfl rfl (by omega)) <| RT.ev rfl rfl (Ev.maxN rfl rfl) <| RT.ev rfl rfl (Ev.assign rfl) ?_
    refine RT.nil ?_
    refine CW.region ?_
    refine RT.ev rfl rfl (Ev.addI (b := 1) rfl rfl (by omega)) <| RT.ev rfl rfl (Ev.move rfl) ?_
    refine RT.nil ?_
    exact ⟨(k + 1, (max m (x + 1))), ⟨rfl, rfl, rfl, rfl, rfl, trivial⟩, ⟨hs_1, by omega, by rw [take_succ_of hx, mxN_snoc, hm], by have := hl.lt x (mem_of_get hx); omega⟩, (show (l.length - (k + 1)) < (l.length - k) from by omega)⟩
  · refine CW.exit0 ?_
    refine CW.seq ?_
    have hmm : m = mxN l := by rw [hm, show k = l.length by omega, List.take_length]
    refine CW.region ?_
    refine RT.ev rfl rfl (Ev.move rfl) ?_
    refine RT.eff rfl rfl (OpE.makeL (encN .i64) (0) sl22 rfl hs_1 rfl rfl (by omega) (by omega) (by omega) fun v_1 w_2 hs_2 hch_1 => ?_)
    have hs_2d : Sat w [cL v_1 3 (encN .i64) (List.replicate (m) 0)] _ := hs_2
    refine RT.ev rfl rfl (Ev.assign rfl) ?_
    refine RT.nil ?_
    refine CW.seq ?_
    refine CW.seq ?_
    refine CW.region ?_
    refine RT.ev rfl rfl (Ev.move rfl) <| RT.ev rfl rfl (Ev.lenL Try.underlying22 rfl (hv.ext hs_2d.ext)) <| RT.ev rfl rfl (Ev.move rfl) ?_
    refine RT.nil ?_
    refine CW.block ?_
    refine CW.loop (α := Nat × List Nat) (fun (k, cur) => [(0, s.val), (3, (Value.int .i64 ((m : Nat) : Int))), (6, v_1), (32, s.val), (33, (Value.int .i64 ((l.length : Nat) : Int))), (34, (Value.int .i64 ((k : Nat) : Int)))]) (fun (k, cur) w' => Sat w [cL v_1 3 (encN .i64) (cur)] w' ∧ (k ≤ l.length) ∧ (cur = cntN (mxN l) (l.take k)) ∧ (cur.length = mxN l) ∧ (∀ x ∈ cur, x ≤ k)) (fun (k, cur) => l.length - k) (0, List.replicate (m) 0) ⟨rfl, rfl, rfl, rfl, rfl, rfl, trivial⟩ ⟨hs_2d, Nat.zero_le _, by rw [hmm]; rfl, by rw [hmm]; simp, fun x hx => by have := List.eq_of_mem_replicate hx; omega⟩ ?_
    rintro ⟨k, cur⟩ w_3 ⟨hs_3, hk, hcur, hcl, hcb⟩
    show CW _ _ _ _ [(0, s.val), (3, (Value.int .i64 ((m : Nat) : Int))), (6, v_1), (32, s.val), (33, (Value.int .i64 ((l.length : Nat) : Int))), (34, (Value.int .i64 ((k : Nat) : Int)))] _
    refine CW.seq ?_
    refine CW.region ?_
    refine RT.ev rfl rfl (Ev.lssN rfl rfl) ?_
    refine RT.nil ?_
    refine CW.seq ?_
    refine CW.condD rfl (fun hc_2 => ?_) (fun hc_2 => ?_)
    · refine CW.skip ?_
      refine CW.seq ?_
      refine CW.block ?_
      refine CW.seq ?_
      obtain ⟨x, hx⟩ : ∃ x, (l)[k]? = some x := ⟨_, List.getElem?_eq_getElem hc_2⟩
      refine CW.region ?_
      refine RT.ev rfl rfl (Ev.idxL (E := encN .i64) sl22 rfl rfl (hv.ext hs_3.ext) (by omega)) <| RT.ev rfl rfl (Ev.ldL (E := encN .i64) scal3 rfl (hv.ext hs_3.ext) hx (by decide) rfl) <| RT.ev rfl rfl (Ev.assign rfl) ?_
      refine RT.nil ?_
      have hxm : x < cur.length := by rw [hcl]; exact mxN_ge l x (mem_of_get hx)
      obtain ⟨y, hy⟩ : ∃ y, (cur)[x]? = some y := ⟨_, List.getElem?_eq_getElem (hxm)⟩
      have hyk := hcb y (mem_of_get hy)
      refine CW.region ?_
      refine RT.ev rfl rfl (Ev.move rfl) <| RT.ev rfl rfl (Ev.move rfl) <| RT.ev rfl rfl (Ev.idxL (E := encN .i64) sl22 rfl rfl (hs_3.rdL 0 rfl) (by omega)) <| RT.ev rfl rfl (Ev.ldL (E := encN .i64) scal3 rfl (hs_3.rdL 0 rfl) hy (by decide) rfl) <| RT.ev rfl rfl (Ev.addI (b := 1) rfl rfl (by omega)) <| RT.ev rfl rfl (Ev.idxL (E := encN .i64) sl22 rfl rfl (hs_3.rdL 0 rfl) (by omega)) ?_
      refine RT.eff rfl rfl (OpE.setL (a := (y + 1)) 0 one3 hs_3 rfl rfl rfl rfl (by (try simp only [List.length_set]); omega) fun w_4 hs_4 hch_2 => ?_)
      have hs_4d : Sat w [cL v_1 3 (encN .i64) (cur.set x (y + 1))] _ := hs_4
      refine RT.nil ?_
      refine CW.region ?_
      refine RT.ev rfl rfl (Ev.addI (b := 1) rfl rfl (by omega)) <| RT.ev rfl rfl (Ev.move rfl) ?_
      refine RT.nil ?_
      exact ⟨(k + 1, cur.set x (y + 1)), ⟨rfl, rfl, rfl, rfl, rfl, rfl, trivial⟩, ⟨hs_4d, by omega, by rw [take_succ_of hx, cntN_snoc, ← hcur, cntStep, getD_some hy], by simp only [List.length_set]; exact hcl, fun z hz => by
        rcases List.mem_or_eq_of_mem_set hz with hz | rfl
        · have := hcb z hz; omega
        · omega⟩, (show (l.length - (k + 1)) < (l.length - k) from by omega)⟩
    · refine CW.exit0 ?_
      refine CW.seq ?_
      have hs_5 : Sat w [cL v_1 3 (encN .i64) (cntN (mxN l) l)] w_3 := by
        have hq : cur = cntN (mxN l) l := by rw [hcur, show k = l.length by omega, List.take_length]
        rw [← hq]; exact hs_3
      refine CW.region ?_
      refine RT.ev rfl rfl (Ev.move rfl) ?_
      refine RT.eff rfl rfl (OpE.call ent106 rfl ((rlengths_ok _ (cntN (mxN l) l) _ (hs_5.rdL 0 rfl) (by rw [cntN_length]; exact hmx) (fun x hx => by have := cntN_le (mxN l) l x hx; omega)).mono fun r_1 w_5 h_1 => ?_))
      obtain ⟨lv_1, rfl, hp_1⟩ := h_1
      have hs_6 : Sat w [cL v_1 3 (encN .i64) (cntN (mxN l) l), cL lv_1 3 (encN .i64) (lensN (cntN (mxN l) l))] _ := hs_5.adds hp_1
      refine RT.ev rfl rfl (Ev.move rfl) <| RT.ev rfl rfl (Ev.extract rfl rfl) <| RT.ev rfl rfl (Ev.extract rfl rfl) <| RT.ev rfl rfl (Ev.assign rfl) <| RT.ev rfl rfl (Ev.assign rfl) ?_
      refine RT.nil ?_
      refine CW.seq ?_
      have hs_7 : Sat w [cL v_1 3 (encN .i64) (cntN (mxN l) l), cL lv_1 3 (encN .i64) (symL l)] w_5 := by
        have hq : lensN (cntN (mxN l) l) = symL l := rfl
        rw [← hq]; exact hs_6
      refine CW.region ?_
      refine RT.ev rfl rfl (Ev.move rfl) <| RT.ev rfl rfl (Ev.lenL Try.underlying22 rfl (hv.ext hs_7.ext)) <| RT.ev rfl rfl (Ev.convK (by rw [Try.underlying3]; rfl) Try.underlying108 rfl (wrap_u rfl (by (try simp only [IntKind.bits]); omega))) ?_
      refine RT.eff rfl rfl (OpE.call ent87 rfl ((ruv_ok (l.length) _ (by omega)).mono fun r_2 w_6 h_2 => ?_))
      have hp_2 := h_2
      have hs_8 : Sat w [cL v_1 3 (encN .i64) (cntN (mxN l) l), cL lv_1 3 (encN .i64) (symL l), cL r_2 5 (encN .u8) (uv (l.length))] _ := hs_7.adds hp_2
      refine RT.eff rfl rfl (OpE.lit1 (encN .u8) 1 sl40 rfl hs_8 rfl fun v_2 w_7 hs_9 hch_3 => ?_)
      have hs_9d : Sat w [cL v_1 3 (encN .i64) (cntN (mxN l) l), cL lv_1 3 (encN .i64) (symL l), cL r_2 5 (encN .u8) (uv (l.length)), cL v_2 5 (encN .u8) ([1])] _ := hs_9
      refine RT.eff rfl rfl (OpE.appendL 2 sl40 hs_9d rfl rfl rfl Try.underlying40 (hs_9d.rdL 3 rfl) (by simp; omega) (by simp; omega) fun v_3 w_8 hs_10 hch_4 => ?_)
      have hs_10d : Sat w [cL v_1 3 (encN .i64) (cntN (mxN l) l), cL lv_1 3 (encN .i64) (symL l), cL v_3 5 (encN .u8) (uv (l.length) ++ [1])] _ := hs_10.drop 3
      refine RT.ev rfl rfl (Ev.assign rfl) ?_
      refine RT.nil ?_
      refine CW.seq ?_
      have hu2 := uv_le m
      refine CW.region ?_
      refine RT.ev rfl rfl (Ev.move rfl) <| RT.ev rfl rfl (Ev.move rfl) <| RT.ev rfl rfl (Ev.convK (by rw [Try.underlying3]; rfl) Try.underlying108 rfl (wrap_u rfl (by (try simp only [IntKind.bits]); omega))) ?_
      refine RT.eff rfl rfl (OpE.call ent87 rfl ((ruv_ok (m) _ (by omega)).mono fun r_3 w_9 h_3 => ?_))
      have hp_3 := h_3
      have hs_11 : Sat w [cL v_1 3 (encN .i64) (cntN (mxN l) l), cL lv_1 3 (encN .i64) (symL l), cL v_3 5 (encN .u8) (uv (l.length) ++ [1]), cL r_3 5 (encN .u8) (uv (m))] _ := hs_10d.adds hp_3
      refine RT.eff rfl rfl (OpE.appendL 2 sl40 hs_11 rfl rfl rfl Try.underlying40 (hs_11.rdL 3 rfl) (by simp; omega) (by simp; omega) fun v_4 w_10 hs_12 hch_5 => ?_)
      have hs_12d : Sat w [cL v_1 3 (encN .i64) (cntN (mxN l) l), cL lv_1 3 (encN .i64) (symL l), cL v_4 5 (encN .u8) (uv (l.length) ++ [1] ++ uv (m)), cL r_3 5 (encN .u8) (uv (m))] _ := hs_12
      refine RT.ev rfl rfl (Ev.assign rfl) ?_
      refine RT.nil ?_
      refine CW.seq ?_
      refine CW.seq ?_
      refine CW.region ?_
      refine RT.ev rfl rfl (Ev.move rfl) <| RT.ev rfl rfl (Ev.lenL Try.underlying22 rfl (hs_12d.rdL 1 rfl)) <| RT.ev rfl rfl (Ev.move rfl) ?_
      refine RT.nil ?_
      refine CW.block ?_
      have hs_13 : Sat w [cL v_4 5 (encN .u8) (uv (l.length) ++ [1] ++ uv (m)), cL lv_1 3 (encN .i64) (symL l)] w_10 := ((Sat.order [2, 1, 0, 3] (by decide) hs_12d.tail).untail).sub ((.cons_cons _ (.cons_cons _ (.cons _ (.cons _ .slnil)))))
      have hs_14 : Sat w [cL v_4 5 (encN .u8) (uv l.length ++ [1] ++ uv (symL l).length ++ ((symL l).take (0)).map (· % 2 ^ 8)), cL lv_1 3 (encN .i64) (symL l)] w_10 := by
        have hq : uv (l.length) ++ [1] ++ uv (m) = uv l.length ++ [1] ++ uv (symL l).length ++ ((symL l).take (0)).map (· % 2 ^ 8) := by rw [symL_length, ← hmm]; simp
        rw [← hq]; exact hs_13
      refine CW.loop (α := Nat × Value) (fun (k, bv) => [(0, s.val), (9, lv_1), (11, bv), (61, lv_1), (62, (Value.int .i64 (((symL l).length : Nat) : Int))), (63, (Value.int .i64 ((k : Nat) : Int)))]) (fun (k, bv) w' => Sat w [cL bv 5 (encN .u8) (uv l.length ++ [1] ++ uv (symL l).length ++ ((symL l).take (k)).map (· % 2 ^ 8)), cL lv_1 3 (encN .i64) (symL l)] w' ∧ (k ≤ (symL l).length)) (fun (k, bv) => (symL l).length - k) (0, v_4) ⟨rfl, rfl, rfl, rfl, rfl, rfl, trivial⟩ ⟨hs_14, Nat.zero_le _⟩ ?_
      rintro ⟨k, bv⟩ w_11 ⟨hs_15, hk⟩
      show CW _ _ _ _ [(0, s.val), (9, lv_1), (11, bv), (61, lv_1), (62, (Value.int .i64 (((symL l).length : Nat) : Int))), (63, (Value.int .i64 ((k : Nat) : Int)))] _
      refine CW.seq ?_
      refine CW.region ?_
      refine RT.ev rfl rfl (Ev.lssN rfl rfl) ?_
      refine RT.nil ?_
      refine CW.seq ?_
      refine CW.condD rfl (fun hc_3 => ?_) (fun hc_3 => ?_)
      · refine CW.skip ?_
        refine CW.seq ?_
        refine CW.block ?_
        refine CW.seq ?_
        have hu3 := uv_le (symL l).length
        obtain ⟨x, hx⟩ : ∃ x, (symL l)[k]? = some x := ⟨_, List.getElem?_eq_getElem hc_3⟩
        refine CW.region ?_
        refine RT.ev rfl rfl (Ev.idxL (E := encN .i64) sl22 rfl rfl (hs_15.rdL 1 rfl) (by omega)) <| RT.ev rfl rfl (Ev.ldL (E := encN .i64) scal3 rfl (hs_15.rdL 1 rfl) hx (by decide) rfl) <| RT.ev rfl rfl (Ev.assign rfl) ?_
        refine RT.nil ?_
        refine CW.region ?_
        refine RT.ev rfl rfl (Ev.move rfl) <| RT.ev rfl rfl (Ev.move rfl) <| RT.ev rfl rfl (Ev.convN (by rw [Try.underlying3]; rfl) Try.underlying5 rfl rfl) ?_
        refine RT.eff rfl rfl (OpE.lit1 (encN .u8) (x % 2 ^ 8) sl40 rfl hs_15 rfl fun v_5 w_12 hs_16 hch_6 => ?_)
        have hs_16d : Sat w [cL bv 5 (encN .u8) (uv l.length ++ [1] ++ uv (symL l).length ++ ((symL l).take (k)).map (· % 2 ^ 8)), cL lv_1 3 (encN .i64) (symL l), cL v_5 5 (encN .u8) ([(x % 2 ^ 8)])] _ := hs_16
        refine RT.eff rfl rfl (OpE.appendL 0 sl40 hs_16d rfl rfl rfl Try.underlying40 (hs_16d.rdL 2 rfl) (by simp; omega) (by simp; omega) fun v_6 w_13 hs_17 hch_7 => ?_)
        have hs_17d : Sat w [cL v_6 5 (encN .u8) (uv l.length ++ [1] ++ uv (symL l).length ++ ((symL l).take (k)).map (· % 2 ^ 8) ++ [(x % 2 ^ 8)]), cL lv_1 3 (encN .i64) (symL l)] _ := hs_17.drop 2
        refine RT.ev rfl rfl (Ev.assign rfl) ?_
        refine RT.nil ?_
        refine CW.region ?_
        refine RT.ev rfl rfl (Ev.addI (b := 1) rfl rfl (by omega)) <| RT.ev rfl rfl (Ev.move rfl) ?_
        refine RT.nil ?_
        have hs_18 : Sat w [cL v_6 5 (encN .u8) (uv l.length ++ [1] ++ uv (symL l).length ++ ((symL l).take (k)).map (· % 2 ^ 8) ++ [(x % 2 ^ 8)]), cL lv_1 3 (encN .i64) (symL l)] w_13 := hs_17d.sub ((.cons_cons _ (.cons_cons _ .slnil)))
        have hs_19 : Sat w [cL v_6 5 (encN .u8) (uv l.length ++ [1] ++ uv (symL l).length ++ ((symL l).take (k + 1)).map (· % 2 ^ 8)), cL lv_1 3 (encN .i64) (symL l)] w_13 := by
          have hq : uv l.length ++ [1] ++ uv (symL l).length ++ ((symL l).take (k)).map (· % 2 ^ 8) ++ [(x % 2 ^ 8)] = uv l.length ++ [1] ++ uv (symL l).length ++ ((symL l).take (k + 1)).map (· % 2 ^ 8) := by rw [take_succ_of hx]; simp
          rw [← hq]; exact hs_18
        exact ⟨(k + 1, v_6), ⟨rfl, rfl, rfl, rfl, rfl, rfl, trivial⟩, ⟨hs_19, by omega⟩, (show ((symL l).length - (k + 1)) < ((symL l).length - k) from by omega)⟩
      · refine CW.exit0 ?_
        refine CW.seq ?_
        refine CW.seq ?_
        refine CW.region ?_
        refine RT.ev rfl rfl (Ev.move rfl) ?_
        have hA_1 : Sat w ([] ++ ([cL bv 5 (encN .u8) (uv l.length ++ [1] ++ uv (symL l).length ++ ((symL l).take (k)).map (· % 2 ^ 8)), cL lv_1 3 (encN .i64) (symL l)] ++ [])) _ := (Sat.order [0, 1] (by decide) hs_15.tail).cut 0
        refine RT.eff rfl rfl (OpE.call ent107 rfl ((rblocks_ok _ _ _ _ (l) hA_1 hv (by omega)).mono fun r_4 w_14 h_4 => ?_))
        obtain ⟨ps_1, hps_1, hall_1, hp_4⟩ := h_4
        have hs_20 : Sat w [cL bv 5 (encN .u8) (uv l.length ++ [1] ++ uv (symL l).length ++ ((symL l).take (k)).map (· % 2 ^ 8)), cL lv_1 3 (encN .i64) (symL l), cL r_4 22 (encSl Nat) (ps_1)] _ := (Sat.order [1, 2, 0] (by decide) hp_4.join).untail
        refine RT.ev rfl rfl (Ev.lenL Try.underlying136 rfl (hs_20.rdL 2 rfl)) <| RT.ev rfl rfl (Ev.move rfl) ?_
        refine RT.nil ?_
        refine CW.block ?_
        have hpsl : ps_1.length = nbk l.length := by have h1 := congrArg List.length hps_1; simpa using h1
        have hs_21 : Sat w [cL bv 5 (encN .u8) (uv l.length ++ [1] ++ uv (symL l).length ++ ((symL l).take (k)).map (· % 2 ^ 8)), cL lv_1 3 (encN .i64) (symL l), cL r_4 22 (encSl Nat) (ps_1)] w_14 := hs_20.sub ((.cons_cons _ (.cons_cons _ (.cons_cons _ .slnil))))
        have hs_22 : Sat w [cL bv 5 (encN .u8) (hdP l.length 1 (symL l) ++ pld 1 ((pk1 l (nbk l.length)).take (0))), cL lv_1 3 (encN .i64) (symL l), cL r_4 22 (encSl Nat) (ps_1)] w_14 := by
          have hq : uv l.length ++ [1] ++ uv (symL l).length ++ ((symL l).take (k)).map (· % 2 ^ 8) = hdP l.length 1 (symL l) ++ pld 1 ((pk1 l (nbk l.length)).take (0)) := by rw [hdP_one, show k = (symL l).length by omega, List.take_length]; simp [pld]
          rw [← hq]; exact hs_21
        refine CW.loop (α := Nat × Value) (fun (q, bv) => [(0, s.val), (9, lv_1), (11, bv), (74, r_4), (75, (Value.int .i64 ((ps_1.length : Nat) : Int))), (76, (Value.int .i64 ((q : Nat) : Int)))]) (fun (q, bv) w' => Sat w [cL bv 5 (encN .u8) (hdP l.length 1 (symL l) ++ pld 1 ((pk1 l (nbk l.length)).take (q))), cL lv_1 3 (encN .i64) (symL l), cL r_4 22 (encSl Nat) (ps_1)] w' ∧ (q ≤ ps_1.length) ∧ ((hdP l.length 1 (symL l) ++ pld 1 ((pk1 l (nbk l.length)).take (q))).length ≤ 2000 + 20010 * q)) (fun (q, bv) => nbk l.length - q) (0, bv) ⟨rfl, rfl, rfl, rfl, rfl, rfl, trivial⟩ ⟨hs_22, Nat.zero_le _, by have h1 := hdP_length l.length 1 (symL l); simp [pld]; omega⟩ ?_
        rintro ⟨q, bv⟩ w_15 ⟨hs_23, hq, hpb⟩
        show CW _ _ _ _ [(0, s.val), (9, lv_1), (11, bv), (74, r_4), (75, (Value.int .i64 ((ps_1.length : Nat) : Int))), (76, (Value.int .i64 ((q : Nat) : Int)))] _
        refine CW.seq ?_
        refine CW.region ?_
        refine RT.ev rfl rfl (Ev.lssN rfl rfl) ?_
        refine RT.nil ?_
        refine CW.seq ?_
        refine CW.condD rfl (fun hc_4 => ?_) (fun hc_4 => ?_)
        · refine CW.skip ?_
          refine CW.seq ?_
          refine CW.block ?_
          refine CW.seq ?_
          obtain ⟨x, hx⟩ : ∃ x, (ps_1)[q]? = some x := ⟨_, List.getElem?_eq_getElem hc_4⟩
          obtain ⟨hkb, hx2⟩ := chks_get hps_1 hx
          have hcl : x.2.length ≤ 64 := by rw [hx2, chk_length]; omega
          have hhl := hufB_length (GoodLens.of_valid (validB_ok (symL_ok l hmx))) x.2
          have hpkl := packB_length (hufB (symL l) x.2)
          have hpu := uv_le (hufB (symL l) x.2).length
          refine CW.region ?_
          refine RT.ev rfl rfl (Ev.idxL (E := encSl Nat) sl136 rfl rfl (hs_23.rdL 2 rfl) (by omega)) <| RT.ev rfl rfl (Ev.ldL (E := encSl Nat) scal22 rfl (hs_23.rdL 2 rfl) hx (by decide) rfl) <| RT.ev rfl rfl (Ev.assign rfl) ?_
          refine RT.nil ?_
          refine CW.seq ?_
          refine CW.region ?_
          refine RT.ev rfl rfl (Ev.move rfl) <| RT.ev rfl rfl (Ev.move rfl) ?_
          refine RT.eff rfl rfl (OpE.call ent108 rfl ((rhencode_ok _ _ (symL l) (x.2) _ (hs_23.rdL 1 rfl) ((hall_1 x (mem_of_get hx)).ext hs_23.ext) (by rw [symL_length]; exact hmx) (validB_ok (symL_ok l hmx)) (by omega) (fun y hy => symL_pos hmx y (by rw [hx2] at hy; exact chk_mem hy))).mono fun r_5 w_16 h_5 => ?_))
          obtain ⟨hv_1, rfl, hp_5⟩ := h_5
          have hs_24 : Sat w [cL bv 5 (encN .u8) (hdP l.length 1 (symL l) ++ pld 1 ((pk1 l (nbk l.length)).take (q))), cL lv_1 3 (encN .i64) (symL l), cL r_4 22 (encSl Nat) (ps_1), cL hv_1 5 (encN .u8) (packB (hufB (symL l) x.2))] _ := hs_23.adds hp_5
          refine RT.ev rfl rfl (Ev.move rfl) <| RT.ev rfl rfl (Ev.extract rfl rfl) <| RT.ev rfl rfl (Ev.extract rfl rfl) <| RT.ev rfl rfl (Ev.extract rfl rfl) <| RT.ev rfl rfl (Ev.assign rfl) <| RT.ev rfl rfl (Ev.assign rfl) <| RT.ev rfl rfl (Ev.assign rfl) ?_
          refine RT.nil ?_
          refine CW.region ?_
          refine RT.ev rfl rfl (Ev.move rfl) <| RT.ev rfl rfl (Ev.move rfl) <| RT.ev rfl rfl (Ev.convK (by rw [Try.underlying3]; rfl) Try.underlying108 rfl (wrap_u rfl (by (try simp only [IntKind.bits]); omega))) ?_
          refine RT.eff rfl rfl (OpE.call ent87 rfl ((ruv_ok ((hufB (symL l) x.2).length) _ (by omega)).mono fun r_6 w_17 h_6 => ?_))
          have hp_6 := h_6
          have hs_25 : Sat w [cL bv 5 (encN .u8) (hdP l.length 1 (symL l) ++ pld 1 ((pk1 l (nbk l.length)).take (q))), cL lv_1 3 (encN .i64) (symL l), cL r_4 22 (encSl Nat) (ps_1), cL hv_1 5 (encN .u8) (packB (hufB (symL l) x.2)), cL r_6 5 (encN .u8) (uv ((hufB (symL l) x.2).length))] _ := hs_24.adds hp_6
          refine RT.eff rfl rfl (OpE.appendL 0 sl40 hs_25 rfl rfl rfl Try.underlying40 (hs_25.rdL 4 rfl) (by (try simp only [List.length_append]); simp only [List.length_append] at hpb; omega) (by (try simp only [List.length_append]); simp only [List.length_append] at hpb; omega) fun v_7 w_18 hs_26 hch_8 => ?_)
          have hs_26d : Sat w [cL v_7 5 (encN .u8) (hdP l.length 1 (symL l) ++ pld 1 ((pk1 l (nbk l.length)).take (q)) ++ uv ((hufB (symL l) x.2).length)), cL lv_1 3 (encN .i64) (symL l), cL r_4 22 (encSl Nat) (ps_1), cL hv_1 5 (encN .u8) (packB (hufB (symL l) x.2)), cL r_6 5 (encN .u8) (uv ((hufB (symL l) x.2).length))] _ := hs_26
          refine RT.ev rfl rfl (Ev.move rfl) ?_
          refine RT.eff rfl rfl (OpE.appendL 0 sl40 hs_26d rfl rfl rfl Try.underlying40 (hs_26d.rdL 3 rfl) (by (try simp only [List.length_append]); simp only [List.length_append] at hpb; omega) (by (try simp only [List.length_append]); simp only [List.length_append] at hpb; omega) fun v_8 w_19 hs_27 hch_9 => ?_)
          have hs_27d : Sat w [cL v_8 5 (encN .u8) (hdP l.length 1 (symL l) ++ pld 1 ((pk1 l (nbk l.length)).take (q)) ++ uv ((hufB (symL l) x.2).length) ++ packB (hufB (symL l) x.2)), cL lv_1 3 (encN .i64) (symL l), cL r_4 22 (encSl Nat) (ps_1), cL hv_1 5 (encN .u8) (packB (hufB (symL l) x.2)), cL r_6 5 (encN .u8) (uv ((hufB (symL l) x.2).length))] _ := hs_27
          refine RT.ev rfl rfl (Ev.assign rfl) ?_
          refine RT.nil ?_
          refine CW.region ?_
          refine RT.ev rfl rfl (Ev.addI (b := 1) rfl rfl (by omega)) <| RT.ev rfl rfl (Ev.move rfl) ?_
          refine RT.nil ?_
          have hs_28 : Sat w [cL v_8 5 (encN .u8) (hdP l.length 1 (symL l) ++ pld 1 ((pk1 l (nbk l.length)).take (q)) ++ uv ((hufB (symL l) x.2).length) ++ packB (hufB (symL l) x.2)), cL lv_1 3 (encN .i64) (symL l), cL r_4 22 (encSl Nat) (ps_1)] w_19 := hs_27d.sub ((.cons_cons _ (.cons_cons _ (.cons_cons _ (.cons _ (.cons _ .slnil))))))
          have hs_29 : Sat w [cL v_8 5 (encN .u8) (hdP l.length 1 (symL l) ++ pld 1 ((pk1 l (nbk l.length)).take (q + 1))), cL lv_1 3 (encN .i64) (symL l), cL r_4 22 (encSl Nat) (ps_1)] w_19 := by
            have hq : hdP l.length 1 (symL l) ++ pld 1 ((pk1 l (nbk l.length)).take (q)) ++ uv ((hufB (symL l) x.2).length) ++ packB (hufB (symL l) x.2) = hdP l.length 1 (symL l) ++ pld 1 ((pk1 l (nbk l.length)).take (q + 1)) := by rw [take_succ_of (pk1_get hkb), pld_snoc, pld1, hx2]; simp
            rw [← hq]; exact hs_28
          exact ⟨(q + 1, v_8), ⟨rfl, rfl, rfl, rfl, rfl, rfl, trivial⟩, ⟨hs_29, by omega, by rw [take_succ_of (pk1_get hkb), pld_snoc, pld1, if_neg (by decide), ← hx2]; simp only [List.length_append] at hpb ⊢; omega⟩, (show (nbk l.length - (q + 1)) < (nbk l.length - q) from by omega)⟩
        · refine CW.exit0 ?_
          refine CW.seq ?_
          refine CW.region ?_
          refine RT.ev rfl rfl (Ev.move rfl) <| RT.ev rfl rfl (Ev.assign rfl) ?_
          refine RT.nil ?_
          refine CW.ret ?_
          show PostK _ _ _ _ _ _
          refine post1 rfl rfl ?_
          have hs_30 : Sat w [cL bv 5 (encN .u8) (hdP l.length 1 (symL l) ++ pld 1 ((pk1 l (nbk l.length)).take (q)))] w_15 := hs_23.sub ((.cons_cons _ (.cons _ (.cons _ .slnil))))
          have hkn : q = nbk l.length := by omega
          have hs_31 : Sat w [cL bv 5 (encN .u8) (plK l 1)] w_15 := by
            have hq : hdP l.length 1 (symL l) ++ pld 1 ((pk1 l (nbk l.length)).take (q)) = plK l 1 := by rw [plK_one, hkn, List.take_of_length_le (by rw [pk1_len]; exact Nat.le_refl _)]
            rw [← hq]; exact hs_30
          exact hs_31

theorem rkind_ok (s : SV) (l : List Nat) (w : World) (hv : RdL w s.val (encN .i64) l) (hl : OkN l) :
    CallsV Try.prog 30 [s.val] w fun r w' => r = .int .i64 ((kindN l : Nat) : Int) ∧ Sat w [] w' := by
  have hs0 := Sat.start w
  refine callsV_of Try.func30 rfl rfl ?_
  refine CW.seq ?_
  refine CW.region ?_
  refine RT.ev rfl rfl (Ev.assign rfl) ?_
  refine RT.nil ?_
  refine CW.seq ?_
  refine CW.seq ?_
  refine CW.region ?_
  refine RT.ev rfl rfl (Ev.move rfl) ?_
  refine RT.eff rfl rfl (OpE.call ent66 rfl ((rkind1_ok _ (l) _ (hv.ext hs0.ext) (hl)).mono fun r_1 w_1 h_1 => ?_))
  have hp_1 := h_1
  have hs_1 : Sat w [cL r_1 5 (encN .u8) (plK l 1)] _ := hs0.adds hp_1
  refine RT.ev rfl rfl (Ev.lenL Try.underlying40 rfl (hs_1.rdL 0 rfl)) <| RT.ev rfl rfl (Ev.move rfl) ?_
  refine RT.eff rfl rfl (OpE.call ent67 rfl ((rkind0_ok _ (l) _ (hv.ext hs_1.ext) (hl)).mono fun r_2 w_2 h_2 => ?_))
  have hp_2 := h_2
  have hs_2 : Sat w [cL r_1 5 (encN .u8) (plK l 1), cL r_2 5 (encN .u8) (plK l 0)] _ := hs_1.adds hp_2
  refine RT.ev rfl rfl (Ev.lenL Try.underlying40 rfl (hs_2.rdL 1 rfl)) <| RT.ev rfl rfl (Ev.lssN rfl rfl) ?_
  refine RT.nil ?_
  refine CW.condD rfl (fun hc_1 => ?_) (fun hc_1 => ?_)
  · refine CW.seq ?_
    refine CW.region ?_
    refine RT.ev rfl rfl (Ev.assign rfl) ?_
    refine RT.nil ?_
    refine CW.ret ?_
    show PostK _ _ _ _ _ _
    refine post1 rfl rfl ?_
    have hs_3 : Sat w [] w_2 := hs_2.sub ((.cons _ (.cons _ .slnil)))
    exact ⟨by rw [kindN, if_pos hc_1]; rfl, hs_3⟩
  · refine CW.skip ?_
    refine CW.seq ?_
    refine CW.region ?_
    refine RT.ev rfl rfl (Ev.assign rfl) ?_
    refine RT.nil ?_
    refine CW.ret ?_
    show PostK _ _ _ _ _ _
    refine post1 rfl rfl ?_
    have hs_4 : Sat w [] w_2 := hs_2.sub ((.cons _ (.cons _ .slnil)))
    exact ⟨by rw [kindN, if_neg hc_1]; rfl, hs_4⟩

theorem plK_lt {l : List Nat} {k : Nat} (hk : k ≤ 1) : ∀ x ∈ plK l k, x < 256 := by
  refine payl_lt _ _ _ _ fun p hp x hx => ?_
  split at hp
  · obtain ⟨i, _, rfl⟩ := List.mem_map.1 hp; exact packB_lt _ x hx
  · obtain ⟨i, _, rfl⟩ := List.mem_map.1 hp; exact encBk_lt _ _ x hx

theorem rencode_ok (s : SV) (l : List Nat) (w : World) (hv : RdL w s.val (encN .i64) l) (hl : OkN l) :
    CallsV Try.prog 31 [s.val] w fun r w' => Sat w [cL r 5 (encN .u8) (sealN (plK l (kindN l)))] w' := by
  have hs0 := Sat.start w
  refine callsV_of Try.func31 rfl rfl ?_
  refine CW.seq ?_
  refine CW.region ?_
  refine RT.ev rfl rfl (Ev.assign rfl) ?_
  refine RT.nil ?_
  refine CW.seq ?_
  refine CW.seq ?_
  refine CW.region ?_
  refine RT.ev rfl rfl (Ev.move rfl) ?_
  refine RT.eff rfl rfl (OpE.call ent30 rfl ((rkind_ok _ (l) _ (hv.ext hs0.ext) (hl)).mono fun r_1 w_1 h_1 => ?_))
  obtain ⟨rfl, hp_1⟩ := h_1
  have hs_1 : Sat w [] _ := hs0.adds hp_1
  refine RT.ev rfl rfl (Ev.eqlN (b := 1) rfl rfl) ?_
  refine RT.nil ?_
  refine CW.condD rfl (fun hc_1 => ?_) (fun hc_1 => ?_)
  · refine CW.seq ?_
    have hpn := plK_len hl (k := 1) (by decide)
    refine CW.region ?_
    refine RT.ev rfl rfl (Ev.move rfl) ?_
    refine RT.eff rfl rfl (OpE.call ent66 rfl ((rkind1_ok _ (l) _ (hv.ext hs_1.ext) (hl)).mono fun r_2 w_2 h_2 => ?_))
    have hp_2 := h_2
    have hs_2 : Sat w [cL r_2 5 (encN .u8) (plK l 1)] _ := hs_1.adds hp_2
    refine RT.eff rfl rfl (OpE.call ent68 rfl ((rseal_ok _ (plK l 1) _ (hs_2.rdL 0 rfl) (plK_lt (by decide)) (by omega)).mono fun r_3 w_3 h_3 => ?_))
    have hp_3 := h_3
    have hs_3 : Sat w [cL r_2 5 (encN .u8) (plK l 1), cL r_3 5 (encN .u8) (sealN (plK l 1))] _ := hs_2.adds hp_3
    refine RT.ev rfl rfl (Ev.assign rfl) ?_
    refine RT.nil ?_
    refine CW.ret ?_
    show PostK _ _ _ _ _ _
    refine post1 rfl rfl ?_
    have hs_4 : Sat w [cL r_3 5 (encN .u8) (sealN (plK l 1))] w_3 := hs_3.sub ((.cons _ (.cons_cons _ .slnil)))
    have hkd : kindN l = 1 := hc_1
    have hs_5 : Sat w [cL r_3 5 (encN .u8) (sealN (plK l (kindN l)))] w_3 := by
      have hq : sealN (plK l 1) = sealN (plK l (kindN l)) := by rw [hkd]
      rw [← hq]; exact hs_4
    exact hs_5
  · refine CW.skip ?_
    refine CW.seq ?_
    have hpn := plK_len hl (k := 0) (by decide)
    refine CW.region ?_
    refine RT.ev rfl rfl (Ev.move rfl) ?_
    refine RT.eff rfl rfl (OpE.call ent67 rfl ((rkind0_ok _ (l) _ (hv.ext hs_1.ext) (hl)).mono fun r_4 w_4 h_4 => ?_))
    have hp_4 := h_4
    have hs_6 : Sat w [cL r_4 5 (encN .u8) (plK l 0)] _ := hs_1.adds hp_4
    refine RT.eff rfl rfl (OpE.call ent68 rfl ((rseal_ok _ (plK l 0) _ (hs_6.rdL 0 rfl) (plK_lt (by decide)) (by omega)).mono fun r_5 w_5 h_5 => ?_))
    have hp_5 := h_5
    have hs_7 : Sat w [cL r_4 5 (encN .u8) (plK l 0), cL r_5 5 (encN .u8) (sealN (plK l 0))] _ := hs_6.adds hp_5
    refine RT.ev rfl rfl (Ev.assign rfl) ?_
    refine RT.nil ?_
    refine CW.ret ?_
    show PostK _ _ _ _ _ _
    refine post1 rfl rfl ?_
    have hs_8 : Sat w [cL r_5 5 (encN .u8) (sealN (plK l 0))] w_5 := hs_7.sub ((.cons _ (.cons_cons _ .slnil)))
    have hkd : kindN l = 0 := by have := kindN_le l; omega
    have hs_9 : Sat w [cL r_5 5 (encN .u8) (sealN (plK l (kindN l)))] w_5 := by
      have hq : sealN (plK l 0) = sealN (plK l (kindN l)) := by rw [hkd]
      rw [← hq]; exact hs_8
    exact hs_9

end Go.Proofs.Ytfhbflhnelbkfaa

/- The walks of the functions of F16t, printed by our own program (kwgen.py) out of our descriptions (base.py). -/
namespace Go.Proofs.Ytfhbflhnelbkfaa
open Go.RowKit Go.Kw
set_option maxRecDepth 100000
set_option linter.unusedVariables false
set_option linter.unusedSimpArgs false
theorem arr4_130 : arr4B Try.prog 130 = true := by kernel_rfl
theorem unseal_ok (v : Value) (b : List Nat) (w : World) (hv : RdL w v (encN .u8) b) (hb : ∀ x ∈ b, x < 256) (hn : b.length ≤ 1000000000) (h4 : 4 ≤ b.length) (hsum : byts (sumN (b.take (b.length - 4))) = b.drop (b.length - 4)) :
    CallsV Try.prog 63 [v] w fun r w' => ∃ v', r = .tuple #[v', .int .i64 ((0 : Nat) : Int)] ∧ Sat w [cL v' 5 (encN .u8) (b.take (b.length - 4))] w' := by
  have hs0 := Sat.start w
  refine callsV_of Try.func63 rfl rfl ?_
  refine CW.seq ?_
  refine CW.region ?_
  refine RT.ev rfl rfl (Ev.assign rfl) <| RT.ev rfl rfl (Ev.assign rfl) ?_
  refine RT.nil ?_
  refine CW.seq ?_
  refine CW.seq ?_
  refine CW.region ?_
  refine RT.ev rfl rfl (Ev.move rfl) <| RT.ev rfl rfl (Ev.lenL Try.underlying40 rfl (hv.ext hs0.ext)) <| RT.ev rfl rfl (Ev.lssN (b := 4) rfl rfl) ?_
  refine RT.nil ?_
  refine CW.condF rfl (decide_eq_false (by omega)) ?_
  refine CW.skip ?_
  refine CW.seq ?_
  refine CW.region ?_
  refine RT.ev rfl rfl (Ev.move rfl) <| RT.ev rfl rfl (Ev.lenL Try.underlying40 rfl (hv.ext hs0.ext)) <| RT.ev rfl rfl (Ev.subI (b := 4) rfl rfl (by omega) (by omega)) <| RT.ev rfl rfl (Ev.assign rfl) ?_
  refine RT.nil ?_
  refine CW.seq ?_
  refine CW.seq ?_
  refine CW.draw (fun w' => Sat w [] w') (.free 0 (.free 1 (.free 2 (.free 5 (.free 6 (.free 7 (.two 3 8 (.two 4 8 (.one 8 (.free 9 (.free 10 .fin))) (.free 9 (.one 4 (.free 10 .fin)))) (.free 9 (.one 3 (.one 4 (.free 10 .fin))))))))))) mixed (by kernel_rfl) ?_
  have hs_1 := hs0.drew
  refine RP.ev rfl rfl rfl (fun w' hS' => Ev.move rfl) hs_1 ?_
  refine RP.ev rfl rfl rfl (fun w' hS' => Ev.move rfl) hs_1 ?_
  refine RP.ev rfl rfl rfl (fun w' hS' => Ev.sliceL (E := encN .u8) (a := 0) (c := (b.length - 4)) sl40 rfl (hv.ext hS'.ext) rfl ⟨_, rfl⟩ (Nat.zero_le _) (by omega)) hs_1 ?_
  refine RP.ev rfl rfl rfl (fun w' hS' => Ev.move rfl) hs_1 ?_
  refine RP.ev rfl rfl rfl (fun w' hS' => Ev.move rfl) hs_1 ?_
  refine RP.ev rfl rfl rfl (fun w' hS' => Ev.sliceL (E := encN .u8) (a := (b.length - 4)) (c := (b).length) sl40 rfl (hv.ext hS'.ext) ⟨_, rfl⟩ rfl (by omega) (Nat.le_refl _)) hs_1 ?_
  refine RP.two rfl rfl rfl rfl rfl rfl (OpE.call ent103 rfl ((sum_ok _ (((b).take (b.length - 4)).drop 0) _ (((hv.ext hs_1.ext)).sub (a := 0) (b := (b.length - 4)) (Nat.zero_le _) (by omega)) (fun x hx => hb x (List.mem_of_mem_take (List.mem_of_mem_drop hx))) (by simp; omega)).mono fun r_1 w_1 h_1 => ?_)) (OpE.ev (Ev.toArr (E := encN .u8) Try.underlying130 rfl (((hv.ext hs_1.ext)).sub (a := (b.length - 4)) (b := (b).length) (by omega) (Nat.le_refl _)) (by simp; omega)) ⟨hs_1, ?_⟩)
  · obtain ⟨rfl, hp_1⟩ := h_1
    have hs_2 : Sat w [] _ := hs_1.adds hp_1
    have hS_1 : Sat w [] _ := hs_2.sub (.slnil)
    refine ⟨hS_1, ?_⟩
    refine RP.two rfl rfl rfl rfl rfl rfl (OpE.call ent102 rfl ((bytesOf_ok ((sumN (((b).take (b.length - 4)).drop 0))) _ (sumN_lt (fun x hx => hb x (List.mem_of_mem_take (List.mem_of_mem_drop hx))))).mono fun r_2 w_2 h_2 => ?_)) (OpE.ev (Ev.toArr (E := encN .u8) Try.underlying130 rfl (((hv.ext hs_2.ext)).sub (a := (b.length - 4)) (b := (b).length) (by omega) (Nat.le_refl _)) (by simp; omega)) ⟨hS_1, ?_⟩)
    · obtain ⟨rfl, hp_2⟩ := h_2
      have hs_3 : Sat w [] _ := hs_2.adds hp_2
      have hS_2 : Sat w [] _ := hs_3.sub (.slnil)
      refine ⟨hS_2, ?_⟩
      refine RP.eff rfl rfl rfl (OpE.ev (Ev.toArr (E := encN .u8) Try.underlying130 rfl (((hv.ext hs_3.ext)).sub (a := (b.length - 4)) (b := (b).length) (by omega) (Nat.le_refl _)) (by simp; omega)) ⟨hS_2, ?_⟩)
      refine RP.ev rfl rfl rfl (fun w' hS' => Ev.ldArr (E := encN .u8) agg130 rfl (((hv.ext hS'.ext)).sub (a := (b.length - 4)) (b := (b).length) (by omega) (Nat.le_refl _)) (by show _ * 1 = _; simp; omega) (by decide)) hS_2 ?_
      refine RP.ev rfl rfl rfl (fun w' hS' => Ev.neqArr4 arr4_130 (rfl) (by simp; omega) rfl rfl) hS_2 ?_
      refine RP.fin ?_
      refine CW.condF rfl (decide_eq_false (fun h => h (by rw [List.drop_zero, List.take_length]; exact hsum))) ?_
      refine CW.skip ?_
      refine CW.seq ?_
      refine CW.region ?_
      refine RT.eff rfl rfl (OpE.lit0 (encN .u8) sl40 hs_3 fun v_1 w_3 hs_4 hch_1 => ?_)
      have hs_4d : Sat w [cL v_1 5 (encN .u8) ([])] _ := hs_4
      refine RT.ev rfl rfl (Ev.move rfl) <| RT.ev rfl rfl (Ev.move rfl) <| RT.ev rfl rfl (Ev.sliceL (E := encN .u8) (a := 0) (c := (b.length - 4)) sl40 rfl (hv.ext hs_4d.ext) rfl ⟨_, rfl⟩ (Nat.zero_le _) (by omega)) ?_
      refine RT.eff rfl rfl (OpE.appendL 0 sl40 hs_4d rfl rfl rfl Try.underlying40 (((hv.ext hs_4d.ext)).sub (a := 0) (b := (b.length - 4)) (Nat.zero_le _) (by omega)) (by simp; omega) (by simp; omega) fun v_2 w_4 hs_5 hch_2 => ?_)
      have hs_5d : Sat w [cL v_2 5 (encN .u8) (((b).take (b.length - 4)).drop 0)] _ := hs_5
      refine RT.ev rfl rfl (Ev.assign rfl) <| RT.ev rfl rfl (Ev.assign rfl) ?_
      refine RT.nil ?_
      refine CW.ret ?_
      show PostK _ _ _ _ _ _
      refine post2 rfl rfl rfl ?_
      have hs_6 : Sat w [cL v_2 5 (encN .u8) (((b).take (b.length - 4)).drop 0)] w_4 := hs_5d.sub ((.cons_cons _ .slnil))
      have hs_7 : Sat w [cL v_2 5 (encN .u8) (b.take (b.length - 4))] w_4 := by
        have hq : ((b).take (b.length - 4)).drop 0 = b.take (b.length - 4) := by simp
        rw [← hq]; exact hs_6
      exact ⟨_, rfl, hs_7⟩
    · refine RP.ev rfl rfl rfl (fun w' hS' => Ev.ldArr (E := encN .u8) agg130 rfl (((hv.ext hS'.ext)).sub (a := (b.length - 4)) (b := (b).length) (by omega) (Nat.le_refl _)) (by show _ * 1 = _; simp; omega) (by decide)) hS_1 ?_
      refine RP.eff rfl rfl rfl (OpE.call ent102 rfl ((bytesOf_ok ((sumN (((b).take (b.length - 4)).drop 0))) _ (sumN_lt (fun x hx => hb x (List.mem_of_mem_take (List.mem_of_mem_drop hx))))).mono fun r_3 w_5 h_3 => ?_))
      obtain ⟨rfl, hp_3⟩ := h_3
      have hs_8 : Sat w [] _ := hs_2.adds hp_3
      have hS_3 : Sat w [] _ := hs_8.sub (.slnil)
      refine ⟨hS_3, ?_⟩
      refine RP.ev rfl rfl rfl (fun w' hS' => Ev.neqArr4 arr4_130 (rfl) (by simp; omega) rfl rfl) hS_3 ?_
      refine RP.fin ?_
      refine CW.condF rfl (decide_eq_false (fun h => h (by rw [List.drop_zero, List.take_length]; exact hsum))) ?_
      refine CW.skip ?_
      refine CW.seq ?_
      refine CW.region ?_
      refine RT.eff rfl rfl (OpE.lit0 (encN .u8) sl40 hs_8 fun v_3 w_6 hs_9 hch_3 => ?_)
      have hs_9d : Sat w [cL v_3 5 (encN .u8) ([])] _ := hs_9
      refine RT.ev rfl rfl (Ev.move rfl) <| RT.ev rfl rfl (Ev.move rfl) <| RT.ev rfl rfl (Ev.sliceL (E := encN .u8) (a := 0) (c := (b.length - 4)) sl40 rfl (hv.ext hs_9d.ext) rfl ⟨_, rfl⟩ (Nat.zero_le _) (by omega)) ?_
      refine RT.eff rfl rfl (OpE.appendL 0 sl40 hs_9d rfl rfl rfl Try.underlying40 (((hv.ext hs_9d.ext)).sub (a := 0) (b := (b.length - 4)) (Nat.zero_le _) (by omega)) (by simp; omega) (by simp; omega) fun v_4 w_7 hs_10 hch_4 => ?_)
      have hs_10d : Sat w [cL v_4 5 (encN .u8) (((b).take (b.length - 4)).drop 0)] _ := hs_10
      refine RT.ev rfl rfl (Ev.assign rfl) <| RT.ev rfl rfl (Ev.assign rfl) ?_
      refine RT.nil ?_
      refine CW.ret ?_
      show PostK _ _ _ _ _ _
      refine post2 rfl rfl rfl ?_
      have hs_11 : Sat w [cL v_4 5 (encN .u8) (((b).take (b.length - 4)).drop 0)] w_7 := hs_10d.sub ((.cons_cons _ .slnil))
      have hs_12 : Sat w [cL v_4 5 (encN .u8) (b.take (b.length - 4))] w_7 := by
        have hq : ((b).take (b.length - 4)).drop 0 = b.take (b.length - 4) := by simp
        rw [← hq]; exact hs_11
      exact ⟨_, rfl, hs_12⟩
  · refine RP.ev rfl rfl rfl (fun w' hS' => Ev.ldArr (E := encN .u8) agg130 rfl (((hv.ext hS'.ext)).sub (a := (b.length - 4)) (b := (b).length) (by omega) (Nat.le_refl _)) (by show _ * 1 = _; simp; omega) (by decide)) hs_1 ?_
    refine RP.eff rfl rfl rfl (OpE.call ent103 rfl ((sum_ok _ (((b).take (b.length - 4)).drop 0) _ (((hv.ext hs_1.ext)).sub (a := 0) (b := (b.length - 4)) (Nat.zero_le _) (by omega)) (fun x hx => hb x (List.mem_of_mem_take (List.mem_of_mem_drop hx))) (by simp; omega)).mono fun r_4 w_8 h_4 => ?_))
    obtain ⟨rfl, hp_4⟩ := h_4
    have hs_13 : Sat w [] _ := hs_1.adds hp_4
    have hS_4 : Sat w [] _ := hs_13.sub (.slnil)
    refine ⟨hS_4, ?_⟩
    refine RP.eff rfl rfl rfl (OpE.call ent102 rfl ((bytesOf_ok ((sumN (((b).take (b.length - 4)).drop 0))) _ (sumN_lt (fun x hx => hb x (List.mem_of_mem_take (List.mem_of_mem_drop hx))))).mono fun r_5 w_9 h_5 => ?_))
    obtain ⟨rfl, hp_5⟩ := h_5
    have hs_14 : Sat w [] _ := hs_13.adds hp_5
    have hS_5 : Sat w [] _ := hs_14.sub (.slnil)
    refine ⟨hS_5, ?_⟩
    refine RP.ev rfl rfl rfl (fun w' hS' => Ev.neqArr4 arr4_130 (rfl) (by simp; omega) rfl rfl) hS_5 ?_
    refine RP.fin ?_
    refine CW.condF rfl (decide_eq_false (fun h => h (by rw [List.drop_zero, List.take_length]; exact hsum))) ?_
    refine CW.skip ?_
    refine CW.seq ?_
    refine CW.region ?_
    refine RT.eff rfl rfl (OpE.lit0 (encN .u8) sl40 hs_14 fun v_5 w_10 hs_15 hch_5 => ?_)
    have hs_15d : Sat w [cL v_5 5 (encN .u8) ([])] _ := hs_15
    refine RT.ev rfl rfl (Ev.move rfl) <| RT.ev rfl rfl (Ev.move rfl) <| RT.ev rfl rfl (Ev.sliceL (E := encN .u8) (a := 0) (c := (b.length - 4)) sl40 rfl (hv.ext hs_15d.ext) rfl ⟨_, rfl⟩ (Nat.zero_le _) (by omega)) ?_
    refine RT.eff rfl rfl (OpE.appendL 0 sl40 hs_15d rfl rfl rfl Try.underlying40 (((hv.ext hs_15d.ext)).sub (a := 0) (b := (b.length - 4)) (Nat.zero_le _) (by omega)) (by simp; omega) (by simp; omega) fun v_6 w_11 hs_16 hch_6 => ?_)
    have hs_16d : Sat w [cL v_6 5 (encN .u8) (((b).take (b.length - 4)).drop 0)] _ := hs_16
    refine RT.ev rfl rfl (Ev.assign rfl) <| RT.ev rfl rfl (Ev.assign rfl) ?_
    refine RT.nil ?_
    refine CW.ret ?_
    show PostK _ _ _ _ _ _
    refine post2 rfl rfl rfl ?_
    have hs_17 : Sat w [cL v_6 5 (encN .u8) (((b).take (b.length - 4)).drop 0)] w_11 := hs_16d.sub ((.cons_cons _ .slnil))
    have hs_18 : Sat w [cL v_6 5 (encN .u8) (b.take (b.length - 4))] w_11 := by
      have hq : ((b).take (b.length - 4)).drop 0 = b.take (b.length - 4) := by simp
      rw [← hq]; exact hs_17
    exact ⟨_, rfl, hs_18⟩

theorem unseal_p (v : Value) (b p : List Nat) (w : World) (hv : RdL w v (encN .u8) b) (he : b = sealN p) (hb : ∀ x ∈ p, x < 256) (hn : p.length ≤ 10000000) :
    CallsV Try.prog 63 [v] w fun r w' => ∃ v', r = .tuple #[v', .int .i64 ((0 : Nat) : Int)] ∧ Sat w [cL v' 5 (encN .u8) p] w' := by
  subst he
  have hl := sealN_length p
  have ht : (sealN p).take ((sealN p).length - 4) = p := by rw [hl, Nat.add_sub_cancel, sealN, List.take_left']; rfl
  have hd : (sealN p).drop ((sealN p).length - 4) = byts (sumN p) := by rw [hl, Nat.add_sub_cancel, sealN, List.drop_left']; rfl
  have h := unseal_ok v (sealN p) w hv (fun x hx => by
    rcases List.mem_append.1 hx with hx | hx
    · exact hb x hx
    · exact byts_lt _ x hx) (by omega) (by omega) (by rw [ht, hd])
  rw [ht] at h; exact h

theorem tbytes_ok (w0 w : World) (cs : List Chunk) (g : Nat) (bv : Value) (bl : List Nat) (m : Nat) (hs : Sat w0 ([cObj g 86 [bv, .bool true]] ++ cs) w) (hb : RdL w0 bv (encN .u8) bl) (hm : m ≤ bl.length) (hn : bl.length ≤ 1000000000) :
    CallsV Try.prog 105 [(Value.pointer (some ⟨g, 0, none⟩)), (Value.int .i64 ((m : Nat) : Int))] w fun r w' => RdL w0 r (encN .u8) ((bl.take m).drop 0) ∧ ∃ bv', RdL w0 bv' (encN .u8) (bl.drop m) ∧ Sat w0 ([cObj g 86 [bv', .bool true]] ++ cs) w' := by
  refine callsV_of Try.func105 rfl rfl ?_
  refine CW.seq ?_
  refine CW.region ?_
  refine RT.ev rfl rfl (Ev.assign rfl) ?_
  refine RT.nil ?_
  refine CW.seq ?_
  refine CW.seq ?_
  refine CW.region ?_
  refine RT.ev rfl rfl (Ev.move rfl) <| RT.ev rfl rfl (Ev.nilCheck rfl) <| RT.ev rfl rfl (Ev.fieldAddr fld86_1 rfl rfl) <| RT.ev rfl rfl (Ev.load scal4 rfl (hs.cell (i := 0) (j := 1) rfl rfl)) <| RT.ev rfl rfl (Ev.notB rfl) <| RT.ev rfl rfl (Ev.move rfl) ?_
  refine RT.yes rfl rfl rfl (rfl) ?_
  refine RT.ev rfl rfl (Ev.move rfl) ?_
  refine RT.yes rfl rfl rfl (rfl) ?_
  refine RT.ev rfl rfl (Ev.move rfl) ?_
  refine RT.yes rfl rfl rfl (rfl) ?_
  refine RT.ev rfl rfl (Ev.nilCheck rfl) ?_
  refine RT.yes rfl rfl rfl (rfl) ?_
  refine RT.ev rfl rfl (Ev.fieldAddr fld86_0 rfl rfl) ?_
  refine RT.yes rfl rfl rfl (rfl) ?_
  refine RT.ev rfl rfl (Ev.load scal40 rfl (hs.cell (i := 0) (j := 0) rfl rfl)) ?_
  refine RT.yes rfl rfl rfl (rfl) ?_
  refine RT.ev rfl rfl (Ev.lenL Try.underlying40 rfl (hb.ext hs.ext)) ?_
  refine RT.yes rfl rfl rfl (rfl) ?_
  refine RT.ev rfl rfl (Ev.gtrN rfl rfl) <| RT.ev rfl rfl (Ev.pickN rfl (rfl) rfl) ?_
  refine RT.nil ?_
  refine CW.condF rfl (decide_eq_false (by omega)) ?_
  refine CW.skip ?_
  refine CW.seq ?_
  refine CW.region ?_
  refine RT.ev rfl rfl (Ev.move rfl) <| RT.ev rfl rfl (Ev.nilCheck rfl) <| RT.ev rfl rfl (Ev.fieldAddr fld86_0 rfl rfl) <| RT.ev rfl rfl (Ev.load scal40 rfl (hs.cell (i := 0) (j := 0) rfl rfl)) <| RT.ev rfl rfl (Ev.move rfl) <| RT.ev rfl rfl (Ev.sliceL (E := encN .u8) (a := 0) (c := m) sl40 rfl (hb.ext hs.ext) rfl ⟨_, rfl⟩ (Nat.zero_le _) (hm)) <| RT.ev rfl rfl (Ev.assign rfl) ?_
  refine RT.nil ?_
  refine CW.seq ?_
  refine CW.region ?_
  refine RT.ev rfl rfl (Ev.move rfl) <| RT.ev rfl rfl (Ev.move rfl) <| RT.ev rfl rfl (Ev.nilCheck rfl) <| RT.ev rfl rfl (Ev.fieldAddr fld86_0 rfl rfl) <| RT.ev rfl rfl (Ev.load scal40 rfl (hs.cell (i := 0) (j := 0) rfl rfl)) <| RT.ev rfl rfl (Ev.move rfl) <| RT.ev rfl rfl (Ev.sliceL (E := encN .u8) (a := m) (c := (bl).length) sl40 rfl (hb.ext hs.ext) ⟨_, rfl⟩ rfl (hm) (Nat.le_refl _)) <| RT.ev rfl rfl (Ev.nilCheck rfl) <| RT.ev rfl rfl (Ev.fieldAddr fld86_0 rfl rfl) ?_
  refine RT.eff rfl rfl (OpE.storeObj one40 hs (i := 0) rfl rfl rfl ((((hb.ext hs.ext)).sub (a := m) (b := (bl).length) (hm) (Nat.le_refl _)).oneCell) rfl fun w_1 hs_1 hch_1 => ?_)
  have hs_1d : Sat w0 ([cObj g 86 [(subSl (encN .u8).s bv m ((bl).length)), (Value.bool true)]] ++ cs) _ := hs_1
  refine RT.nil ?_
  refine CW.seq ?_
  refine CW.region ?_
  refine RT.ev rfl rfl (Ev.move rfl) <| RT.ev rfl rfl (Ev.assign rfl) ?_
  refine RT.nil ?_
  refine CW.ret ?_
  show PostK _ _ _ _ _ _
  refine post1 rfl rfl ?_
  have hr1 := hb.sub (a := 0) (b := m) (Nat.zero_le _) hm
  have hr2 := hb.sub (a := m) (b := bl.length) hm (Nat.le_refl _)
  rw [List.take_length] at hr2
  exact ⟨hr1, _, hr2, hs_1d⟩

theorem tnum_uv (w0 w : World) (cs : List Chunk) (g : Nat) (bv : Value) (bl rest : List Nat) (x lim : Nat) (hs : Sat w0 ([cObj g 86 [bv, .bool true]] ++ cs) w) (hb : RdL w0 bv (encN .u8) bl) (he : bl = uv x ++ rest) (hbb : ∀ y ∈ bl, y < 256) (hn : bl.length ≤ 1000000000) (hl : x ≤ lim) (hlim : lim ≤ 1000000000000) :
    CallsV Try.prog 104 [.pointer (some ⟨g, 0, none⟩), .int .i64 (lim : Int)] w fun r w' => r = .int .i64 (x : Int) ∧ ∃ bv', RdL w0 bv' (encN .u8) rest ∧ Sat w0 ([cObj g 86 [bv', .bool true]] ++ cs) w' := by
  subst he
  have h := tnum_ok w0 w cs g bv true (uv x ++ rest) lim hs hb hbb hn hlim
  rw [numN_uv (by omega) hl] at h
  exact h
theorem tbytes_ap (w0 w : World) (cs : List Chunk) (g : Nat) (bv : Value) (bl a rest : List Nat) (m : Nat) (hs : Sat w0 ([cObj g 86 [bv, .bool true]] ++ cs) w) (hb : RdL w0 bv (encN .u8) bl) (he : bl = a ++ rest) (hm : a.length = m) (hn : bl.length ≤ 1000000000) :
    CallsV Try.prog 105 [.pointer (some ⟨g, 0, none⟩), .int .i64 (m : Int)] w fun r w' => RdL w0 r (encN .u8) a ∧ ∃ bv', RdL w0 bv' (encN .u8) rest ∧ Sat w0 ([cObj g 86 [bv', .bool true]] ++ cs) w' := by
  subst he
  have h := tbytes_ok w0 w cs g bv (a ++ rest) m hs hb (by simp; omega) hn
  rw [List.drop_zero, List.take_left' hm, List.drop_left' hm] at h
  exact h

theorem pld_drop_mem {kind k : Nat} {ps : List (List Nat × Nat)} {y : Nat} (h : y ∈ pld kind (ps.drop k)) : y ∈ pld kind ps := by
  obtain ⟨p, hp, hy⟩ := List.mem_flatMap.1 h
  exact List.mem_flatMap.2 ⟨p, List.mem_of_mem_drop hp, hy⟩
theorem pld_drop_len (kind k : Nat) (ps : List (List Nat × Nat)) : (pld kind (ps.drop k)).length ≤ (pld kind ps).length := by
  have e : pld kind ps = pld kind (ps.take k) ++ pld kind (ps.drop k) := by
    unfold pld; rw [← List.flatMap_append, List.take_append_drop]
  rw [e, List.length_append]; omega
theorem pld_head {kind k : Nat} {ps : List (List Nat × Nat)} {p : List Nat × Nat} (h : ps[k]? = some p) : pld kind (ps.drop k) = uv (if kind = 0 then p.1.length else p.2) ++ (p.1 ++ pld kind (ps.drop (k + 1))) := by
  rw [drop_get h]; simp [pld, pld1]
theorem map_small : ∀ {l : List Nat}, (∀ x ∈ l, x < 2 ^ 8) → l.map (· % 2 ^ 8) = l
  | [], _ => rfl
  | x :: r, h => by rw [List.map_cons, map_small fun y hy => h y (by simp [hy]), Nat.mod_eq_of_lt (h x (by simp))]
theorem take_blk (l : List Nat) (k : Nat) : l.take (64 * k) ++ chk l k = l.take (64 * (k + 1)) := by
  rw [show 64 * (k + 1) = 64 * k + 64 by omega, List.take_add]; rfl

set_option maxHeartbeats 1000000 in
theorem numbers_0 (w0 w : World) (cs : List Chunk) (g : Nat) (bv : Value) (l : List Nat) (hs : Sat w0 ([cObj g 86 [bv, .bool true]] ++ cs) w) (hl : OkN l) (hb : RdL w0 bv (encN .u8) (plK l 0)) :
    CallsV Try.prog 64 [(Value.pointer (some ⟨g, 0, none⟩))] w fun r w' => ∃ v', r = .tuple #[v', .bool true] ∧ ∃ bv', Sat w0 ([cObj g 86 [bv', .bool true], cL v' 3 (encN .i64) l] ++ cs) w' := by
  have hnl := hl.len
  have hP : plK l 0 = uv l.length ++ (uv 0 ++ pld 0 (pk0 l (nbk l.length))) := by rw [plK_zero, hdP]; simp
  have hlt : ∀ y ∈ plK l 0, y < 256 := plK_lt (by decide)
  have hPl := plK_len hl (k := 0) (by decide)
  have hPl2 := congrArg List.length hP
  simp only [List.length_append] at hPl2
  have hnb : nbk l.length ≤ 64 := by unfold nbk; omega
  refine callsV_of Try.func64 rfl rfl ?_
  refine CW.seq ?_
  refine CW.region ?_
  refine RT.ev rfl rfl (Ev.assign rfl) <| RT.ev rfl rfl (Ev.assign rfl) ?_
  refine RT.nil ?_
  refine CW.seq ?_
  refine CW.region ?_
  refine RT.ev rfl rfl (Ev.move rfl) ?_
  have hA_1 : Sat w0 ([cObj g 86 [bv, (Value.bool true)]] ++ ([] ++ cs)) _ := (Sat.order [0] (by decide) hs).cut 1
  refine RT.eff rfl rfl (OpE.call ent104 rfl ((tnum_uv _ _ _ _ _ (plK l 0) (uv 0 ++ pld 0 (pk0 l (nbk l.length))) (l.length) 4096 hA_1 hb (hP) (hlt) (by omega) (hnl) (by omega)).mono fun r_1 w_1 h_1 => ?_))
  obtain ⟨rfl, bv_1, hbv_1, hp_1⟩ := h_1
  have hs_1 : Sat w0 ([cObj g 86 [bv_1, (Value.bool true)]] ++ cs) _ := hp_1
  refine RT.ev rfl rfl (Ev.move rfl) ?_
  have hA_2 : Sat w0 ([cObj g 86 [bv_1, (Value.bool true)]] ++ ([] ++ cs)) _ := (Sat.order [0] (by decide) hs_1).cut 1
  refine RT.eff rfl rfl (OpE.call ent104 rfl ((tnum_uv _ _ _ _ _ (uv 0 ++ pld 0 (pk0 l (nbk l.length))) (pld 0 (pk0 l (nbk l.length))) (0) 1 hA_2 hbv_1 (rfl) (fun y hy => hlt y (by rw [hP]; exact List.mem_append_right _ hy)) (by simp only [List.length_append]; omega) (by omega) (by omega)).mono fun r_2 w_2 h_2 => ?_))
  obtain ⟨rfl, bv_2, hbv_2, hp_2⟩ := h_2
  have hs_2 : Sat w0 ([cObj g 86 [bv_2, (Value.bool true)]] ++ cs) _ := hp_2
  refine RT.ev rfl rfl (Ev.build bt79 rfl ⟨rfl, rfl, trivial⟩ rfl) ?_
  refine RT.eff rfl rfl (OpE.alloc hs_2 zero79 fun b_1 w_3 hs_3 hch_1 hb_1 => ?_)
  have hs_3d : Sat w0 ([cObj g 86 [bv_2, (Value.bool true)], cObj b_1 79 [(Value.int .i64 ((0 : Nat) : Int)), (Value.int .i64 ((0 : Nat) : Int)), (Value.slice none 0 0), (Value.slice none 0 0), (Value.int .i64 ((0 : Nat) : Int)), (Value.slice none 0 0)]] ++ cs) _ := (hs_3).mid
  refine RT.eff rfl rfl (OpE.storeObjA (vs := [(Value.int .i64 ((l.length : Nat) : Int)), (Value.int .i64 ((0 : Nat) : Int)), (Value.slice none 0 0), (Value.slice none 0 0), (Value.int .i64 ((0 : Nat) : Int)), (Value.slice none 0 0)]) agg79 hs_3d (i := 1) rfl rfl rfl rfl (fun v h => by simp only [List.mem_cons, List.not_mem_nil, or_false] at h; rcases h with rfl | rfl | rfl | rfl | rfl | rfl; exact rfl; exact rfl; exact rfl; exact rfl; exact rfl; exact rfl) fun w_4 hs_4 hch_2 => ?_)
  have hs_4d : Sat w0 ([cObj g 86 [bv_2, (Value.bool true)], cObj b_1 79 [(Value.int .i64 ((l.length : Nat) : Int)), (Value.int .i64 ((0 : Nat) : Int)), (Value.slice none 0 0), (Value.slice none 0 0), (Value.int .i64 ((0 : Nat) : Int)), (Value.slice none 0 0)]] ++ cs) _ := hs_4
  refine RT.nil ?_
  refine CW.seq ?_
  refine CW.seq ?_
  refine CW.region ?_
  refine RT.ev rfl rfl (Ev.fieldAddr fld79_1 rfl rfl) <| RT.ev rfl rfl (Ev.load scal3 rfl (hs_4d.cell (i := 1) (j := 1) rfl rfl)) <| RT.ev rfl rfl (Ev.eqlN (a := 0) (b := 1) rfl rfl) ?_
  refine RT.nil ?_
  refine CW.condF rfl (rfl) ?_
  refine CW.skip ?_
  refine CW.seq ?_
  refine CW.region ?_
  refine RT.ev rfl rfl (Ev.assign rfl) ?_
  refine RT.nil ?_
  refine CW.seq ?_
  refine CW.seq ?_
  refine CW.region ?_
  refine RT.ev rfl rfl (Ev.assign rfl) ?_
  refine RT.nil ?_
  refine CW.block ?_
  have hs_5 : Sat w0 ([cObj g 86 [bv_2, (Value.bool true)], cObj b_1 79 [(Value.int .i64 ((l.length : Nat) : Int)), (Value.int .i64 ((0 : Nat) : Int)), (Value.slice none 0 0), (Value.slice none 0 0), (Value.int .i64 ((0 : Nat) : Int)), (Value.slice none 0 0)], cL (Value.slice none 0 0) 3 (encN .i64) ([])] ++ cs) _ := (hs_4d.newNilL 3 (encN .i64)).mid
  have hs_6 : Sat w0 ([cObj g 86 [bv_2, (Value.bool true)], cObj b_1 79 [(Value.int .i64 ((l.length : Nat) : Int)), (Value.int .i64 ((0 : Nat) : Int)), (Value.slice none 0 0), (Value.slice none 0 0), (Value.int .i64 ((0 : Nat) : Int)), (Value.slice none 0 0)], cL (Value.slice none 0 0) 3 (encN .i64) (l.take (64 * 0))] ++ cs) w_4 := by
    have hq : [] = l.take (64 * 0) := rfl
    rw [← hq]; exact hs_5
  refine CW.loop (α := Nat × Value × Value) (fun (k, bv2, ov) => [(0, (Value.pointer (some ⟨g, 0, none⟩))), (4, (Value.pointer (some ⟨b_1, 0, none⟩))), (7, ov), (8, (Value.int .i64 ((k : Nat) : Int)))]) (fun (k, bv2, ov) w' => Sat w0 ([cObj g 86 [bv2, (Value.bool true)], cObj b_1 79 [(Value.int .i64 ((l.length : Nat) : Int)), (Value.int .i64 ((0 : Nat) : Int)), (Value.slice none 0 0), (Value.slice none 0 0), (Value.int .i64 ((0 : Nat) : Int)), (Value.slice none 0 0)], cL ov 3 (encN .i64) (l.take (64 * k))] ++ cs) w' ∧ (k ≤ nbk l.length) ∧ (RdL w0 bv2 (encN .u8) (pld 0 ((pk0 l (nbk l.length)).drop k)))) (fun (k, bv2, ov) => nbk l.length - k) (0, bv_2, (Value.slice none 0 0)) ⟨rfl, rfl, rfl, rfl, trivial⟩ ⟨hs_6, Nat.zero_le _, hbv_2⟩ ?_
  rintro ⟨k, bv2, ov⟩ w_5 ⟨hs_7, hk, hbv⟩
  show CW _ _ _ _ [(0, (Value.pointer (some ⟨g, 0, none⟩))), (4, (Value.pointer (some ⟨b_1, 0, none⟩))), (7, ov), (8, (Value.int .i64 ((k : Nat) : Int)))] _
  refine CW.seq ?_
  refine CW.seq ?_
  refine CW.region ?_
  refine RT.ev rfl rfl (Ev.move rfl) <| RT.ev rfl rfl (Ev.nilCheck rfl) <| RT.ev rfl rfl (Ev.fieldAddr fld86_1 rfl rfl) <| RT.ev rfl rfl (Ev.load scal4 rfl (hs_7.cell (i := 0) (j := 1) rfl rfl)) <| RT.ev rfl rfl (Ev.move rfl) ?_
  refine RT.yes rfl rfl rfl (rfl) ?_
  refine RT.ev rfl rfl (Ev.move rfl) ?_
  refine RT.yes rfl rfl rfl (rfl) ?_
  refine RT.ev rfl rfl (Ev.mulI (b := 64) rfl rfl (by omega)) ?_
  refine RT.yes rfl rfl rfl (rfl) ?_
  refine RT.ev rfl rfl (Ev.fieldAddr fld79_0 rfl rfl) ?_
  refine RT.yes rfl rfl rfl (rfl) ?_
  refine RT.ev rfl rfl (Ev.load scal3 rfl (hs_7.cell (i := 1) (j := 0) rfl rfl)) ?_
  refine RT.yes rfl rfl rfl (rfl) ?_
  refine RT.ev rfl rfl (Ev.lssN rfl rfl) <| RT.ev rfl rfl (Ev.pickY rfl (rfl) rfl) ?_
  refine RT.nil ?_
  refine CW.condD rfl (fun hc_1 => ?_) (fun hc_1 => ?_)
  · refine CW.skip ?_
    refine CW.seq ?_
    refine CW.block ?_
    refine CW.seq ?_
    refine CW.region ?_
    refine RT.ev rfl rfl (Ev.assign rfl) ?_
    refine RT.nil ?_
    refine CW.seq ?_
    refine CW.region ?_
    refine RT.ev rfl rfl (Ev.assign rfl) ?_
    refine RT.nil ?_
    refine CW.seq ?_
    refine CW.seq ?_
    refine CW.region ?_
    refine RT.ev rfl rfl (Ev.fieldAddr fld79_1 rfl rfl) <| RT.ev rfl rfl (Ev.load scal3 rfl (hs_7.cell (i := 1) (j := 1) rfl rfl)) <| RT.ev rfl rfl (Ev.eqlN (a := 0) (b := 0) rfl rfl) ?_
    refine RT.nil ?_
    refine CW.condT rfl (rfl) ?_
    have hkN : k < nbk l.length := by unfold nbk; omega
    have hd := pld_head (kind := 0) (pk0_get (l := l) hkN)
    rw [if_pos rfl] at hd
    have hdl := pld_drop_len 0 k (pk0 l (nbk l.length))
    have hdl1 := congrArg List.length hd
    simp only [List.length_append] at hdl1
    have hcl := chk_length l k
    refine CW.region ?_
    refine RT.ev rfl rfl (Ev.move rfl) <| RT.ev rfl rfl (Ev.move rfl) <| RT.ev rfl rfl (Ev.move rfl) <| RT.ev rfl rfl (Ev.nilCheck rfl) <| RT.ev rfl rfl (Ev.fieldAddr fld86_0 rfl rfl) <| RT.ev rfl rfl (Ev.load scal40 rfl (hs_7.cell (i := 0) (j := 0) rfl rfl)) <| RT.ev rfl rfl (Ev.lenL Try.underlying40 rfl (hbv.ext hs_7.ext)) ?_
    have hA_3 : Sat w0 ([cObj g 86 [bv2, (Value.bool true)]] ++ ([cObj b_1 79 [(Value.int .i64 ((l.length : Nat) : Int)), (Value.int .i64 ((0 : Nat) : Int)), (Value.slice none 0 0), (Value.slice none 0 0), (Value.int .i64 ((0 : Nat) : Int)), (Value.slice none 0 0)], cL ov 3 (encN .i64) (l.take (64 * k))] ++ cs)) _ := (Sat.order [0, 1, 2] (by decide) hs_7).cut 1
    refine RT.eff rfl rfl (OpE.call ent104 rfl ((tnum_uv _ _ _ _ _ (pld 0 ((pk0 l (nbk l.length)).drop k)) (packBk (chk l k) ++ pld 0 ((pk0 l (nbk l.length)).drop (k + 1))) ((packBk (chk l k)).length) ((pld 0 ((pk0 l (nbk l.length)).drop k)).length) hA_3 hbv (hd) (fun y hy => hlt y (by rw [hP]; exact List.mem_append_right _ (List.mem_append_right _ (pld_drop_mem hy)))) (by omega) (by omega) (by omega)).mono fun r_3 w_6 h_3 => ?_))
    obtain ⟨rfl, bv_3, hbv_3, hp_3⟩ := h_3
    have hs_8 : Sat w0 ([cObj g 86 [bv_3, (Value.bool true)], cObj b_1 79 [(Value.int .i64 ((l.length : Nat) : Int)), (Value.int .i64 ((0 : Nat) : Int)), (Value.slice none 0 0), (Value.slice none 0 0), (Value.int .i64 ((0 : Nat) : Int)), (Value.slice none 0 0)], cL ov 3 (encN .i64) (l.take (64 * k))] ++ cs) _ := Sat.order [0, 1, 2] (by decide) hp_3.join
    have hA_4 : Sat w0 ([cObj g 86 [bv_3, (Value.bool true)]] ++ ([cObj b_1 79 [(Value.int .i64 ((l.length : Nat) : Int)), (Value.int .i64 ((0 : Nat) : Int)), (Value.slice none 0 0), (Value.slice none 0 0), (Value.int .i64 ((0 : Nat) : Int)), (Value.slice none 0 0)], cL ov 3 (encN .i64) (l.take (64 * k))] ++ cs)) _ := (Sat.order [0, 1, 2] (by decide) hs_8).cut 1
    refine RT.eff rfl rfl (OpE.call ent105 rfl ((tbytes_ap _ _ _ _ _ (packBk (chk l k) ++ pld 0 ((pk0 l (nbk l.length)).drop (k + 1))) (packBk (chk l k)) (pld 0 ((pk0 l (nbk l.length)).drop (k + 1))) ((packBk (chk l k)).length) hA_4 hbv_3 (rfl) (rfl) (by simp only [List.length_append]; omega)).mono fun r_4 w_7 h_4 => ?_))
    obtain ⟨hbr_1, bv_4, hbv_4, hp_4⟩ := h_4
    have hs_9 : Sat w0 ([cObj g 86 [bv_4, (Value.bool true)], cObj b_1 79 [(Value.int .i64 ((l.length : Nat) : Int)), (Value.int .i64 ((0 : Nat) : Int)), (Value.slice none 0 0), (Value.slice none 0 0), (Value.int .i64 ((0 : Nat) : Int)), (Value.slice none 0 0)], cL ov 3 (encN .i64) (l.take (64 * k))] ++ cs) _ := Sat.order [0, 1, 2] (by decide) hp_4.join
    refine RT.eff rfl rfl (OpE.call ent96 rfl ((unpack_ok _ (packBk (chk l k)) (chk l k) _ (hbr_1.ext hs_9.ext) (encBk_lt _ _) (by omega) (unpk_pack (by omega) (fun y hy => by have := hl.lt y (chk_mem hy); omega))).mono fun r_5 w_8 h_5 => ?_))
    obtain ⟨uv_1, rfl, hp_5⟩ := h_5
    have hs_10 : Sat w0 ([cObj g 86 [bv_4, (Value.bool true)], cObj b_1 79 [(Value.int .i64 ((l.length : Nat) : Int)), (Value.int .i64 ((0 : Nat) : Int)), (Value.slice none 0 0), (Value.slice none 0 0), (Value.int .i64 ((0 : Nat) : Int)), (Value.slice none 0 0)], cL ov 3 (encN .i64) (l.take (64 * k)), cL uv_1 3 (encN .i64) (chk l k)] ++ cs) _ := (hs_9.adds hp_5).mid
    refine RT.ev rfl rfl (Ev.move rfl) <| RT.ev rfl rfl (Ev.extract rfl rfl) <| RT.ev rfl rfl (Ev.extract rfl rfl) <| RT.ev rfl rfl (Ev.assign rfl) <| RT.ev rfl rfl (Ev.assign rfl) ?_
    refine RT.nil ?_
    refine CW.seq ?_
    refine CW.seq ?_
    refine CW.region ?_
    refine RT.ev rfl rfl (Ev.move rfl) <| RT.ev rfl rfl (Ev.nilCheck rfl) <| RT.ev rfl rfl (Ev.fieldAddr fld86_1 rfl rfl) <| RT.ev rfl rfl (Ev.load scal4 rfl (hs_10.cell (i := 0) (j := 1) rfl rfl)) <| RT.ev rfl rfl (Ev.notB rfl) <| RT.ev rfl rfl (Ev.move rfl) ?_
    refine RT.yes rfl rfl rfl (rfl) ?_
    refine RT.ev rfl rfl (Ev.move rfl) ?_
    refine RT.yes rfl rfl rfl (rfl) ?_
    refine RT.ev rfl rfl (Ev.neqN (a := 0) (b := 0) rfl rfl) <| RT.ev rfl rfl (Ev.pickN rfl (rfl) rfl) <| RT.ev rfl rfl (Ev.move rfl) ?_
    refine RT.yes rfl rfl rfl (rfl) ?_
    refine RT.ev rfl rfl (Ev.move rfl) ?_
    refine RT.yes rfl rfl rfl (rfl) ?_
    refine RT.ev rfl rfl (Ev.lenL Try.underlying22 rfl (hs_10.rdL 3 rfl)) ?_
    refine RT.yes rfl rfl rfl (rfl) ?_
    refine RT.ev rfl rfl (Ev.move rfl) ?_
    refine RT.yes rfl rfl rfl (rfl) ?_
    refine RT.eff rfl rfl (OpE.call ent98 rfl ((ssize_ok _ (l.length) (k) _ (hs_10.cell (i := 1) (j := 0) rfl rfl) (by omega) (by omega)).mono fun r_6 w_9 h_6 => ?_))
    obtain ⟨rfl, hp_6⟩ := h_6
    have hs_11 : Sat w0 ([cObj g 86 [bv_4, (Value.bool true)], cObj b_1 79 [(Value.int .i64 ((l.length : Nat) : Int)), (Value.int .i64 ((0 : Nat) : Int)), (Value.slice none 0 0), (Value.slice none 0 0), (Value.int .i64 ((0 : Nat) : Int)), (Value.slice none 0 0)], cL ov 3 (encN .i64) (l.take (64 * k)), cL uv_1 3 (encN .i64) (chk l k)] ++ cs) _ := (hs_10.adds hp_6).mid
    refine RT.yes rfl rfl rfl (rfl) ?_
    refine RT.ev rfl rfl (Ev.neqN rfl rfl) <| RT.ev rfl rfl (Ev.pickN rfl (rfl) rfl) ?_
    refine RT.nil ?_
    refine CW.condF rfl (decide_eq_false (fun h => h (by rw [chk_length]; omega))) ?_
    refine CW.skip ?_
    refine CW.weaken [(0, _), (4, _), (7, _), (8, _), (9, _), (10, _), (47, _), (52, _), (103, _)] ⟨rfl, rfl, rfl, rfl, rfl, rfl, rfl, rfl, rfl, trivial⟩ ?_
    refine CW.region ?_
    refine RT.ev rfl rfl (Ev.move rfl) <| RT.ev rfl rfl (Ev.move rfl) ?_
    refine RT.eff rfl rfl (OpE.appendL 2 sl22 hs_11 rfl rfl rfl Try.underlying22 (hs_11.rdL 3 rfl) (by simp; omega) (by simp; omega) fun v_1 w_10 hs_12 hch_3 => ?_)
    have hs_12d : Sat w0 ([cObj g 86 [bv_4, (Value.bool true)], cObj b_1 79 [(Value.int .i64 ((l.length : Nat) : Int)), (Value.int .i64 ((0 : Nat) : Int)), (Value.slice none 0 0), (Value.slice none 0 0), (Value.int .i64 ((0 : Nat) : Int)), (Value.slice none 0 0)], cL v_1 3 (encN .i64) (l.take (64 * k) ++ chk l k), cL uv_1 3 (encN .i64) (chk l k)] ++ cs) _ := hs_12
    refine RT.ev rfl rfl (Ev.assign rfl) ?_
    refine RT.nil ?_
    refine CW.region ?_
    refine RT.ev rfl rfl (Ev.move rfl) <| RT.ev rfl rfl (Ev.addI (b := 1) rfl rfl (by omega)) <| RT.ev rfl rfl (Ev.assign rfl) ?_
    refine RT.nil ?_
    have hs_13 : Sat w0 ([cObj g 86 [bv_4, (Value.bool true)], cObj b_1 79 [(Value.int .i64 ((l.length : Nat) : Int)), (Value.int .i64 ((0 : Nat) : Int)), (Value.slice none 0 0), (Value.slice none 0 0), (Value.int .i64 ((0 : Nat) : Int)), (Value.slice none 0 0)], cL v_1 3 (encN .i64) (l.take (64 * k) ++ chk l k)] ++ cs) w_10 := hs_12d.sub ((.cons_cons _ (.cons_cons _ (.cons_cons _ (.cons _ (.refl _))))))
    have hs_14 : Sat w0 ([cObj g 86 [bv_4, (Value.bool true)], cObj b_1 79 [(Value.int .i64 ((l.length : Nat) : Int)), (Value.int .i64 ((0 : Nat) : Int)), (Value.slice none 0 0), (Value.slice none 0 0), (Value.int .i64 ((0 : Nat) : Int)), (Value.slice none 0 0)], cL v_1 3 (encN .i64) (l.take (64 * (k + 1)))] ++ cs) w_10 := by
      have hq : l.take (64 * k) ++ chk l k = l.take (64 * (k + 1)) := take_blk l k
      rw [← hq]; exact hs_13
    exact ⟨(k + 1, bv_4, v_1), ⟨rfl, rfl, rfl, rfl, trivial⟩, ⟨hs_14, by omega, hbv_4⟩, (show (nbk l.length - (k + 1)) < (nbk l.length - k) from by omega)⟩
  · refine CW.exit0 ?_
    refine CW.seq ?_
    refine CW.draw (fun w' => Sat w0 ([cObj g 86 [bv2, (Value.bool true)], cObj b_1 79 [(Value.int .i64 ((l.length : Nat) : Int)), (Value.int .i64 ((0 : Nat) : Int)), (Value.slice none 0 0), (Value.slice none 0 0), (Value.int .i64 ((0 : Nat) : Int)), (Value.slice none 0 0)], cL ov 3 (encN .i64) (l.take (64 * k))] ++ cs) w') (.free 0 (.free 1 (.free 2 (.free 3 (.free 4 (.free 5 (.free 6 .fin))))))) mixed (by kernel_rfl) ?_
    have hs_15 := hs_7.drew
    refine RP.ev rfl rfl rfl (fun w' hS' => Ev.move rfl) hs_15 ?_
    refine RP.ev rfl rfl rfl (fun w' hS' => Ev.move rfl) hs_15 ?_
    refine RP.ev rfl rfl rfl (fun w' hS' => Ev.nilCheck rfl) hs_15 ?_
    refine RP.ev rfl rfl rfl (fun w' hS' => Ev.fieldAddr fld86_1 rfl rfl) hs_15 ?_
    refine RP.ev rfl rfl rfl (fun w' hS' => Ev.load scal4 rfl (hS'.cell (i := 0) (j := 1) rfl rfl)) hs_15 ?_
    refine RP.ev rfl rfl rfl (fun w' hS' => Ev.assign rfl) hs_15 ?_
    refine RP.ev rfl rfl rfl (fun w' hS' => Ev.assign rfl) hs_15 ?_
    refine RP.fin ?_
    refine CW.ret ?_
    show PostK _ _ _ _ _ _
    refine post2 rfl rfl rfl ?_
    have hs_16 : Sat w0 ([cObj g 86 [bv2, (Value.bool true)], cL ov 3 (encN .i64) (l.take (64 * k))] ++ cs) w_5.drew := hs_15.sub ((.cons_cons _ (.cons _ (.cons_cons _ (.refl _)))))
    have hs_17 : Sat w0 ([cObj g 86 [bv2, (Value.bool true)], cL ov 3 (encN .i64) (l)] ++ cs) w_5.drew := by
      have hq : l.take (64 * k) = l := by rw [List.take_of_length_le (by omega)]
      rw [← hq]; exact hs_16
    exact ⟨_, rfl, _, hs_17⟩

set_option maxHeartbeats 2000000 in
theorem numbers_1 (w0 w : World) (cs : List Chunk) (g : Nat) (bv : Value) (l : List Nat) (hs : Sat w0 ([cObj g 86 [bv, .bool true]] ++ cs) w) (hl : OkN l) (hb : RdL w0 bv (encN .u8) (plK l 1)) :
    CallsV Try.prog 64 [(Value.pointer (some ⟨g, 0, none⟩))] w fun r w' => ∃ v', r = .tuple #[v', .bool true] ∧ ∃ bv', Sat w0 ([cObj g 86 [bv', .bool true], cL v' 3 (encN .i64) l] ++ cs) w' := by
  have hnl := hl.len
  have hmx := hl.mx
  have hsl := symL_length l
  have hs8 : (symL l).map (· % 2 ^ 8) = symL l := map_small (fun x hx => by have := validB_le (validB_ok (symL_ok l hl.mx)) x hx; omega)
  have hP : plK l 1 = uv l.length ++ (uv 1 ++ (uv (symL l).length ++ (symL l ++ pld 1 (pk1 l (nbk l.length))))) := by rw [plK_one, hdP, if_pos rfl, hs8]; simp
  have hlt : ∀ y ∈ plK l 1, y < 256 := plK_lt (by decide)
  have hPl := plK_len hl (k := 1) (by decide)
  have hPl2 := congrArg List.length hP
  simp only [List.length_append] at hPl2
  have hnb : nbk l.length ≤ 64 := by unfold nbk; omega
  refine callsV_of Try.func64 rfl rfl ?_
  refine CW.seq ?_
  refine CW.region ?_
  refine RT.ev rfl rfl (Ev.assign rfl) <| RT.ev rfl rfl (Ev.assign rfl) ?_
  refine RT.nil ?_
  refine CW.seq ?_
  refine CW.region ?_
  refine RT.ev rfl rfl (Ev.move rfl) ?_
  have hA_1 : Sat w0 ([cObj g 86 [bv, (Value.bool true)]] ++ ([] ++ cs)) _ := (Sat.order [0] (by decide) hs).cut 1
  refine RT.eff rfl rfl (OpE.call ent104 rfl ((tnum_uv _ _ _ _ _ (plK l 1) (uv 1 ++ (uv (symL l).length ++ (symL l ++ pld 1 (pk1 l (nbk l.length))))) (l.length) 4096 hA_1 hb (hP) (hlt) (by omega) (hnl) (by omega)).mono fun r_1 w_1 h_1 => ?_))
  obtain ⟨rfl, bv_1, hbv_1, hp_1⟩ := h_1
  have hs_1 : Sat w0 ([cObj g 86 [bv_1, (Value.bool true)]] ++ cs) _ := hp_1
  refine RT.ev rfl rfl (Ev.move rfl) ?_
  have hA_2 : Sat w0 ([cObj g 86 [bv_1, (Value.bool true)]] ++ ([] ++ cs)) _ := (Sat.order [0] (by decide) hs_1).cut 1
  refine RT.eff rfl rfl (OpE.call ent104 rfl ((tnum_uv _ _ _ _ _ (uv 1 ++ (uv (symL l).length ++ (symL l ++ pld 1 (pk1 l (nbk l.length))))) (uv (symL l).length ++ (symL l ++ pld 1 (pk1 l (nbk l.length)))) (1) 1 hA_2 hbv_1 (rfl) (fun y hy => hlt y (by rw [hP]; exact List.mem_append_right _ hy)) (by simp only [List.length_append]; omega) (by omega) (by omega)).mono fun r_2 w_2 h_2 => ?_))
  obtain ⟨rfl, bv_2, hbv_2, hp_2⟩ := h_2
  have hs_2 : Sat w0 ([cObj g 86 [bv_2, (Value.bool true)]] ++ cs) _ := hp_2
  refine RT.ev rfl rfl (Ev.build bt79 rfl ⟨rfl, rfl, trivial⟩ rfl) ?_
  refine RT.eff rfl rfl (OpE.alloc hs_2 zero79 fun b_1 w_3 hs_3 hch_1 hb_1 => ?_)
  have hs_3d : Sat w0 ([cObj g 86 [bv_2, (Value.bool true)], cObj b_1 79 [(Value.int .i64 ((0 : Nat) : Int)), (Value.int .i64 ((0 : Nat) : Int)), (Value.slice none 0 0), (Value.slice none 0 0), (Value.int .i64 ((0 : Nat) : Int)), (Value.slice none 0 0)]] ++ cs) _ := (hs_3).mid
  refine RT.eff rfl rfl (OpE.storeObjA (vs := [(Value.int .i64 ((l.length : Nat) : Int)), (Value.int .i64 ((1 : Nat) : Int)), (Value.slice none 0 0), (Value.slice none 0 0), (Value.int .i64 ((0 : Nat) : Int)), (Value.slice none 0 0)]) agg79 hs_3d (i := 1) rfl rfl rfl rfl (fun v h => by simp only [List.mem_cons, List.not_mem_nil, or_false] at h; rcases h with rfl | rfl | rfl | rfl | rfl | rfl; exact rfl; exact rfl; exact rfl; exact rfl; exact rfl; exact rfl) fun w_4 hs_4 hch_2 => ?_)
  have hs_4d : Sat w0 ([cObj g 86 [bv_2, (Value.bool true)], cObj b_1 79 [(Value.int .i64 ((l.length : Nat) : Int)), (Value.int .i64 ((1 : Nat) : Int)), (Value.slice none 0 0), (Value.slice none 0 0), (Value.int .i64 ((0 : Nat) : Int)), (Value.slice none 0 0)]] ++ cs) _ := hs_4
  refine RT.nil ?_
  refine CW.seq ?_
  refine CW.seq ?_
  refine CW.region ?_
  refine RT.ev rfl rfl (Ev.fieldAddr fld79_1 rfl rfl) <| RT.ev rfl rfl (Ev.load scal3 rfl (hs_4d.cell (i := 1) (j := 1) rfl rfl)) <| RT.ev rfl rfl (Ev.eqlN (a := 1) (b := 1) rfl rfl) ?_
  refine RT.nil ?_
  refine CW.condT rfl (rfl) ?_
  refine CW.seq ?_
  refine CW.region ?_
  refine RT.ev rfl rfl (Ev.move rfl) <| RT.ev rfl rfl (Ev.move rfl) ?_
  have hA_3 : Sat w0 ([cObj g 86 [bv_2, (Value.bool true)]] ++ ([cObj b_1 79 [(Value.int .i64 ((l.length : Nat) : Int)), (Value.int .i64 ((1 : Nat) : Int)), (Value.slice none 0 0), (Value.slice none 0 0), (Value.int .i64 ((0 : Nat) : Int)), (Value.slice none 0 0)]] ++ cs)) _ := (Sat.order [0, 1] (by decide) hs_4d).cut 1
  refine RT.eff rfl rfl (OpE.call ent104 rfl ((tnum_uv _ _ _ _ _ (uv (symL l).length ++ (symL l ++ pld 1 (pk1 l (nbk l.length)))) (symL l ++ pld 1 (pk1 l (nbk l.length))) ((symL l).length) 1024 hA_3 hbv_2 (rfl) (fun y hy => hlt y (by rw [hP]; exact List.mem_append_right _ (List.mem_append_right _ hy))) (by simp only [List.length_append]; omega) (by omega) (by omega)).mono fun r_3 w_5 h_3 => ?_))
  obtain ⟨rfl, bv_3, hbv_3, hp_3⟩ := h_3
  have hs_5 : Sat w0 ([cObj g 86 [bv_3, (Value.bool true)], cObj b_1 79 [(Value.int .i64 ((l.length : Nat) : Int)), (Value.int .i64 ((1 : Nat) : Int)), (Value.slice none 0 0), (Value.slice none 0 0), (Value.int .i64 ((0 : Nat) : Int)), (Value.slice none 0 0)]] ++ cs) _ := Sat.order [0, 1] (by decide) hp_3.join
  have hA_4 : Sat w0 ([cObj g 86 [bv_3, (Value.bool true)]] ++ ([cObj b_1 79 [(Value.int .i64 ((l.length : Nat) : Int)), (Value.int .i64 ((1 : Nat) : Int)), (Value.slice none 0 0), (Value.slice none 0 0), (Value.int .i64 ((0 : Nat) : Int)), (Value.slice none 0 0)]] ++ cs)) _ := (Sat.order [0, 1] (by decide) hs_5).cut 1
  refine RT.eff rfl rfl (OpE.call ent105 rfl ((tbytes_ap _ _ _ _ _ (symL l ++ pld 1 (pk1 l (nbk l.length))) (symL l) (pld 1 (pk1 l (nbk l.length))) ((symL l).length) hA_4 hbv_3 (rfl) (rfl) (by simp only [List.length_append]; omega)).mono fun r_4 w_6 h_4 => ?_))
  obtain ⟨hbr_1, bv_4, hbv_4, hp_4⟩ := h_4
  have hs_6 : Sat w0 ([cObj g 86 [bv_4, (Value.bool true)], cObj b_1 79 [(Value.int .i64 ((l.length : Nat) : Int)), (Value.int .i64 ((1 : Nat) : Int)), (Value.slice none 0 0), (Value.slice none 0 0), (Value.int .i64 ((0 : Nat) : Int)), (Value.slice none 0 0)]] ++ cs) _ := Sat.order [0, 1] (by decide) hp_4.join
  refine RT.ev rfl rfl (Ev.lenL Try.underlying40 rfl (hbr_1.ext hs_6.ext)) <| RT.ev rfl rfl (Ev.move rfl) ?_
  refine RT.nil ?_
  refine CW.block ?_
  have hs_7 : Sat w0 ([cObj g 86 [bv_4, (Value.bool true)], cObj b_1 79 [(Value.int .i64 ((l.length : Nat) : Int)), (Value.int .i64 ((1 : Nat) : Int)), (Value.slice none 0 0), (Value.slice none 0 0), (Value.int .i64 ((0 : Nat) : Int)), (Value.slice none 0 0)], cL (Value.slice none 0 0) 3 (encN .i64) ([])] ++ cs) _ := (hs_6.newNilL 3 (encN .i64)).mid
  have hs_8 : Sat w0 ([cObj g 86 [bv_4, (Value.bool true)], cObj b_1 79 [(Value.int .i64 ((l.length : Nat) : Int)), (Value.int .i64 ((1 : Nat) : Int)), (Value.slice none 0 0), (Value.slice none 0 0), (Value.int .i64 ((0 : Nat) : Int)), (Value.slice none 0 0)], cL (Value.slice none 0 0) 3 (encN .i64) ((symL l).take 0)] ++ cs) w_6 := by
    have hq : [] = (symL l).take 0 := rfl
    rw [← hq]; exact hs_7
  refine CW.loop (α := Nat × Value) (fun (k, lv) => [(0, (Value.pointer (some ⟨g, 0, none⟩))), (4, (Value.pointer (some ⟨b_1, 0, none⟩))), (23, r_4), (24, (Value.int .i64 (((symL l).length : Nat) : Int))), (25, (Value.int .i64 ((k : Nat) : Int)))]) (fun (k, lv) w' => Sat w0 ([cObj g 86 [bv_4, (Value.bool true)], cObj b_1 79 [(Value.int .i64 ((l.length : Nat) : Int)), (Value.int .i64 ((1 : Nat) : Int)), lv, (Value.slice none 0 0), (Value.int .i64 ((0 : Nat) : Int)), (Value.slice none 0 0)], cL lv 3 (encN .i64) ((symL l).take k)] ++ cs) w' ∧ (k ≤ (symL l).length)) (fun (k, lv) => (symL l).length - k) (0, (Value.slice none 0 0)) ⟨rfl, rfl, rfl, rfl, rfl, trivial⟩ ⟨hs_8, Nat.zero_le _⟩ ?_
  rintro ⟨k, lv⟩ w_7 ⟨hs_9, hk⟩
  show CW _ _ _ _ [(0, (Value.pointer (some ⟨g, 0, none⟩))), (4, (Value.pointer (some ⟨b_1, 0, none⟩))), (23, r_4), (24, (Value.int .i64 (((symL l).length : Nat) : Int))), (25, (Value.int .i64 ((k : Nat) : Int)))] _
  refine CW.seq ?_
  refine CW.region ?_
  refine RT.ev rfl rfl (Ev.lssN rfl rfl) ?_
  refine RT.nil ?_
  refine CW.seq ?_
  refine CW.condD rfl (fun hc_1 => ?_) (fun hc_1 => ?_)
  · refine CW.skip ?_
    refine CW.seq ?_
    refine CW.block ?_
    refine CW.seq ?_
    obtain ⟨x, hx⟩ : ∃ x, (symL l)[k]? = some x := ⟨_, List.getElem?_eq_getElem hc_1⟩
    refine CW.region ?_
    refine RT.ev rfl rfl (Ev.idxL (E := encN .u8) sl40 rfl rfl (hbr_1.ext hs_9.ext) (by omega)) <| RT.ev rfl rfl (Ev.ldL (E := encN .u8) scal5 rfl (hbr_1.ext hs_9.ext) hx (by decide) rfl) <| RT.ev rfl rfl (Ev.assign rfl) ?_
    refine RT.nil ?_
    have hx15 := validB_le (validB_ok (symL_ok l hl.mx)) x (mem_of_get hx)
    refine CW.region ?_
    refine RT.ev rfl rfl (Ev.fieldAddr fld79_2 rfl rfl) <| RT.ev rfl rfl (Ev.load scal22 rfl (hs_9.cell (i := 1) (j := 2) rfl rfl)) <| RT.ev rfl rfl (Ev.move rfl) <| RT.ev rfl rfl (Ev.convK (by rw [Try.underlying5]; rfl) Try.underlying3 rfl (wrap_i (by omega))) ?_
    refine RT.eff rfl rfl (OpE.lit1 (encN .i64) x sl22 rfl hs_9 rfl fun v_1 w_8 hs_10 hch_3 => ?_)
    have hs_10d : Sat w0 ([cObj g 86 [bv_4, (Value.bool true)], cObj b_1 79 [(Value.int .i64 ((l.length : Nat) : Int)), (Value.int .i64 ((1 : Nat) : Int)), lv, (Value.slice none 0 0), (Value.int .i64 ((0 : Nat) : Int)), (Value.slice none 0 0)], cL lv 3 (encN .i64) ((symL l).take k), cL v_1 3 (encN .i64) ([x])] ++ cs) _ := (hs_10).mid
    refine RT.eff rfl rfl (OpE.appendL 2 sl22 hs_10d rfl rfl rfl Try.underlying22 (hs_10d.rdL 3 rfl) (by simp; omega) (by simp; omega) fun v_2 w_9 hs_11 hch_4 => ?_)
    have hs_11d : Sat w0 ([cObj g 86 [bv_4, (Value.bool true)], cObj b_1 79 [(Value.int .i64 ((l.length : Nat) : Int)), (Value.int .i64 ((1 : Nat) : Int)), lv, (Value.slice none 0 0), (Value.int .i64 ((0 : Nat) : Int)), (Value.slice none 0 0)], cL v_2 3 (encN .i64) ((symL l).take k ++ [x])] ++ cs) _ := hs_11.drop 3
    refine RT.ev rfl rfl (Ev.fieldAddr fld79_2 rfl rfl) ?_
    refine RT.eff rfl rfl (OpE.storeObj one22 hs_11d (i := 1) rfl rfl rfl ((hs_11d.rdL 2 rfl).oneCell) rfl fun w_10 hs_12 hch_5 => ?_)
    have hs_12d : Sat w0 ([cObj g 86 [bv_4, (Value.bool true)], cObj b_1 79 [(Value.int .i64 ((l.length : Nat) : Int)), (Value.int .i64 ((1 : Nat) : Int)), v_2, (Value.slice none 0 0), (Value.int .i64 ((0 : Nat) : Int)), (Value.slice none 0 0)], cL v_2 3 (encN .i64) ((symL l).take k ++ [x])] ++ cs) _ := hs_12
    refine RT.nil ?_
    refine CW.region ?_
    refine RT.ev rfl rfl (Ev.addI (b := 1) rfl rfl (by omega)) <| RT.ev rfl rfl (Ev.move rfl) ?_
    refine RT.nil ?_
    have hs_13 : Sat w0 ([cObj g 86 [bv_4, (Value.bool true)], cObj b_1 79 [(Value.int .i64 ((l.length : Nat) : Int)), (Value.int .i64 ((1 : Nat) : Int)), v_2, (Value.slice none 0 0), (Value.int .i64 ((0 : Nat) : Int)), (Value.slice none 0 0)], cL v_2 3 (encN .i64) ((symL l).take k ++ [x])] ++ cs) w_10 := hs_12d.sub ((.cons_cons _ (.cons_cons _ (.cons_cons _ (.refl _)))))
    have hs_14 : Sat w0 ([cObj g 86 [bv_4, (Value.bool true)], cObj b_1 79 [(Value.int .i64 ((l.length : Nat) : Int)), (Value.int .i64 ((1 : Nat) : Int)), v_2, (Value.slice none 0 0), (Value.int .i64 ((0 : Nat) : Int)), (Value.slice none 0 0)], cL v_2 3 (encN .i64) ((symL l).take (k + 1))] ++ cs) w_10 := by
      have hq : (symL l).take k ++ [x] = (symL l).take (k + 1) := by rw [take_succ_of hx]
      rw [← hq]; exact hs_13
    exact ⟨(k + 1, v_2), ⟨rfl, rfl, rfl, rfl, rfl, trivial⟩, ⟨hs_14, by omega⟩, (show ((symL l).length - (k + 1)) < ((symL l).length - k) from by omega)⟩
  · refine CW.exit0 ?_
    refine CW.seq ?_
    refine CW.region ?_
    refine RT.ev rfl rfl (Ev.assign rfl) ?_
    refine RT.nil ?_
    refine CW.seq ?_
    refine CW.seq ?_
    refine CW.region ?_
    refine RT.ev rfl rfl (Ev.assign rfl) ?_
    refine RT.nil ?_
    refine CW.block ?_
    have hs_15 : Sat w0 ([cObj g 86 [bv_4, (Value.bool true)], cObj b_1 79 [(Value.int .i64 ((l.length : Nat) : Int)), (Value.int .i64 ((1 : Nat) : Int)), lv, (Value.slice none 0 0), (Value.int .i64 ((0 : Nat) : Int)), (Value.slice none 0 0)], cL lv 3 (encN .i64) (symL l)] ++ cs) w_7 := by
      have hq : (symL l).take k = symL l := by rw [show k = (symL l).length by omega, List.take_length]
      rw [← hq]; exact hs_9
    have hs_16 : Sat w0 ([cObj g 86 [bv_4, (Value.bool true)], cObj b_1 79 [(Value.int .i64 ((l.length : Nat) : Int)), (Value.int .i64 ((1 : Nat) : Int)), lv, (Value.slice none 0 0), (Value.int .i64 ((0 : Nat) : Int)), (Value.slice none 0 0)], cL lv 3 (encN .i64) (symL l), cL (Value.slice none 0 0) 3 (encN .i64) ([])] ++ cs) _ := (hs_15.newNilL 3 (encN .i64)).mid
    have hs_17 : Sat w0 ([cObj g 86 [bv_4, (Value.bool true)], cObj b_1 79 [(Value.int .i64 ((l.length : Nat) : Int)), (Value.int .i64 ((1 : Nat) : Int)), lv, (Value.slice none 0 0), (Value.int .i64 ((0 : Nat) : Int)), (Value.slice none 0 0)], cL lv 3 (encN .i64) (symL l), cL (Value.slice none 0 0) 3 (encN .i64) (l.take (64 * 0))] ++ cs) w_7 := by
      have hq : [] = l.take (64 * 0) := rfl
      rw [← hq]; exact hs_16
    refine CW.loop (α := Nat × Value × Value) (fun (k, bv2, ov) => [(0, (Value.pointer (some ⟨g, 0, none⟩))), (4, (Value.pointer (some ⟨b_1, 0, none⟩))), (7, ov), (8, (Value.int .i64 ((k : Nat) : Int)))]) (fun (k, bv2, ov) w' => Sat w0 ([cObj g 86 [bv2, (Value.bool true)], cObj b_1 79 [(Value.int .i64 ((l.length : Nat) : Int)), (Value.int .i64 ((1 : Nat) : Int)), lv, (Value.slice none 0 0), (Value.int .i64 ((0 : Nat) : Int)), (Value.slice none 0 0)], cL lv 3 (encN .i64) (symL l), cL ov 3 (encN .i64) (l.take (64 * k))] ++ cs) w' ∧ (k ≤ nbk l.length) ∧ (RdL w0 bv2 (encN .u8) (pld 1 ((pk1 l (nbk l.length)).drop k)))) (fun (k, bv2, ov) => nbk l.length - k) (0, bv_4, (Value.slice none 0 0)) ⟨rfl, rfl, rfl, rfl, trivial⟩ ⟨hs_17, Nat.zero_le _, hbv_4⟩ ?_
    rintro ⟨k, bv2, ov⟩ w_11 ⟨hs_18, hk, hbv⟩
    show CW _ _ _ _ [(0, (Value.pointer (some ⟨g, 0, none⟩))), (4, (Value.pointer (some ⟨b_1, 0, none⟩))), (7, ov), (8, (Value.int .i64 ((k : Nat) : Int)))] _
    refine CW.seq ?_
    refine CW.seq ?_
    refine CW.region ?_
    refine RT.ev rfl rfl (Ev.move rfl) <| RT.ev rfl rfl (Ev.nilCheck rfl) <| RT.ev rfl rfl (Ev.fieldAddr fld86_1 rfl rfl) <| RT.ev rfl rfl (Ev.load scal4 rfl (hs_18.cell (i := 0) (j := 1) rfl rfl)) <| RT.ev rfl rfl (Ev.move rfl) ?_
    refine RT.yes rfl rfl rfl (rfl) ?_
    refine RT.ev rfl rfl (Ev.move rfl) ?_
    refine RT.yes rfl rfl rfl (rfl) ?_
    refine RT.ev rfl rfl (Ev.mulI (b := 64) rfl rfl (by omega)) ?_
    refine RT.yes rfl rfl rfl (rfl) ?_
    refine RT.ev rfl rfl (Ev.fieldAddr fld79_0 rfl rfl) ?_
    refine RT.yes rfl rfl rfl (rfl) ?_
    refine RT.ev rfl rfl (Ev.load scal3 rfl (hs_18.cell (i := 1) (j := 0) rfl rfl)) ?_
    refine RT.yes rfl rfl rfl (rfl) ?_
    refine RT.ev rfl rfl (Ev.lssN rfl rfl) <| RT.ev rfl rfl (Ev.pickY rfl (rfl) rfl) ?_
    refine RT.nil ?_
    refine CW.condD rfl (fun hc_2 => ?_) (fun hc_2 => ?_)
    · refine CW.skip ?_
      refine CW.seq ?_
      refine CW.block ?_
      refine CW.seq ?_
      refine CW.region ?_
      refine RT.ev rfl rfl (Ev.assign rfl) ?_
      refine RT.nil ?_
      refine CW.seq ?_
      refine CW.region ?_
      refine RT.ev rfl rfl (Ev.assign rfl) ?_
      refine RT.nil ?_
      refine CW.seq ?_
      refine CW.seq ?_
      refine CW.region ?_
      refine RT.ev rfl rfl (Ev.fieldAddr fld79_1 rfl rfl) <| RT.ev rfl rfl (Ev.load scal3 rfl (hs_18.cell (i := 1) (j := 1) rfl rfl)) <| RT.ev rfl rfl (Ev.eqlN (a := 1) (b := 0) rfl rfl) ?_
      refine RT.nil ?_
      refine CW.condF rfl (rfl) ?_
      refine CW.seq ?_
      have hkN : k < nbk l.length := by unfold nbk; omega
      have hd := pld_head (kind := 1) (pk1_get (l := l) hkN)
      rw [if_neg (by decide)] at hd
      have hdl := pld_drop_len 1 k (pk1 l (nbk l.length))
      have hdl1 := congrArg List.length hd
      simp only [List.length_append, packB_length] at hdl1
      have hcl := chk_length l k
      have hok := symL_ok l hl.mx
      have hhl := hufB_length (GoodLens.of_ok hok) (chk l k)
      refine CW.region ?_
      refine RT.ev rfl rfl (Ev.move rfl) <| RT.ev rfl rfl (Ev.move rfl) <| RT.ev rfl rfl (Ev.nilCheck rfl) <| RT.ev rfl rfl (Ev.fieldAddr fld86_0 rfl rfl) <| RT.ev rfl rfl (Ev.load scal40 rfl (hs_18.cell (i := 0) (j := 0) rfl rfl)) <| RT.ev rfl rfl (Ev.lenL Try.underlying40 rfl (hbv.ext hs_18.ext)) <| RT.ev rfl rfl (Ev.mulI (a := 8) rfl rfl (by omega)) ?_
      have hA_5 : Sat w0 ([cObj g 86 [bv2, (Value.bool true)]] ++ ([cObj b_1 79 [(Value.int .i64 ((l.length : Nat) : Int)), (Value.int .i64 ((1 : Nat) : Int)), lv, (Value.slice none 0 0), (Value.int .i64 ((0 : Nat) : Int)), (Value.slice none 0 0)], cL lv 3 (encN .i64) (symL l), cL ov 3 (encN .i64) (l.take (64 * k))] ++ cs)) _ := (Sat.order [0, 1, 2, 3] (by decide) hs_18).cut 1
      refine RT.eff rfl rfl (OpE.call ent104 rfl ((tnum_uv _ _ _ _ _ (pld 1 ((pk1 l (nbk l.length)).drop k)) (packB (hufB (symL l) (chk l k)) ++ pld 1 ((pk1 l (nbk l.length)).drop (k + 1))) ((hufB (symL l) (chk l k)).length) (8 * (pld 1 ((pk1 l (nbk l.length)).drop k)).length) hA_5 hbv (hd) (fun y hy => hlt y (by rw [hP]; exact List.mem_append_right _ (List.mem_append_right _ (List.mem_append_right _ (List.mem_append_right _ (pld_drop_mem hy)))))) (by omega) (by omega) (by omega)).mono fun r_5 w_12 h_5 => ?_))
      obtain ⟨rfl, bv_5, hbv_5, hp_5⟩ := h_5
      have hs_19 : Sat w0 ([cObj g 86 [bv_5, (Value.bool true)], cObj b_1 79 [(Value.int .i64 ((l.length : Nat) : Int)), (Value.int .i64 ((1 : Nat) : Int)), lv, (Value.slice none 0 0), (Value.int .i64 ((0 : Nat) : Int)), (Value.slice none 0 0)], cL lv 3 (encN .i64) (symL l), cL ov 3 (encN .i64) (l.take (64 * k))] ++ cs) _ := Sat.order [0, 1, 2, 3] (by decide) hp_5.join
      refine RT.ev rfl rfl (Ev.assign rfl) ?_
      refine RT.nil ?_
      refine CW.draw (fun w' => Sat w0 ([cObj b_1 79 [(Value.int .i64 ((l.length : Nat) : Int)), (Value.int .i64 ((1 : Nat) : Int)), lv, (Value.slice none 0 0), (Value.int .i64 ((0 : Nat) : Int)), (Value.slice none 0 0)], cL lv 3 (encN .i64) (symL l), cL ov 3 (encN .i64) (l.take (64 * k))] ++ cs) w') (.free 0 (.free 1 (.free 2 (.free 3 (.free 4 (.free 5 (.free 7 (.free 8 (.one 6 (.one 9 (.one 10 (.free 11 (.free 12 (.free 13 (.free 14 (.free 15 .fin)))))))))))))))) mixed (by kernel_rfl) ?_
      have hs_20 := hs_19.drew
      have hS_1 : Sat w0 ([cObj b_1 79 [(Value.int .i64 ((l.length : Nat) : Int)), (Value.int .i64 ((1 : Nat) : Int)), lv, (Value.slice none 0 0), (Value.int .i64 ((0 : Nat) : Int)), (Value.slice none 0 0)], cL lv 3 (encN .i64) (symL l), cL ov 3 (encN .i64) (l.take (64 * k))] ++ cs) _ := hs_20.sub ((.cons _ (.cons_cons _ (.cons_cons _ (.cons_cons _ (.refl _))))))
      refine RP.ev rfl rfl rfl (fun w' hS' => Ev.fieldAddr fld79_2 rfl rfl) hS_1 ?_
      refine RP.ev rfl rfl rfl (fun w' hS' => Ev.load scal22 rfl (hS'.cell (i := 0) (j := 2) rfl rfl)) hS_1 ?_
      refine RP.ev rfl rfl rfl (fun w' hS' => Ev.move rfl) hS_1 ?_
      refine RP.ev rfl rfl rfl (fun w' hS' => Ev.move rfl) hS_1 ?_
      refine RP.ev rfl rfl rfl (fun w' hS' => Ev.addI (b := 7) rfl rfl (by omega)) hS_1 ?_
      refine RP.ev rfl rfl rfl (fun w' hS' => Ev.quo (b := 8) rfl rfl (by omega) (by unfold inI64; omega)) hS_1 ?_
      refine RP.ev rfl rfl rfl (fun w' hS' => Ev.move rfl) hS_1 ?_
      refine RP.ev rfl rfl rfl (fun w' hS' => Ev.move rfl) hS_1 ?_
      have hA_6 : Sat w0 ([cObj g 86 [bv_5, (Value.bool true)]] ++ ([cObj b_1 79 [(Value.int .i64 ((l.length : Nat) : Int)), (Value.int .i64 ((1 : Nat) : Int)), lv, (Value.slice none 0 0), (Value.int .i64 ((0 : Nat) : Int)), (Value.slice none 0 0)], cL lv 3 (encN .i64) (symL l), cL ov 3 (encN .i64) (l.take (64 * k))] ++ cs)) _ := (Sat.order [0, 1, 2, 3] (by decide) hs_20).cut 1
      refine RP.eff rfl rfl rfl (OpE.call ent105 rfl ((tbytes_ap _ _ _ _ _ (packB (hufB (symL l) (chk l k)) ++ pld 1 ((pk1 l (nbk l.length)).drop (k + 1))) (packB (hufB (symL l) (chk l k))) (pld 1 ((pk1 l (nbk l.length)).drop (k + 1))) (((hufB (symL l) (chk l k)).length + 7) / 8) hA_6 hbv_5 (rfl) (by rw [packB_length]) (by simp only [List.length_append, packB_length]; omega)).mono fun r_6 w_13 h_6 => ?_))
      obtain ⟨hbr_2, bv_6, hbv_6, hp_6⟩ := h_6
      have hs_21 : Sat w0 ([cObj g 86 [bv_6, (Value.bool true)], cObj b_1 79 [(Value.int .i64 ((l.length : Nat) : Int)), (Value.int .i64 ((1 : Nat) : Int)), lv, (Value.slice none 0 0), (Value.int .i64 ((0 : Nat) : Int)), (Value.slice none 0 0)], cL lv 3 (encN .i64) (symL l), cL ov 3 (encN .i64) (l.take (64 * k))] ++ cs) _ := Sat.order [0, 1, 2, 3] (by decide) hp_6.join
      have hS_2 : Sat w0 ([cObj b_1 79 [(Value.int .i64 ((l.length : Nat) : Int)), (Value.int .i64 ((1 : Nat) : Int)), lv, (Value.slice none 0 0), (Value.int .i64 ((0 : Nat) : Int)), (Value.slice none 0 0)], cL lv 3 (encN .i64) (symL l), cL ov 3 (encN .i64) (l.take (64 * k))] ++ cs) _ := hs_21.sub ((.cons _ (.cons_cons _ (.cons_cons _ (.cons_cons _ (.refl _))))))
      refine ⟨hS_2, ?_⟩
      refine RP.eff rfl rfl rfl (OpE.call ent98 rfl ((ssize_ok _ (l.length) (k) _ (hs_21.cell (i := 1) (j := 0) rfl rfl) (by omega) (by omega)).mono fun r_7 w_14 h_7 => ?_))
      obtain ⟨rfl, hp_7⟩ := h_7
      have hs_22 : Sat w0 ([cObj g 86 [bv_6, (Value.bool true)], cObj b_1 79 [(Value.int .i64 ((l.length : Nat) : Int)), (Value.int .i64 ((1 : Nat) : Int)), lv, (Value.slice none 0 0), (Value.int .i64 ((0 : Nat) : Int)), (Value.slice none 0 0)], cL lv 3 (encN .i64) (symL l), cL ov 3 (encN .i64) (l.take (64 * k))] ++ cs) _ := (hs_21.adds hp_7).mid
      have hS_3 : Sat w0 ([cObj b_1 79 [(Value.int .i64 ((l.length : Nat) : Int)), (Value.int .i64 ((1 : Nat) : Int)), lv, (Value.slice none 0 0), (Value.int .i64 ((0 : Nat) : Int)), (Value.slice none 0 0)], cL lv 3 (encN .i64) (symL l), cL ov 3 (encN .i64) (l.take (64 * k))] ++ cs) _ := hs_22.sub ((.cons _ (.cons_cons _ (.cons_cons _ (.cons_cons _ (.refl _))))))
      refine ⟨hS_3, ?_⟩
      refine RP.eff rfl rfl rfl (OpE.call ent97 rfl ((hdecode_ok _ _ (symL l) (packB (hufB (symL l) (chk l k))) (chk l k) ((hufB (symL l) (chk l k)).length) ((min 64 (l.length - k * 64))) _ (hs_22.rdL 2 rfl) (hbr_2.ext hs_22.ext) (by omega) (validB_ok hok) (packB_lt _) (by rw [packB_length]; omega) (by rw [packB_length]; omega) (by omega) (by rw [show min 64 (l.length - k * 64) = (chk l k).length by rw [hcl]; omega]; exact hdec_ok (GoodLens.of_ok hok) _ (fun y hy => (symL_pos hl.mx y (chk_mem hy)).2))).mono fun r_8 w_15 h_8 => ?_))
      obtain ⟨dv_1, rfl, hp_8⟩ := h_8
      have hs_23 : Sat w0 ([cObj g 86 [bv_6, (Value.bool true)], cObj b_1 79 [(Value.int .i64 ((l.length : Nat) : Int)), (Value.int .i64 ((1 : Nat) : Int)), lv, (Value.slice none 0 0), (Value.int .i64 ((0 : Nat) : Int)), (Value.slice none 0 0)], cL lv 3 (encN .i64) (symL l), cL ov 3 (encN .i64) (l.take (64 * k)), cL dv_1 3 (encN .i64) (chk l k)] ++ cs) _ := (hs_22.adds hp_8).mid
      have hS_4 : Sat w0 ([cObj b_1 79 [(Value.int .i64 ((l.length : Nat) : Int)), (Value.int .i64 ((1 : Nat) : Int)), lv, (Value.slice none 0 0), (Value.int .i64 ((0 : Nat) : Int)), (Value.slice none 0 0)], cL lv 3 (encN .i64) (symL l), cL ov 3 (encN .i64) (l.take (64 * k))] ++ cs) _ := hs_23.sub ((.cons _ (.cons_cons _ (.cons_cons _ (.cons_cons _ (.cons _ (.refl _)))))))
      refine ⟨hS_4, ?_⟩
      refine RP.ev rfl rfl rfl (fun w' hS' => Ev.move rfl) hS_4 ?_
      refine RP.ev rfl rfl rfl (fun w' hS' => Ev.extract rfl rfl) hS_4 ?_
      refine RP.ev rfl rfl rfl (fun w' hS' => Ev.extract rfl rfl) hS_4 ?_
      refine RP.ev rfl rfl rfl (fun w' hS' => Ev.assign rfl) hS_4 ?_
      refine RP.ev rfl rfl rfl (fun w' hS' => Ev.assign rfl) hS_4 ?_
      refine RP.fin ?_
      refine CW.seq ?_
      refine CW.seq ?_
      refine CW.weaken [(0, _), (4, _), (7, _), (8, _), (9, _), (10, _), (11, _), (47, _), (52, _)] ⟨rfl, rfl, rfl, rfl, rfl, rfl, rfl, rfl, rfl, trivial⟩ ?_
      refine CW.region ?_
      refine RT.ev rfl rfl (Ev.move rfl) <| RT.ev rfl rfl (Ev.nilCheck rfl) <| RT.ev rfl rfl (Ev.fieldAddr fld86_1 rfl rfl) <| RT.ev rfl rfl (Ev.load scal4 rfl (hs_23.cell (i := 0) (j := 1) rfl rfl)) <| RT.ev rfl rfl (Ev.notB rfl) <| RT.ev rfl rfl (Ev.move rfl) ?_
      refine RT.yes rfl rfl rfl (rfl) ?_
      refine RT.ev rfl rfl (Ev.move rfl) ?_
      refine RT.yes rfl rfl rfl (rfl) ?_
      refine RT.ev rfl rfl (Ev.neqN (a := 0) (b := 0) rfl rfl) <| RT.ev rfl rfl (Ev.pickN rfl (rfl) rfl) <| RT.ev rfl rfl (Ev.move rfl) ?_
      refine RT.yes rfl rfl rfl (rfl) ?_
      refine RT.ev rfl rfl (Ev.move rfl) ?_
      refine RT.yes rfl rfl rfl (rfl) ?_
      refine RT.ev rfl rfl (Ev.lenL Try.underlying22 rfl (hs_23.rdL 4 rfl)) ?_
      refine RT.yes rfl rfl rfl (rfl) ?_
      refine RT.ev rfl rfl (Ev.move rfl) ?_
      refine RT.yes rfl rfl rfl (rfl) ?_
      refine RT.eff rfl rfl (OpE.call ent98 rfl ((ssize_ok _ (l.length) (k) _ (hs_23.cell (i := 1) (j := 0) rfl rfl) (by omega) (by omega)).mono fun r_9 w_16 h_9 => ?_))
      obtain ⟨rfl, hp_9⟩ := h_9
      have hs_24 : Sat w0 ([cObj g 86 [bv_6, (Value.bool true)], cObj b_1 79 [(Value.int .i64 ((l.length : Nat) : Int)), (Value.int .i64 ((1 : Nat) : Int)), lv, (Value.slice none 0 0), (Value.int .i64 ((0 : Nat) : Int)), (Value.slice none 0 0)], cL lv 3 (encN .i64) (symL l), cL ov 3 (encN .i64) (l.take (64 * k)), cL dv_1 3 (encN .i64) (chk l k)] ++ cs) _ := (hs_23.adds hp_9).mid
      refine RT.yes rfl rfl rfl (rfl) ?_
      refine RT.ev rfl rfl (Ev.neqN rfl rfl) <| RT.ev rfl rfl (Ev.pickN rfl (rfl) rfl) ?_
      refine RT.nil ?_
      refine CW.condF rfl (decide_eq_false (fun h => h (by rw [chk_length]; omega))) ?_
      refine CW.skip ?_
      refine CW.region ?_
      refine RT.ev rfl rfl (Ev.move rfl) <| RT.ev rfl rfl (Ev.move rfl) ?_
      refine RT.eff rfl rfl (OpE.appendL 3 sl22 hs_24 rfl rfl rfl Try.underlying22 (hs_24.rdL 4 rfl) (by simp; omega) (by simp; omega) fun v_3 w_17 hs_25 hch_6 => ?_)
      have hs_25d : Sat w0 ([cObj g 86 [bv_6, (Value.bool true)], cObj b_1 79 [(Value.int .i64 ((l.length : Nat) : Int)), (Value.int .i64 ((1 : Nat) : Int)), lv, (Value.slice none 0 0), (Value.int .i64 ((0 : Nat) : Int)), (Value.slice none 0 0)], cL lv 3 (encN .i64) (symL l), cL v_3 3 (encN .i64) (l.take (64 * k) ++ chk l k), cL dv_1 3 (encN .i64) (chk l k)] ++ cs) _ := hs_25
      refine RT.ev rfl rfl (Ev.assign rfl) ?_
      refine RT.nil ?_
      refine CW.region ?_
      refine RT.ev rfl rfl (Ev.move rfl) <| RT.ev rfl rfl (Ev.addI (b := 1) rfl rfl (by omega)) <| RT.ev rfl rfl (Ev.assign rfl) ?_
      refine RT.nil ?_
      have hs_26 : Sat w0 ([cObj g 86 [bv_6, (Value.bool true)], cObj b_1 79 [(Value.int .i64 ((l.length : Nat) : Int)), (Value.int .i64 ((1 : Nat) : Int)), lv, (Value.slice none 0 0), (Value.int .i64 ((0 : Nat) : Int)), (Value.slice none 0 0)], cL lv 3 (encN .i64) (symL l), cL v_3 3 (encN .i64) (l.take (64 * k) ++ chk l k)] ++ cs) w_17 := hs_25d.sub ((.cons_cons _ (.cons_cons _ (.cons_cons _ (.cons_cons _ (.cons _ (.refl _)))))))
      have hs_27 : Sat w0 ([cObj g 86 [bv_6, (Value.bool true)], cObj b_1 79 [(Value.int .i64 ((l.length : Nat) : Int)), (Value.int .i64 ((1 : Nat) : Int)), lv, (Value.slice none 0 0), (Value.int .i64 ((0 : Nat) : Int)), (Value.slice none 0 0)], cL lv 3 (encN .i64) (symL l), cL v_3 3 (encN .i64) (l.take (64 * (k + 1)))] ++ cs) w_17 := by
        have hq : l.take (64 * k) ++ chk l k = l.take (64 * (k + 1)) := take_blk l k
        rw [← hq]; exact hs_26
      exact ⟨(k + 1, bv_6, v_3), ⟨rfl, rfl, rfl, rfl, trivial⟩, ⟨hs_27, by omega, hbv_6⟩, (show (nbk l.length - (k + 1)) < (nbk l.length - k) from by omega)⟩
    · refine CW.exit0 ?_
      refine CW.seq ?_
      refine CW.draw (fun w' => Sat w0 ([cObj g 86 [bv2, (Value.bool true)], cObj b_1 79 [(Value.int .i64 ((l.length : Nat) : Int)), (Value.int .i64 ((1 : Nat) : Int)), lv, (Value.slice none 0 0), (Value.int .i64 ((0 : Nat) : Int)), (Value.slice none 0 0)], cL lv 3 (encN .i64) (symL l), cL ov 3 (encN .i64) (l.take (64 * k))] ++ cs) w') (.free 0 (.free 1 (.free 2 (.free 3 (.free 4 (.free 5 (.free 6 .fin))))))) mixed (by kernel_rfl) ?_
      have hs_28 := hs_18.drew
      refine RP.ev rfl rfl rfl (fun w' hS' => Ev.move rfl) hs_28 ?_
      refine RP.ev rfl rfl rfl (fun w' hS' => Ev.move rfl) hs_28 ?_
      refine RP.ev rfl rfl rfl (fun w' hS' => Ev.nilCheck rfl) hs_28 ?_
      refine RP.ev rfl rfl rfl (fun w' hS' => Ev.fieldAddr fld86_1 rfl rfl) hs_28 ?_
      refine RP.ev rfl rfl rfl (fun w' hS' => Ev.load scal4 rfl (hS'.cell (i := 0) (j := 1) rfl rfl)) hs_28 ?_
      refine RP.ev rfl rfl rfl (fun w' hS' => Ev.assign rfl) hs_28 ?_
      refine RP.ev rfl rfl rfl (fun w' hS' => Ev.assign rfl) hs_28 ?_
      refine RP.fin ?_
      refine CW.ret ?_
      show PostK _ _ _ _ _ _
      refine post2 rfl rfl rfl ?_
      have hs_29 : Sat w0 ([cObj g 86 [bv2, (Value.bool true)], cL ov 3 (encN .i64) (l.take (64 * k))] ++ cs) w_11.drew := hs_28.sub ((.cons_cons _ (.cons _ (.cons _ (.cons_cons _ (.refl _))))))
      have hs_30 : Sat w0 ([cObj g 86 [bv2, (Value.bool true)], cL ov 3 (encN .i64) (l)] ++ cs) w_11.drew := by
        have hq : l.take (64 * k) = l := by rw [List.take_of_length_le (by omega)]
        rw [← hq]; exact hs_29
      exact ⟨_, rfl, _, hs_30⟩

theorem numbers_k (w0 w : World) (cs : List Chunk) (g : Nat) (bv : Value) (l : List Nat) (hs : Sat w0 ([cObj g 86 [bv, .bool true]] ++ cs) w) (hl : OkN l) (hb : RdL w0 bv (encN .u8) (plK l (kindN l))) :
    CallsV Try.prog 64 [.pointer (some ⟨g, 0, none⟩)] w fun r w' => ∃ v', r = .tuple #[v', .bool true] ∧ ∃ bv', Sat w0 ([cObj g 86 [bv', .bool true], cL v' 3 (encN .i64) l] ++ cs) w' := by
  by_cases h : kindN l = 1
  · rw [h] at hb; exact numbers_1 w0 w cs g bv l hs hl hb
  · have h0 : kindN l = 0 := by have := kindN_le l; omega
    rw [h0] at hb; exact numbers_0 w0 w cs g bv l hs hl hb

theorem sealed_lt {b p : List Nat} (he : b = sealN p) (hp : ∀ x ∈ p, x < 256) : ∀ x ∈ b, x < 256 := fun x hx => by
  rw [he] at hx
  rcases List.mem_append.1 hx with hx | hx
  · exact hp x hx
  · exact byts_lt _ x hx

theorem tdecode_ok (v : Value) (b l : List Nat) (w : World) (hv : RdL w v (encN .u8) b) (hl : OkN l) (he : b = sealN (plK l (kindN l))) :
    CallsV Try.prog 28 [v] w fun r w' => ∃ g lv bv ps, r = .tuple #[.pointer (some ⟨g, 0, none⟩), .int .i64 0] ∧ ptsOf ps = ptsK l ∧ Sat w [cObj g 79 [(Value.int .i64 ((l.length : Nat) : Int)), (Value.int .i64 (((kindN l) : Nat) : Int)), lv, bv, (Value.int .i64 ((0 : Nat) : Int)), (Value.slice none 0 0)], cL lv 3 (encN .i64) (lensK l), cL bv 124 (encPt) (ps), cParts (ps), cL (Value.slice none 0 0) 3 (encN .i64) ([])] w' := by
  have hs0 := Sat.start w
  refine callsV_of Try.func28 rfl rfl ?_
  refine CW.seq ?_
  refine CW.region ?_
  refine RT.ev rfl rfl (Ev.assign rfl) <| RT.ev rfl rfl (Ev.assign rfl) ?_
  refine RT.nil ?_
  refine CW.seq ?_
  refine CW.region ?_
  refine RT.ev rfl rfl (Ev.move rfl) ?_
  refine RT.eff rfl rfl (OpE.call ent63 rfl ((unseal_p _ (b) (plK l (kindN l)) _ (hv.ext hs0.ext) (he) (plK_lt (kindN_le l)) (by have := plK_len hl (kindN_le l); omega)).mono fun r_1 w_1 h_1 => ?_))
  obtain ⟨uv_1, rfl, hp_1⟩ := h_1
  have hs_1 : Sat w [cL uv_1 5 (encN .u8) (plK l (kindN l))] _ := hs0.adds hp_1
  refine RT.ev rfl rfl (Ev.move rfl) <| RT.ev rfl rfl (Ev.extract rfl rfl) <| RT.ev rfl rfl (Ev.extract rfl rfl) <| RT.ev rfl rfl (Ev.assign rfl) <| RT.ev rfl rfl (Ev.assign rfl) ?_
  refine RT.nil ?_
  refine CW.seq ?_
  refine CW.seq ?_
  refine CW.region ?_
  refine RT.ev rfl rfl (Ev.move rfl) <| RT.ev rfl rfl (Ev.neqN (a := 0) (b := 0) rfl rfl) ?_
  refine RT.nil ?_
  refine CW.condF rfl (rfl) ?_
  refine CW.skip ?_
  refine CW.seq ?_
  have hpay := hs_1.rdL 0 rfl
  have hv1 := hv.ext hs_1.ext
  have hsb : Sat w_1 [] w_1 := Sat.start _
  refine CW.region ?_
  refine RT.ev rfl rfl (Ev.move rfl) <| RT.ev rfl rfl (Ev.build bt86 rfl ⟨(hpay.ext hsb.ext).oneCell, rfl, trivial⟩ rfl) ?_
  refine RT.eff rfl rfl (OpE.alloc hsb zero86 fun b_1 w_2 hs_2 hch_1 hb_1 => ?_)
  have hs_2d : Sat w_1 [cObj b_1 86 [(Value.slice none 0 0), (Value.bool false)]] _ := hs_2
  refine RT.eff rfl rfl (OpE.storeObjA (vs := [uv_1, (Value.bool true)]) agg86 hs_2d (i := 0) rfl rfl rfl rfl (fun v h => by simp only [List.mem_cons, List.not_mem_nil, or_false] at h; rcases h with rfl | rfl; exact (hpay.ext hs_2d.ext).oneCell; exact rfl) fun w_3 hs_3 hch_2 => ?_)
  have hs_3d : Sat w_1 [cObj b_1 86 [uv_1, (Value.bool true)]] _ := hs_3
  refine RT.nil ?_
  refine CW.seq ?_
  refine CW.region ?_
  have hA_1 : Sat w_1 ([cObj b_1 86 [uv_1, (Value.bool true)]] ++ ([] ++ [])) _ := (Sat.order [0] (by decide) hs_3d.tail).cut 1
  refine RT.eff rfl rfl (OpE.call ent64 rfl ((numbers_k _ _ _ _ _ (l) hA_1 (hl) hpay).mono fun r_2 w_4 h_2 => ?_))
  obtain ⟨nv_1, rfl, bv_1, hp_2⟩ := h_2
  have hs_4 : Sat w_1 [cObj b_1 86 [bv_1, (Value.bool true)], cL nv_1 3 (encN .i64) (l)] _ := (Sat.order [0, 1] (by decide) hp_2.join).untail
  refine RT.ev rfl rfl (Ev.move rfl) <| RT.ev rfl rfl (Ev.extract rfl rfl) <| RT.ev rfl rfl (Ev.extract rfl rfl) <| RT.ev rfl rfl (Ev.assign rfl) <| RT.ev rfl rfl (Ev.assign rfl) ?_
  refine RT.nil ?_
  refine CW.seq ?_
  refine CW.seq ?_
  refine CW.region ?_
  refine RT.ev rfl rfl (Ev.move rfl) <| RT.ev rfl rfl (Ev.notB rfl) ?_
  refine RT.nil ?_
  refine CW.condF rfl (rfl) ?_
  refine CW.skip ?_
  refine CW.seq ?_
  refine CW.region ?_
  refine RT.ev rfl rfl (Ev.move rfl) ?_
  refine RT.eff rfl rfl (OpE.call ent24 rfl ((build_ok _ (l) _ (hs_4.rdL 1 rfl) (hl)).mono fun r_3 w_5 h_3 => ?_))
  obtain ⟨g_1, lv_1, bv_2, ps_1, rfl, hps_1, hp_3⟩ := h_3
  have hs_5 : Sat w_1 [cObj b_1 86 [bv_1, (Value.bool true)], cL nv_1 3 (encN .i64) (l), cObj g_1 79 [(Value.int .i64 (((l).length : Nat) : Int)), (Value.int .i64 (((kindN l) : Nat) : Int)), lv_1, bv_2, (Value.int .i64 ((0 : Nat) : Int)), (Value.slice none 0 0)], cL lv_1 3 (encN .i64) (lensK l), cL bv_2 124 (encPt) (ps_1), cParts (ps_1), cL (Value.slice none 0 0) 3 (encN .i64) ([])] _ := hs_4.adds hp_3
  refine RT.ev rfl rfl (Ev.move rfl) <| RT.ev rfl rfl (Ev.extract rfl rfl) <| RT.ev rfl rfl (Ev.extract rfl rfl) <| RT.ev rfl rfl (Ev.assign rfl) <| RT.ev rfl rfl (Ev.assign rfl) ?_
  refine RT.nil ?_
  refine CW.seq ?_
  refine CW.seq ?_
  have hbb : ∀ x ∈ b, x < 256 := fun x hx => sealed_lt he (plK_lt (kindN_le l)) x hx
  have hsb2 : ∀ x ∈ sealN (payl l.length (kindN l) (lensK l) (ptsOf ps_1)), x < 256 := fun x hx => hbb x (by rw [he, ← payl_K, ← hps_1]; exact hx)
  refine CW.region ?_
  refine RT.ev rfl rfl (Ev.move rfl) <| RT.ev rfl rfl (Ev.neqN (a := 0) (b := 0) rfl rfl) <| RT.ev rfl rfl (Ev.move rfl) ?_
  refine RT.yes rfl rfl rfl (rfl) ?_
  refine RT.ev rfl rfl (Ev.move rfl) ?_
  refine RT.yes rfl rfl rfl (rfl) ?_
  refine RT.eff rfl rfl (OpE.call ent27 rfl ((sencode_ok g_1 ((l).length) (kindN l) lv_1 bv_2 (lensK l) ps_1 _ (hs_5.cell (i := 2) (j := 0) rfl rfl) (hs_5.cell (i := 2) (j := 1) rfl rfl) (hs_5.cell (i := 2) (j := 2) rfl rfl) (hs_5.cell (i := 2) (j := 3) rfl rfl) (hs_5.rdL 3 rfl) (hs_5.rdL 4 rfl) (hs_5.rdParts 5 rfl) (hl.len) (kindN_le _) (lensK_len hl) ((ptsK_b hps_1 hl).1) ((ptsK_b hps_1 hl).2) (by rw [hps_1]; exact ptsK_lt _)).mono fun r_4 w_6 h_4 => ?_))
  have hp_4 := h_4
  have hs_6 : Sat w_1 [cObj b_1 86 [bv_1, (Value.bool true)], cL nv_1 3 (encN .i64) (l), cObj g_1 79 [(Value.int .i64 (((l).length : Nat) : Int)), (Value.int .i64 (((kindN l) : Nat) : Int)), lv_1, bv_2, (Value.int .i64 ((0 : Nat) : Int)), (Value.slice none 0 0)], cL lv_1 3 (encN .i64) (lensK l), cL bv_2 124 (encPt) (ps_1), cParts (ps_1), cL (Value.slice none 0 0) 3 (encN .i64) ([]), cL r_4 5 (encN .u8) (sealN (payl ((l).length) (kindN l) (lensK l) (ptsOf ps_1)))] _ := hs_5.adds hp_4
  refine RT.yes rfl rfl rfl (rfl) ?_
  refine RT.ev rfl rfl (Ev.move rfl) ?_
  refine RT.yes rfl rfl rfl (rfl) ?_
  refine RT.eff rfl rfl (OpE.call ent65 rfl ((beq_ok _ _ (sealN (payl ((l).length) (kindN l) (lensK l) (ptsOf ps_1))) (b) _ (hs_6.rdL 7 rfl) (hv1.ext hs_6.ext) (hsb2) (hbb)).mono fun r_5 w_7 h_5 => ?_))
  obtain ⟨rfl, hp_5⟩ := h_5
  have hs_7 : Sat w_1 [cObj b_1 86 [bv_1, (Value.bool true)], cL nv_1 3 (encN .i64) (l), cObj g_1 79 [(Value.int .i64 (((l).length : Nat) : Int)), (Value.int .i64 (((kindN l) : Nat) : Int)), lv_1, bv_2, (Value.int .i64 ((0 : Nat) : Int)), (Value.slice none 0 0)], cL lv_1 3 (encN .i64) (lensK l), cL bv_2 124 (encPt) (ps_1), cParts (ps_1), cL (Value.slice none 0 0) 3 (encN .i64) ([]), cL r_4 5 (encN .u8) (sealN (payl ((l).length) (kindN l) (lensK l) (ptsOf ps_1)))] _ := hs_6.adds hp_5
  refine RT.yes rfl rfl rfl (rfl) ?_
  refine RT.ev rfl rfl (Ev.notP rfl) <| RT.ev rfl rfl (Ev.pickN rfl (rfl) rfl) ?_
  refine RT.nil ?_
  refine CW.condF rfl (decide_eq_false (fun hne => hne (by rw [hps_1, payl_K, he]))) ?_
  refine CW.skip ?_
  refine CW.seq ?_
  refine CW.region ?_
  refine RT.ev rfl rfl (Ev.move rfl) <| RT.ev rfl rfl (Ev.assign rfl) <| RT.ev rfl rfl (Ev.assign rfl) ?_
  refine RT.nil ?_
  refine CW.ret ?_
  show PostK _ _ _ _ _ _
  refine post2 rfl rfl rfl ?_
  have hs_8 : Sat w_1 [cObj g_1 79 [(Value.int .i64 (((l).length : Nat) : Int)), (Value.int .i64 (((kindN l) : Nat) : Int)), lv_1, bv_2, (Value.int .i64 ((0 : Nat) : Int)), (Value.slice none 0 0)], cL lv_1 3 (encN .i64) (lensK l), cL bv_2 124 (encPt) (ps_1), cParts (ps_1), cL (Value.slice none 0 0) 3 (encN .i64) ([])] w_7 := hs_7.sub ((.cons _ (.cons _ (.cons_cons _ (.cons_cons _ (.cons_cons _ (.cons_cons _ (.cons_cons _ (.cons _ .slnil)))))))))
  exact ⟨g_1, lv_1, bv_2, ps_1, rfl, hps_1, (hs_1.adds hs_8).sub (.cons _ (.refl _))⟩

end Go.Proofs.Ytfhbflhnelbkfaa

/- The walks of the functions of F16g, printed by our own program (kwgen.py) out of our descriptions (base.py). -/
namespace Go.Proofs.Ytfhbflhnelbkfaa
open Go.RowKit Go.Kw
set_option maxRecDepth 100000
set_option linter.unusedVariables false
set_option linter.unusedSimpArgs false
theorem te_long (v : Value) (z : List Int) (w : World) (hv : RdL w v (encI .i64) z) (hz : 300 < z.length) :
    CallsV Try.prog 8 [v] w fun r w' => r = .bool true ∧ Sat w [] w' := by
  have hs0 := Sat.start w
  refine callsV_of Try.func8 rfl rfl ?_
  refine CW.seq ?_
  refine CW.region ?_
  refine RT.ev rfl rfl (Ev.assign rfl) ?_
  refine RT.nil ?_
  refine CW.seq ?_
  refine CW.seq ?_
  refine CW.region ?_
  refine RT.ev rfl rfl (Ev.move rfl) <| RT.ev rfl rfl (Ev.lenL Try.underlying22 rfl (hv.ext hs0.ext)) <| RT.ev rfl rfl (Ev.gtrN (b := 300) rfl rfl) ?_
  refine RT.nil ?_
  refine CW.condT rfl (decide_eq_true hz) ?_
  refine CW.seq ?_
  refine CW.region ?_
  refine RT.ev rfl rfl (Ev.assign rfl) ?_
  refine RT.nil ?_
  refine CW.ret ?_
  show PostK _ _ _ _ _ _
  refine post1 rfl rfl ?_
  have hs_1 : Sat w [] w := hs0.sub (.slnil)
  exact ⟨rfl, hs_1⟩

theorem te_range (v : Value) (z : List Int) (w : World) (hv : RdL w v (encI .i64) z) (hz : z.length ≤ 300) (hbad : ∃ x ∈ z, x < 0 ∨ 1024 ≤ x)  :
    CallsV Try.prog 8 [v] w fun r w' => r = .bool true ∧ Sat w [] w' := by
  have hs0 := Sat.start w
  refine callsV_of Try.func8 rfl rfl ?_
  refine CW.seq ?_
  refine CW.region ?_
  refine RT.ev rfl rfl (Ev.assign rfl) ?_
  refine RT.nil ?_
  refine CW.seq ?_
  refine CW.seq ?_
  refine CW.region ?_
  refine RT.ev rfl rfl (Ev.move rfl) <| RT.ev rfl rfl (Ev.lenL Try.underlying22 rfl (hv.ext hs0.ext)) <| RT.ev rfl rfl (Ev.gtrN (b := 300) rfl rfl) ?_
  refine RT.nil ?_
  refine CW.condF rfl (decide_eq_false (by omega)) ?_
  refine CW.skip ?_
  refine CW.seq ?_
  refine CW.region ?_
  refine RT.ev rfl rfl (Ev.move rfl) ?_
  refine RT.eff rfl rfl (OpE.call ent20 rfl ((built_range _ (z) _ (hv.ext hs0.ext) (by omega) (hbad)).mono fun r_1 w_1 h_1 => ?_))
  obtain ⟨rfl, hp_1⟩ := h_1
  have hs_1 : Sat w [] _ := hs0.adds hp_1
  refine RT.ev rfl rfl (Ev.move rfl) <| RT.ev rfl rfl (Ev.extract rfl rfl) <| RT.ev rfl rfl (Ev.extract rfl rfl) <| RT.ev rfl rfl (Ev.assign rfl) <| RT.ev rfl rfl (Ev.assign rfl) ?_
  refine RT.nil ?_
  refine CW.seq ?_
  refine CW.seq ?_
  refine CW.region ?_
  refine RT.ev rfl rfl (Ev.move rfl) <| RT.ev rfl rfl (Ev.notB rfl) <| RT.ev rfl rfl (Ev.move rfl) ?_
  refine RT.yes rfl rfl rfl (rfl) ?_
  refine RT.ev rfl rfl (Ev.move rfl) ?_
  refine RT.yes rfl rfl rfl (rfl) ?_
  refine RT.ev rfl rfl (Ev.eqlPt Try.underlying23 rfl rfl) <| RT.ev rfl rfl (Ev.pickN rfl (rfl) rfl) ?_
  refine RT.nil ?_
  refine CW.condT rfl (rfl) ?_
  refine CW.seq ?_
  refine CW.region ?_
  refine RT.ev rfl rfl (Ev.move rfl) <| RT.ev rfl rfl (Ev.move rfl) ?_
  refine RT.yes rfl rfl rfl (rfl) ?_
  refine RT.eff rfl rfl (OpE.call ent22 rfl ((awake_ok _).mono fun r_2 w_2 h_2 => ?_))
  obtain ⟨rfl, hp_2⟩ := h_2
  have hs_2 : Sat w [] _ := hs_1.adds hp_2
  refine RT.ev rfl rfl (Ev.pickY rfl (rfl) rfl) <| RT.ev rfl rfl (Ev.assign rfl) ?_
  refine RT.nil ?_
  refine CW.ret ?_
  show PostK _ _ _ _ _ _
  refine post1 rfl rfl ?_
  have hs_3 : Sat w [] w_2 := hs_2.sub (.slnil)
  exact ⟨rfl, hs_3⟩

set_option maxHeartbeats 2000000 in
theorem te_ok (s : SV) (l : List Nat) (w : World) (hv : RdL w s.val (encN .i64) l) (hl : OkN l) (hz : l.length ≤ 300) :
    CallsV Try.prog 8 [s.val] w fun r w' => r = .bool true ∧ Sat w [] w' := by
  have hs0 := Sat.start w
  refine callsV_of Try.func8 rfl rfl ?_
  refine CW.seq ?_
  refine CW.region ?_
  refine RT.ev rfl rfl (Ev.assign rfl) ?_
  refine RT.nil ?_
  refine CW.seq ?_
  refine CW.seq ?_
  refine CW.region ?_
  refine RT.ev rfl rfl (Ev.move rfl) <| RT.ev rfl rfl (Ev.lenL Try.underlying22 rfl (hv.ext hs0.ext)) <| RT.ev rfl rfl (Ev.gtrN (b := 300) rfl rfl) ?_
  refine RT.nil ?_
  refine CW.condF rfl (decide_eq_false (by omega)) ?_
  refine CW.skip ?_
  refine CW.seq ?_
  refine CW.region ?_
  refine RT.ev rfl rfl (Ev.move rfl) ?_
  refine RT.eff rfl rfl (OpE.call ent20 rfl ((built_ok _ (l) _ (hv.ext hs0.ext) (hl)).mono fun r_1 w_1 h_1 => ?_))
  obtain ⟨g_1, lv_1, bv_1, ps_1, rfl, hps_1, hp_1⟩ := h_1
  have hs_1 : Sat w [cObj g_1 79 [(Value.int .i64 (((l).length : Nat) : Int)), (Value.int .i64 (((kindN l) : Nat) : Int)), lv_1, bv_1, (Value.int .i64 ((0 : Nat) : Int)), (Value.slice none 0 0)], cL lv_1 3 (encN .i64) (lensK l), cL bv_1 124 (encPt) (ps_1), cParts (ps_1), cL (Value.slice none 0 0) 3 (encN .i64) ([])] _ := hs0.adds hp_1
  refine RT.ev rfl rfl (Ev.move rfl) <| RT.ev rfl rfl (Ev.extract rfl rfl) <| RT.ev rfl rfl (Ev.extract rfl rfl) <| RT.ev rfl rfl (Ev.assign rfl) <| RT.ev rfl rfl (Ev.assign rfl) ?_
  refine RT.nil ?_
  refine CW.seq ?_
  refine CW.seq ?_
  refine CW.region ?_
  refine RT.ev rfl rfl (Ev.move rfl) <| RT.ev rfl rfl (Ev.notB rfl) <| RT.ev rfl rfl (Ev.move rfl) ?_
  refine RT.yes rfl rfl rfl (rfl) ?_
  refine RT.ev rfl rfl (Ev.move rfl) ?_
  refine RT.yes rfl rfl rfl (rfl) ?_
  refine RT.ev rfl rfl (Ev.eqlPt Try.underlying23 rfl rfl) <| RT.ev rfl rfl (Ev.pickN rfl (rfl) rfl) ?_
  refine RT.nil ?_
  refine CW.condF rfl (rfl) ?_
  refine CW.skip ?_
  refine CW.seq ?_
  refine CW.region ?_
  refine RT.ev rfl rfl (Ev.move rfl) ?_
  refine RT.eff rfl rfl (OpE.call ent27 rfl ((sencode_ok g_1 ((l).length) (kindN l) lv_1 bv_1 (lensK l) ps_1 _ (hs_1.cell (i := 0) (j := 0) rfl rfl) (hs_1.cell (i := 0) (j := 1) rfl rfl) (hs_1.cell (i := 0) (j := 2) rfl rfl) (hs_1.cell (i := 0) (j := 3) rfl rfl) (hs_1.rdL 1 rfl) (hs_1.rdL 2 rfl) (hs_1.rdParts 3 rfl) (hl.len) (kindN_le _) (lensK_len hl) ((ptsK_b hps_1 hl).1) ((ptsK_b hps_1 hl).2) (by rw [hps_1]; exact ptsK_lt _)).mono fun r_2 w_2 h_2 => ?_))
  have hp_2 := h_2
  have hs_2 : Sat w [cObj g_1 79 [(Value.int .i64 (((l).length : Nat) : Int)), (Value.int .i64 (((kindN l) : Nat) : Int)), lv_1, bv_1, (Value.int .i64 ((0 : Nat) : Int)), (Value.slice none 0 0)], cL lv_1 3 (encN .i64) (lensK l), cL bv_1 124 (encPt) (ps_1), cParts (ps_1), cL (Value.slice none 0 0) 3 (encN .i64) ([]), cL r_2 5 (encN .u8) (sealN (payl ((l).length) (kindN l) (lensK l) (ptsOf ps_1)))] _ := hs_1.adds hp_2
  refine RT.ev rfl rfl (Ev.assign rfl) ?_
  refine RT.nil ?_
  refine CW.seq ?_
  have hs_3 : Sat w [cObj g_1 79 [(Value.int .i64 (((l).length : Nat) : Int)), (Value.int .i64 (((kindN l) : Nat) : Int)), lv_1, bv_1, (Value.int .i64 ((0 : Nat) : Int)), (Value.slice none 0 0)], cL lv_1 3 (encN .i64) (lensK l), cL bv_1 124 (encPt) (ps_1), cParts (ps_1), cL (Value.slice none 0 0) 3 (encN .i64) ([]), cL r_2 5 (encN .u8) (sealN (plK l (kindN l)))] w_2 := by
    have hq : sealN (payl ((l).length) (kindN l) (lensK l) (ptsOf ps_1)) = sealN (plK l (kindN l)) := by rw [hps_1, payl_K]
    rw [← hq]; exact hs_2
  refine CW.region ?_
  refine RT.ev rfl rfl (Ev.move rfl) ?_
  refine RT.eff rfl rfl (OpE.call ent28 rfl ((tdecode_ok _ (sealN (plK l (kindN l))) (l) _ (hs_3.rdL 5 rfl) (hl) (rfl)).mono fun r_3 w_3 h_3 => ?_))
  obtain ⟨g_2, lv_2, bv_2, ps_2, rfl, hps_2, hp_3⟩ := h_3
  have hs_4 : Sat w [cObj g_1 79 [(Value.int .i64 (((l).length : Nat) : Int)), (Value.int .i64 (((kindN l) : Nat) : Int)), lv_1, bv_1, (Value.int .i64 ((0 : Nat) : Int)), (Value.slice none 0 0)], cL lv_1 3 (encN .i64) (lensK l), cL bv_1 124 (encPt) (ps_1), cParts (ps_1), cL (Value.slice none 0 0) 3 (encN .i64) ([]), cL r_2 5 (encN .u8) (sealN (plK l (kindN l))), cObj g_2 79 [(Value.int .i64 (((l).length : Nat) : Int)), (Value.int .i64 (((kindN l) : Nat) : Int)), lv_2, bv_2, (Value.int .i64 ((0 : Nat) : Int)), (Value.slice none 0 0)], cL lv_2 3 (encN .i64) (lensK l), cL bv_2 124 (encPt) (ps_2), cParts (ps_2), cL (Value.slice none 0 0) 3 (encN .i64) ([])] _ := hs_3.adds hp_3
  refine RT.ev rfl rfl (Ev.move rfl) <| RT.ev rfl rfl (Ev.extract rfl rfl) <| RT.ev rfl rfl (Ev.extract rfl rfl) <| RT.ev rfl rfl (Ev.assign rfl) <| RT.ev rfl rfl (Ev.assign rfl) ?_
  refine RT.nil ?_
  refine CW.seq ?_
  refine CW.seq ?_
  refine CW.draw (fun w' => Sat w [cObj g_1 79 [(Value.int .i64 (((l).length : Nat) : Int)), (Value.int .i64 (((kindN l) : Nat) : Int)), lv_1, bv_1, (Value.int .i64 ((0 : Nat) : Int)), (Value.slice none 0 0)], cL lv_1 3 (encN .i64) (lensK l), cL bv_1 124 (encPt) (ps_1), cParts (ps_1), cL (Value.slice none 0 0) 3 (encN .i64) ([]), cL r_2 5 (encN .u8) (sealN (plK l (kindN l))), cObj g_2 79 [(Value.int .i64 (((l).length : Nat) : Int)), (Value.int .i64 (((kindN l) : Nat) : Int)), lv_2, bv_2, (Value.int .i64 ((0 : Nat) : Int)), (Value.slice none 0 0)], cL lv_2 3 (encN .i64) (lensK l), cL bv_2 124 (encPt) (ps_2), cParts (ps_2), cL (Value.slice none 0 0) 3 (encN .i64) ([])] w') (.free 0 (.free 2 (.one 1 (.one 3 (.free 4 (.free 5 (.free 6 (.free 7 (.free 8 (.one 9 (.one 10 (.free 11 (.free 12 (.free 13 (.free 14 (.free 15 (.free 16 (.free 17 (.free 18 (.free 19 (.free 20 .fin))))))))))))))))))))) mixed (by kernel_rfl) ?_
  have hs_5 := hs_4.drew
  refine RP.ev rfl rfl rfl (fun w' hS' => Ev.move rfl) hs_5 ?_
  refine RP.ev rfl rfl rfl (fun w' hS' => Ev.move rfl) hs_5 ?_
  refine RP.eff rfl rfl rfl (OpE.call ent29 rfl ((skind_ok _ ((kindN l)) _ (hs_5.cell (i := 0) (j := 1) rfl rfl)).mono fun r_4 w_4 h_4 => ?_))
  obtain ⟨rfl, hp_4⟩ := h_4
  have hs_6 : Sat w [cObj g_1 79 [(Value.int .i64 (((l).length : Nat) : Int)), (Value.int .i64 (((kindN l) : Nat) : Int)), lv_1, bv_1, (Value.int .i64 ((0 : Nat) : Int)), (Value.slice none 0 0)], cL lv_1 3 (encN .i64) (lensK l), cL bv_1 124 (encPt) (ps_1), cParts (ps_1), cL (Value.slice none 0 0) 3 (encN .i64) ([]), cL r_2 5 (encN .u8) (sealN (plK l (kindN l))), cObj g_2 79 [(Value.int .i64 (((l).length : Nat) : Int)), (Value.int .i64 (((kindN l) : Nat) : Int)), lv_2, bv_2, (Value.int .i64 ((0 : Nat) : Int)), (Value.slice none 0 0)], cL lv_2 3 (encN .i64) (lensK l), cL bv_2 124 (encPt) (ps_2), cParts (ps_2), cL (Value.slice none 0 0) 3 (encN .i64) ([])] _ := hs_5.adds hp_4
  have hS_1 : Sat w [cObj g_1 79 [(Value.int .i64 (((l).length : Nat) : Int)), (Value.int .i64 (((kindN l) : Nat) : Int)), lv_1, bv_1, (Value.int .i64 ((0 : Nat) : Int)), (Value.slice none 0 0)], cL lv_1 3 (encN .i64) (lensK l), cL bv_1 124 (encPt) (ps_1), cParts (ps_1), cL (Value.slice none 0 0) 3 (encN .i64) ([]), cL r_2 5 (encN .u8) (sealN (plK l (kindN l))), cObj g_2 79 [(Value.int .i64 (((l).length : Nat) : Int)), (Value.int .i64 (((kindN l) : Nat) : Int)), lv_2, bv_2, (Value.int .i64 ((0 : Nat) : Int)), (Value.slice none 0 0)], cL lv_2 3 (encN .i64) (lensK l), cL bv_2 124 (encPt) (ps_2), cParts (ps_2), cL (Value.slice none 0 0) 3 (encN .i64) ([])] _ := hs_6.sub ((.cons_cons _ (.cons_cons _ (.cons_cons _ (.cons_cons _ (.cons_cons _ (.cons_cons _ (.cons_cons _ (.cons_cons _ (.cons_cons _ (.cons_cons _ (.cons_cons _ .slnil))))))))))))
  refine ⟨hS_1, ?_⟩
  refine RP.eff rfl rfl rfl (OpE.call ent30 rfl ((rkind_ok _ (l) _ (hv.ext hs_6.ext) (hl)).mono fun r_5 w_5 h_5 => ?_))
  obtain ⟨rfl, hp_5⟩ := h_5
  have hs_7 : Sat w [cObj g_1 79 [(Value.int .i64 (((l).length : Nat) : Int)), (Value.int .i64 (((kindN l) : Nat) : Int)), lv_1, bv_1, (Value.int .i64 ((0 : Nat) : Int)), (Value.slice none 0 0)], cL lv_1 3 (encN .i64) (lensK l), cL bv_1 124 (encPt) (ps_1), cParts (ps_1), cL (Value.slice none 0 0) 3 (encN .i64) ([]), cL r_2 5 (encN .u8) (sealN (plK l (kindN l))), cObj g_2 79 [(Value.int .i64 (((l).length : Nat) : Int)), (Value.int .i64 (((kindN l) : Nat) : Int)), lv_2, bv_2, (Value.int .i64 ((0 : Nat) : Int)), (Value.slice none 0 0)], cL lv_2 3 (encN .i64) (lensK l), cL bv_2 124 (encPt) (ps_2), cParts (ps_2), cL (Value.slice none 0 0) 3 (encN .i64) ([])] _ := hs_6.adds hp_5
  have hS_2 : Sat w [cObj g_1 79 [(Value.int .i64 (((l).length : Nat) : Int)), (Value.int .i64 (((kindN l) : Nat) : Int)), lv_1, bv_1, (Value.int .i64 ((0 : Nat) : Int)), (Value.slice none 0 0)], cL lv_1 3 (encN .i64) (lensK l), cL bv_1 124 (encPt) (ps_1), cParts (ps_1), cL (Value.slice none 0 0) 3 (encN .i64) ([]), cL r_2 5 (encN .u8) (sealN (plK l (kindN l))), cObj g_2 79 [(Value.int .i64 (((l).length : Nat) : Int)), (Value.int .i64 (((kindN l) : Nat) : Int)), lv_2, bv_2, (Value.int .i64 ((0 : Nat) : Int)), (Value.slice none 0 0)], cL lv_2 3 (encN .i64) (lensK l), cL bv_2 124 (encPt) (ps_2), cParts (ps_2), cL (Value.slice none 0 0) 3 (encN .i64) ([])] _ := hs_7.sub ((.cons_cons _ (.cons_cons _ (.cons_cons _ (.cons_cons _ (.cons_cons _ (.cons_cons _ (.cons_cons _ (.cons_cons _ (.cons_cons _ (.cons_cons _ (.cons_cons _ .slnil))))))))))))
  refine ⟨hS_2, ?_⟩
  refine RP.ev rfl rfl rfl (fun w' hS' => Ev.neqN rfl rfl) hS_2 ?_
  refine RP.ev rfl rfl rfl (fun w' hS' => Ev.move rfl) hS_2 ?_
  refine RP.evYes rfl rfl rfl rfl (decide_eq_false (fun h => h rfl)) rfl (fun w' hS' => Ev.move rfl) hS_2 ?_
  refine RP.evYes rfl rfl rfl rfl (decide_eq_false (fun h => h rfl)) rfl (fun w' hS' => Ev.bytesStr Try.underlying40 Try.underlying9 Try.underlying5 rfl (hS'.rdL 5 rfl)) hS_2 ?_
  refine RP.evYes rfl rfl rfl rfl (decide_eq_false (fun h => h rfl)) rfl (fun w' hS' => Ev.move rfl) hS_2 ?_
  refine RP.effYes rfl rfl rfl rfl (decide_eq_false (fun h => h rfl)) rfl (OpE.call ent31 rfl ((rencode_ok _ (l) _ (hv.ext hs_7.ext) (hl)).mono fun r_6 w_6 h_6 => ?_))
  have hp_6 := h_6
  have hs_8 : Sat w [cObj g_1 79 [(Value.int .i64 (((l).length : Nat) : Int)), (Value.int .i64 (((kindN l) : Nat) : Int)), lv_1, bv_1, (Value.int .i64 ((0 : Nat) : Int)), (Value.slice none 0 0)], cL lv_1 3 (encN .i64) (lensK l), cL bv_1 124 (encPt) (ps_1), cParts (ps_1), cL (Value.slice none 0 0) 3 (encN .i64) ([]), cL r_2 5 (encN .u8) (sealN (plK l (kindN l))), cObj g_2 79 [(Value.int .i64 (((l).length : Nat) : Int)), (Value.int .i64 (((kindN l) : Nat) : Int)), lv_2, bv_2, (Value.int .i64 ((0 : Nat) : Int)), (Value.slice none 0 0)], cL lv_2 3 (encN .i64) (lensK l), cL bv_2 124 (encPt) (ps_2), cParts (ps_2), cL (Value.slice none 0 0) 3 (encN .i64) ([]), cL r_6 5 (encN .u8) (sealN (plK l (kindN l)))] _ := hs_7.adds hp_6
  have hS_3 : Sat w [cObj g_1 79 [(Value.int .i64 (((l).length : Nat) : Int)), (Value.int .i64 (((kindN l) : Nat) : Int)), lv_1, bv_1, (Value.int .i64 ((0 : Nat) : Int)), (Value.slice none 0 0)], cL lv_1 3 (encN .i64) (lensK l), cL bv_1 124 (encPt) (ps_1), cParts (ps_1), cL (Value.slice none 0 0) 3 (encN .i64) ([]), cL r_2 5 (encN .u8) (sealN (plK l (kindN l))), cObj g_2 79 [(Value.int .i64 (((l).length : Nat) : Int)), (Value.int .i64 (((kindN l) : Nat) : Int)), lv_2, bv_2, (Value.int .i64 ((0 : Nat) : Int)), (Value.slice none 0 0)], cL lv_2 3 (encN .i64) (lensK l), cL bv_2 124 (encPt) (ps_2), cParts (ps_2), cL (Value.slice none 0 0) 3 (encN .i64) ([])] _ := hs_8.sub ((.cons_cons _ (.cons_cons _ (.cons_cons _ (.cons_cons _ (.cons_cons _ (.cons_cons _ (.cons_cons _ (.cons_cons _ (.cons_cons _ (.cons_cons _ (.cons_cons _ (.cons _ .slnil)))))))))))))
  refine ⟨hS_3, ?_⟩
  refine RP.effYes rfl rfl rfl rfl (decide_eq_false (fun h => h rfl)) rfl (OpE.ev (Ev.bytesStr Try.underlying40 Try.underlying9 Try.underlying5 rfl (hs_8.rdL 11 rfl)) ⟨hS_3, ?_⟩)
  refine RP.evYes rfl rfl rfl rfl (decide_eq_false (fun h => h rfl)) rfl (fun w' hS' => Ev.strNeq rfl rfl) hS_3 ?_
  refine RP.ev rfl rfl rfl (fun w' hS' => Ev.pickN rfl (decide_eq_false (fun h => h rfl)) rfl) hS_3 ?_
  refine RP.ev rfl rfl rfl (fun w' hS' => Ev.move rfl) hS_3 ?_
  refine RP.evYes rfl rfl rfl rfl (decide_eq_false (fun h => h rfl)) rfl (fun w' hS' => Ev.move rfl) hS_3 ?_
  refine RP.evYes rfl rfl rfl rfl (decide_eq_false (fun h => h rfl)) rfl (fun w' hS' => Ev.neqN (a := 0) (b := 0) rfl rfl) hS_3 ?_
  refine RP.ev rfl rfl rfl (fun w' hS' => Ev.pickN rfl (decide_eq_false (fun h => h rfl)) rfl) hS_3 ?_
  refine RP.ev rfl rfl rfl (fun w' hS' => Ev.move rfl) hS_3 ?_
  refine RP.evYes rfl rfl rfl rfl (rfl) rfl (fun w' hS' => Ev.move rfl) hS_3 ?_
  refine RP.evYes rfl rfl rfl rfl (rfl) rfl (fun w' hS' => Ev.eqlPt Try.underlying23 rfl rfl) hS_3 ?_
  refine RP.ev rfl rfl rfl (fun w' hS' => Ev.pickN rfl (rfl) rfl) hS_3 ?_
  refine RP.fin ?_
  refine CW.condF rfl (rfl) ?_
  refine CW.skip ?_
  refine CW.seq ?_
  refine CW.weaken [(0, _), (2, _), (3, _), (4, _), (5, _), (6, _), (7, _), (12, _), (23, _), (55, _)] ⟨rfl, rfl, rfl, rfl, rfl, rfl, rfl, rfl, rfl, rfl, trivial⟩ ?_
  refine CW.region ?_
  refine RT.ev rfl rfl (Ev.move rfl) <| RT.ev rfl rfl (Ev.move rfl) ?_
  refine RT.eff rfl rfl (OpE.call ent21 rfl ((slen_ok _ ((l).length) _ (hs_8.cell (i := 6) (j := 0) rfl rfl)).mono fun r_7 w_7 h_7 => ?_))
  obtain ⟨rfl, hp_7⟩ := h_7
  have hs_9 : Sat w [cObj g_1 79 [(Value.int .i64 (((l).length : Nat) : Int)), (Value.int .i64 (((kindN l) : Nat) : Int)), lv_1, bv_1, (Value.int .i64 ((0 : Nat) : Int)), (Value.slice none 0 0)], cL lv_1 3 (encN .i64) (lensK l), cL bv_1 124 (encPt) (ps_1), cParts (ps_1), cL (Value.slice none 0 0) 3 (encN .i64) ([]), cL r_2 5 (encN .u8) (sealN (plK l (kindN l))), cObj g_2 79 [(Value.int .i64 (((l).length : Nat) : Int)), (Value.int .i64 (((kindN l) : Nat) : Int)), lv_2, bv_2, (Value.int .i64 ((0 : Nat) : Int)), (Value.slice none 0 0)], cL lv_2 3 (encN .i64) (lensK l), cL bv_2 124 (encPt) (ps_2), cParts (ps_2), cL (Value.slice none 0 0) 3 (encN .i64) ([]), cL r_6 5 (encN .u8) (sealN (plK l (kindN l)))] _ := hs_8.adds hp_7
  have hA_1 : Sat w ([cObj g_2 79 [(Value.int .i64 (((l).length : Nat) : Int)), (Value.int .i64 (((kindN l) : Nat) : Int)), lv_2, bv_2, (Value.int .i64 ((0 : Nat) : Int)), (Value.slice none 0 0)], cL lv_2 3 (encN .i64) (lensK l), cL bv_2 124 (encPt) (ps_2), cParts (ps_2), cL (Value.slice none 0 0) 3 (encN .i64) ([])] ++ ([cObj g_1 79 [(Value.int .i64 (((l).length : Nat) : Int)), (Value.int .i64 (((kindN l) : Nat) : Int)), lv_1, bv_1, (Value.int .i64 ((0 : Nat) : Int)), (Value.slice none 0 0)], cL lv_1 3 (encN .i64) (lensK l), cL bv_1 124 (encPt) (ps_1), cParts (ps_1), cL (Value.slice none 0 0) 3 (encN .i64) ([]), cL r_2 5 (encN .u8) (sealN (plK l (kindN l))), cL r_6 5 (encN .u8) (sealN (plK l (kindN l)))] ++ [])) _ := (Sat.order [6, 7, 8, 9, 10, 0, 1, 2, 3, 4, 5, 11] (by decide) hs_9.tail).cut 5
  refine RT.eff rfl rfl (OpE.call ent25 rfl ((sslice_ok _ _ _ _ _ _ _ (l) ([]) (ps_2) (0) hA_1 (hl) (hps_2) (CacheOk.zero l) (0) ((l).length) (Nat.zero_le _) (Nat.le_refl _)).mono fun r_8 w_8 h_8 => ?_))
  obtain ⟨slv_1, last_1, kv_1, blk_1, rfl, hca_1, hp_8⟩ := h_8
  have hs_10 : Sat w [cObj g_1 79 [(Value.int .i64 (((l).length : Nat) : Int)), (Value.int .i64 (((kindN l) : Nat) : Int)), lv_1, bv_1, (Value.int .i64 ((0 : Nat) : Int)), (Value.slice none 0 0)], cL lv_1 3 (encN .i64) (lensK l), cL bv_1 124 (encPt) (ps_1), cParts (ps_1), cL (Value.slice none 0 0) 3 (encN .i64) ([]), cL r_2 5 (encN .u8) (sealN (plK l (kindN l))), cObj g_2 79 [(Value.int .i64 ((l.length : Nat) : Int)), (Value.int .i64 (((kindN l) : Nat) : Int)), lv_2, bv_2, (Value.int .i64 ((last_1 : Nat) : Int)), kv_1], cL lv_2 3 (encN .i64) (lensK l), cL bv_2 124 (encPt) (ps_2), cParts (ps_2), cL kv_1 3 (encN .i64) (blk_1), cL r_6 5 (encN .u8) (sealN (plK l (kindN l))), cL slv_1 3 (encN .i64) (((l).take ((l).length)).drop 0)] _ := (Sat.order [6, 7, 8, 9, 10, 11, 0, 1, 2, 3, 4, 12, 5] (by decide) hp_8.join).untail
  refine RT.ev rfl rfl (Ev.move rfl) <| RT.ev rfl rfl (Ev.extract rfl rfl) <| RT.ev rfl rfl (Ev.extract rfl rfl) <| RT.ev rfl rfl (Ev.assign rfl) <| RT.ev rfl rfl (Ev.assign rfl) ?_
  refine RT.nil ?_
  refine CW.seq ?_
  refine CW.draw (fun w' => Sat w [cObj g_1 79 [(Value.int .i64 (((l).length : Nat) : Int)), (Value.int .i64 (((kindN l) : Nat) : Int)), lv_1, bv_1, (Value.int .i64 ((0 : Nat) : Int)), (Value.slice none 0 0)], cL lv_1 3 (encN .i64) (lensK l), cL bv_1 124 (encPt) (ps_1), cParts (ps_1), cL (Value.slice none 0 0) 3 (encN .i64) ([]), cL r_2 5 (encN .u8) (sealN (plK l (kindN l))), cObj g_2 79 [(Value.int .i64 ((l.length : Nat) : Int)), (Value.int .i64 (((kindN l) : Nat) : Int)), lv_2, bv_2, (Value.int .i64 ((last_1 : Nat) : Int)), kv_1], cL lv_2 3 (encN .i64) (lensK l), cL bv_2 124 (encPt) (ps_2), cParts (ps_2), cL kv_1 3 (encN .i64) (blk_1), cL r_6 5 (encN .u8) (sealN (plK l (kindN l))), cL slv_1 3 (encN .i64) (((l).take ((l).length)).drop 0)] w') (.free 0 (.free 1 (.free 2 (.free 3 (.one 4 (.free 5 (.free 6 (.free 7 (.free 9 (.one 8 (.one 10 (.free 11 (.free 12 (.free 13 (.free 14 (.free 17 (.free 18 (.one 15 (.one 16 (.free 19 (.free 20 (.free 21 (.one 22 (.free 23 (.free 24 .fin))))))))))))))))))))))))) mixed (by kernel_rfl) ?_
  have hs_11 := hs_10.drew
  refine RP.ev rfl rfl rfl (fun w' hS' => Ev.move rfl) hs_11 ?_
  refine RP.ev rfl rfl rfl (fun w' hS' => Ev.move rfl) hs_11 ?_
  refine RP.evYes rfl rfl rfl rfl (rfl) rfl (fun w' hS' => Ev.move rfl) hs_11 ?_
  refine RP.evYes rfl rfl rfl rfl (rfl) rfl (fun w' hS' => Ev.move rfl) hs_11 ?_
  refine RP.effYes rfl rfl rfl rfl (rfl) rfl (OpE.call ent26 rfl ((same_ok _ _ (((l).take ((l).length)).drop 0) (l) _ (hs_11.rdL 12 rfl) (hv.ext hs_11.ext) (by simp; omega)).mono fun r_9 w_9 h_9 => ?_))
  obtain ⟨rfl, hp_9⟩ := h_9
  have hs_12 : Sat w [cObj g_1 79 [(Value.int .i64 (((l).length : Nat) : Int)), (Value.int .i64 (((kindN l) : Nat) : Int)), lv_1, bv_1, (Value.int .i64 ((0 : Nat) : Int)), (Value.slice none 0 0)], cL lv_1 3 (encN .i64) (lensK l), cL bv_1 124 (encPt) (ps_1), cParts (ps_1), cL (Value.slice none 0 0) 3 (encN .i64) ([]), cL r_2 5 (encN .u8) (sealN (plK l (kindN l))), cObj g_2 79 [(Value.int .i64 ((l.length : Nat) : Int)), (Value.int .i64 (((kindN l) : Nat) : Int)), lv_2, bv_2, (Value.int .i64 ((last_1 : Nat) : Int)), kv_1], cL lv_2 3 (encN .i64) (lensK l), cL bv_2 124 (encPt) (ps_2), cParts (ps_2), cL kv_1 3 (encN .i64) (blk_1), cL r_6 5 (encN .u8) (sealN (plK l (kindN l))), cL slv_1 3 (encN .i64) (((l).take ((l).length)).drop 0)] _ := hs_11.adds hp_9
  have hS_4 : Sat w [cObj g_1 79 [(Value.int .i64 (((l).length : Nat) : Int)), (Value.int .i64 (((kindN l) : Nat) : Int)), lv_1, bv_1, (Value.int .i64 ((0 : Nat) : Int)), (Value.slice none 0 0)], cL lv_1 3 (encN .i64) (lensK l), cL bv_1 124 (encPt) (ps_1), cParts (ps_1), cL (Value.slice none 0 0) 3 (encN .i64) ([]), cL r_2 5 (encN .u8) (sealN (plK l (kindN l))), cObj g_2 79 [(Value.int .i64 ((l.length : Nat) : Int)), (Value.int .i64 (((kindN l) : Nat) : Int)), lv_2, bv_2, (Value.int .i64 ((last_1 : Nat) : Int)), kv_1], cL lv_2 3 (encN .i64) (lensK l), cL bv_2 124 (encPt) (ps_2), cParts (ps_2), cL kv_1 3 (encN .i64) (blk_1), cL r_6 5 (encN .u8) (sealN (plK l (kindN l))), cL slv_1 3 (encN .i64) (((l).take ((l).length)).drop 0)] _ := hs_12.sub ((.cons_cons _ (.cons_cons _ (.cons_cons _ (.cons_cons _ (.cons_cons _ (.cons_cons _ (.cons_cons _ (.cons_cons _ (.cons_cons _ (.cons_cons _ (.cons_cons _ (.cons_cons _ (.cons_cons _ .slnil))))))))))))))
  refine ⟨hS_4, ?_⟩
  refine RP.ev rfl rfl rfl (fun w' hS' => Ev.pickY rfl (rfl) rfl) hS_4 ?_
  refine RP.ev rfl rfl rfl (fun w' hS' => Ev.move rfl) hS_4 ?_
  refine RP.evYes rfl rfl rfl rfl (decide_eq_true (by simp)) rfl (fun w' hS' => Ev.move rfl) hS_4 ?_
  refine RP.evYes rfl rfl rfl rfl (decide_eq_true (by simp)) rfl (fun w' hS' => Ev.move rfl) hS_4 ?_
  refine RP.effYes rfl rfl rfl rfl (decide_eq_true (by simp)) rfl (OpE.call ent29 rfl ((skind_ok _ ((kindN l)) _ (hs_12.cell (i := 6) (j := 1) rfl rfl)).mono fun r_10 w_10 h_10 => ?_))
  obtain ⟨rfl, hp_10⟩ := h_10
  have hs_13 : Sat w [cObj g_1 79 [(Value.int .i64 (((l).length : Nat) : Int)), (Value.int .i64 (((kindN l) : Nat) : Int)), lv_1, bv_1, (Value.int .i64 ((0 : Nat) : Int)), (Value.slice none 0 0)], cL lv_1 3 (encN .i64) (lensK l), cL bv_1 124 (encPt) (ps_1), cParts (ps_1), cL (Value.slice none 0 0) 3 (encN .i64) ([]), cL r_2 5 (encN .u8) (sealN (plK l (kindN l))), cObj g_2 79 [(Value.int .i64 ((l.length : Nat) : Int)), (Value.int .i64 (((kindN l) : Nat) : Int)), lv_2, bv_2, (Value.int .i64 ((last_1 : Nat) : Int)), kv_1], cL lv_2 3 (encN .i64) (lensK l), cL bv_2 124 (encPt) (ps_2), cParts (ps_2), cL kv_1 3 (encN .i64) (blk_1), cL r_6 5 (encN .u8) (sealN (plK l (kindN l))), cL slv_1 3 (encN .i64) (((l).take ((l).length)).drop 0)] _ := hs_12.adds hp_10
  have hS_5 : Sat w [cObj g_1 79 [(Value.int .i64 (((l).length : Nat) : Int)), (Value.int .i64 (((kindN l) : Nat) : Int)), lv_1, bv_1, (Value.int .i64 ((0 : Nat) : Int)), (Value.slice none 0 0)], cL lv_1 3 (encN .i64) (lensK l), cL bv_1 124 (encPt) (ps_1), cParts (ps_1), cL (Value.slice none 0 0) 3 (encN .i64) ([]), cL r_2 5 (encN .u8) (sealN (plK l (kindN l))), cObj g_2 79 [(Value.int .i64 ((l.length : Nat) : Int)), (Value.int .i64 (((kindN l) : Nat) : Int)), lv_2, bv_2, (Value.int .i64 ((last_1 : Nat) : Int)), kv_1], cL lv_2 3 (encN .i64) (lensK l), cL bv_2 124 (encPt) (ps_2), cParts (ps_2), cL kv_1 3 (encN .i64) (blk_1), cL r_6 5 (encN .u8) (sealN (plK l (kindN l))), cL slv_1 3 (encN .i64) (((l).take ((l).length)).drop 0)] _ := hs_13.sub ((.cons_cons _ (.cons_cons _ (.cons_cons _ (.cons_cons _ (.cons_cons _ (.cons_cons _ (.cons_cons _ (.cons_cons _ (.cons_cons _ (.cons_cons _ (.cons_cons _ (.cons_cons _ (.cons_cons _ .slnil))))))))))))))
  refine ⟨hS_5, ?_⟩
  refine RP.effYes rfl rfl rfl rfl (decide_eq_true (by simp)) rfl (OpE.call ent29 rfl ((skind_ok _ ((kindN l)) _ (hs_13.cell (i := 0) (j := 1) rfl rfl)).mono fun r_11 w_11 h_11 => ?_))
  obtain ⟨rfl, hp_11⟩ := h_11
  have hs_14 : Sat w [cObj g_1 79 [(Value.int .i64 (((l).length : Nat) : Int)), (Value.int .i64 (((kindN l) : Nat) : Int)), lv_1, bv_1, (Value.int .i64 ((0 : Nat) : Int)), (Value.slice none 0 0)], cL lv_1 3 (encN .i64) (lensK l), cL bv_1 124 (encPt) (ps_1), cParts (ps_1), cL (Value.slice none 0 0) 3 (encN .i64) ([]), cL r_2 5 (encN .u8) (sealN (plK l (kindN l))), cObj g_2 79 [(Value.int .i64 ((l.length : Nat) : Int)), (Value.int .i64 (((kindN l) : Nat) : Int)), lv_2, bv_2, (Value.int .i64 ((last_1 : Nat) : Int)), kv_1], cL lv_2 3 (encN .i64) (lensK l), cL bv_2 124 (encPt) (ps_2), cParts (ps_2), cL kv_1 3 (encN .i64) (blk_1), cL r_6 5 (encN .u8) (sealN (plK l (kindN l))), cL slv_1 3 (encN .i64) (((l).take ((l).length)).drop 0)] _ := hs_13.adds hp_11
  have hS_6 : Sat w [cObj g_1 79 [(Value.int .i64 (((l).length : Nat) : Int)), (Value.int .i64 (((kindN l) : Nat) : Int)), lv_1, bv_1, (Value.int .i64 ((0 : Nat) : Int)), (Value.slice none 0 0)], cL lv_1 3 (encN .i64) (lensK l), cL bv_1 124 (encPt) (ps_1), cParts (ps_1), cL (Value.slice none 0 0) 3 (encN .i64) ([]), cL r_2 5 (encN .u8) (sealN (plK l (kindN l))), cObj g_2 79 [(Value.int .i64 ((l.length : Nat) : Int)), (Value.int .i64 (((kindN l) : Nat) : Int)), lv_2, bv_2, (Value.int .i64 ((last_1 : Nat) : Int)), kv_1], cL lv_2 3 (encN .i64) (lensK l), cL bv_2 124 (encPt) (ps_2), cParts (ps_2), cL kv_1 3 (encN .i64) (blk_1), cL r_6 5 (encN .u8) (sealN (plK l (kindN l))), cL slv_1 3 (encN .i64) (((l).take ((l).length)).drop 0)] _ := hs_14.sub ((.cons_cons _ (.cons_cons _ (.cons_cons _ (.cons_cons _ (.cons_cons _ (.cons_cons _ (.cons_cons _ (.cons_cons _ (.cons_cons _ (.cons_cons _ (.cons_cons _ (.cons_cons _ (.cons_cons _ .slnil))))))))))))))
  refine ⟨hS_6, ?_⟩
  refine RP.evYes rfl rfl rfl rfl (decide_eq_true (by simp)) rfl (fun w' hS' => Ev.eqlN rfl rfl) hS_6 ?_
  refine RP.ev rfl rfl rfl (fun w' hS' => Ev.pickY rfl (decide_eq_true (by simp)) rfl) hS_6 ?_
  refine RP.ev rfl rfl rfl (fun w' hS' => Ev.move rfl) hS_6 ?_
  refine RP.evYes rfl rfl rfl rfl (decide_eq_true rfl) rfl (fun w' hS' => Ev.move rfl) hS_6 ?_
  refine RP.evYes rfl rfl rfl rfl (decide_eq_true rfl) rfl (fun w' hS' => Ev.move rfl) hS_6 ?_
  refine RP.evYes rfl rfl rfl rfl (decide_eq_true rfl) rfl (fun w' hS' => Ev.bytesStr Try.underlying40 Try.underlying9 Try.underlying5 rfl (hS'.rdL 5 rfl)) hS_6 ?_
  refine RP.effYes rfl rfl rfl rfl (decide_eq_true rfl) rfl (OpE.call ent27 rfl ((sencode_ok g_2 l.length (kindN l) lv_2 bv_2 (lensK l) ps_2 _ (hs_14.cell (i := 6) (j := 0) rfl rfl) (hs_14.cell (i := 6) (j := 1) rfl rfl) (hs_14.cell (i := 6) (j := 2) rfl rfl) (hs_14.cell (i := 6) (j := 3) rfl rfl) (hs_14.rdL 7 rfl) (hs_14.rdL 8 rfl) (hs_14.rdParts 9 rfl) (hl.len) (kindN_le _) (lensK_len hl) ((ptsK_b hps_2 hl).1) ((ptsK_b hps_2 hl).2) (by rw [hps_2]; exact ptsK_lt _)).mono fun r_12 w_12 h_12 => ?_))
  have hp_12 := h_12
  have hs_15 : Sat w [cObj g_1 79 [(Value.int .i64 (((l).length : Nat) : Int)), (Value.int .i64 (((kindN l) : Nat) : Int)), lv_1, bv_1, (Value.int .i64 ((0 : Nat) : Int)), (Value.slice none 0 0)], cL lv_1 3 (encN .i64) (lensK l), cL bv_1 124 (encPt) (ps_1), cParts (ps_1), cL (Value.slice none 0 0) 3 (encN .i64) ([]), cL r_2 5 (encN .u8) (sealN (plK l (kindN l))), cObj g_2 79 [(Value.int .i64 ((l.length : Nat) : Int)), (Value.int .i64 (((kindN l) : Nat) : Int)), lv_2, bv_2, (Value.int .i64 ((last_1 : Nat) : Int)), kv_1], cL lv_2 3 (encN .i64) (lensK l), cL bv_2 124 (encPt) (ps_2), cParts (ps_2), cL kv_1 3 (encN .i64) (blk_1), cL r_6 5 (encN .u8) (sealN (plK l (kindN l))), cL slv_1 3 (encN .i64) (((l).take ((l).length)).drop 0), cL r_12 5 (encN .u8) (sealN (payl l.length (kindN l) (lensK l) (ptsOf ps_2)))] _ := hs_14.adds hp_12
  have hS_7 : Sat w [cObj g_1 79 [(Value.int .i64 (((l).length : Nat) : Int)), (Value.int .i64 (((kindN l) : Nat) : Int)), lv_1, bv_1, (Value.int .i64 ((0 : Nat) : Int)), (Value.slice none 0 0)], cL lv_1 3 (encN .i64) (lensK l), cL bv_1 124 (encPt) (ps_1), cParts (ps_1), cL (Value.slice none 0 0) 3 (encN .i64) ([]), cL r_2 5 (encN .u8) (sealN (plK l (kindN l))), cObj g_2 79 [(Value.int .i64 ((l.length : Nat) : Int)), (Value.int .i64 (((kindN l) : Nat) : Int)), lv_2, bv_2, (Value.int .i64 ((last_1 : Nat) : Int)), kv_1], cL lv_2 3 (encN .i64) (lensK l), cL bv_2 124 (encPt) (ps_2), cParts (ps_2), cL kv_1 3 (encN .i64) (blk_1), cL r_6 5 (encN .u8) (sealN (plK l (kindN l))), cL slv_1 3 (encN .i64) (((l).take ((l).length)).drop 0)] _ := hs_15.sub ((.cons_cons _ (.cons_cons _ (.cons_cons _ (.cons_cons _ (.cons_cons _ (.cons_cons _ (.cons_cons _ (.cons_cons _ (.cons_cons _ (.cons_cons _ (.cons_cons _ (.cons_cons _ (.cons_cons _ (.cons _ .slnil)))))))))))))))
  refine ⟨hS_7, ?_⟩
  refine RP.effYes rfl rfl rfl rfl (decide_eq_true rfl) rfl (OpE.ev (Ev.bytesStr Try.underlying40 Try.underlying9 Try.underlying5 rfl (hs_15.rdL 13 rfl)) ⟨hS_7, ?_⟩)
  refine RP.evYes rfl rfl rfl rfl (decide_eq_true rfl) rfl (fun w' hS' => Ev.strEql rfl rfl) hS_7 ?_
  refine RP.ev rfl rfl rfl (fun w' hS' => Ev.pickY rfl (decide_eq_true rfl) rfl) hS_7 ?_
  refine RP.ev rfl rfl rfl (fun w' hS' => Ev.move rfl) hS_7 ?_
  refine RP.effYes rfl rfl rfl rfl (decide_eq_true (by rw [hps_2, payl_K])) rfl (OpE.call ent22 rfl ((awake_ok _).mono fun r_13 w_13 h_13 => ?_))
  obtain ⟨rfl, hp_13⟩ := h_13
  have hs_16 : Sat w [cObj g_1 79 [(Value.int .i64 (((l).length : Nat) : Int)), (Value.int .i64 (((kindN l) : Nat) : Int)), lv_1, bv_1, (Value.int .i64 ((0 : Nat) : Int)), (Value.slice none 0 0)], cL lv_1 3 (encN .i64) (lensK l), cL bv_1 124 (encPt) (ps_1), cParts (ps_1), cL (Value.slice none 0 0) 3 (encN .i64) ([]), cL r_2 5 (encN .u8) (sealN (plK l (kindN l))), cObj g_2 79 [(Value.int .i64 ((l.length : Nat) : Int)), (Value.int .i64 (((kindN l) : Nat) : Int)), lv_2, bv_2, (Value.int .i64 ((last_1 : Nat) : Int)), kv_1], cL lv_2 3 (encN .i64) (lensK l), cL bv_2 124 (encPt) (ps_2), cParts (ps_2), cL kv_1 3 (encN .i64) (blk_1), cL r_6 5 (encN .u8) (sealN (plK l (kindN l))), cL slv_1 3 (encN .i64) (((l).take ((l).length)).drop 0), cL r_12 5 (encN .u8) (sealN (payl l.length (kindN l) (lensK l) (ptsOf ps_2)))] _ := hs_15.adds hp_13
  have hS_8 : Sat w [cObj g_1 79 [(Value.int .i64 (((l).length : Nat) : Int)), (Value.int .i64 (((kindN l) : Nat) : Int)), lv_1, bv_1, (Value.int .i64 ((0 : Nat) : Int)), (Value.slice none 0 0)], cL lv_1 3 (encN .i64) (lensK l), cL bv_1 124 (encPt) (ps_1), cParts (ps_1), cL (Value.slice none 0 0) 3 (encN .i64) ([]), cL r_2 5 (encN .u8) (sealN (plK l (kindN l))), cObj g_2 79 [(Value.int .i64 ((l.length : Nat) : Int)), (Value.int .i64 (((kindN l) : Nat) : Int)), lv_2, bv_2, (Value.int .i64 ((last_1 : Nat) : Int)), kv_1], cL lv_2 3 (encN .i64) (lensK l), cL bv_2 124 (encPt) (ps_2), cParts (ps_2), cL kv_1 3 (encN .i64) (blk_1), cL r_6 5 (encN .u8) (sealN (plK l (kindN l))), cL slv_1 3 (encN .i64) (((l).take ((l).length)).drop 0)] _ := hs_16.sub ((.cons_cons _ (.cons_cons _ (.cons_cons _ (.cons_cons _ (.cons_cons _ (.cons_cons _ (.cons_cons _ (.cons_cons _ (.cons_cons _ (.cons_cons _ (.cons_cons _ (.cons_cons _ (.cons_cons _ (.cons _ .slnil)))))))))))))))
  refine ⟨hS_8, ?_⟩
  refine RP.ev rfl rfl rfl (fun w' hS' => Ev.pickY rfl (decide_eq_true (by rw [hps_2, payl_K])) rfl) hS_8 ?_
  refine RP.ev rfl rfl rfl (fun w' hS' => Ev.assign rfl) hS_8 ?_
  refine RP.fin ?_
  refine CW.ret ?_
  show PostK _ _ _ _ _ _
  refine post1 rfl rfl ?_
  have hs_17 : Sat w [] w_13 := hs_16.sub ((.cons _ (.cons _ (.cons _ (.cons _ (.cons _ (.cons _ (.cons _ (.cons _ (.cons _ (.cons _ (.cons _ (.cons _ (.cons _ (.cons _ .slnil)))))))))))))))
  exact ⟨rfl, hs_17⟩

theorem tokensEncodes_ok (v : Value) (z : List Int) (w : World) (hv : RdL w v (encI .i64) z) : CallsV Try.prog 8 [v] w fun r w' => r = .bool true ∧ Sat w [] w' := by
  rcases Nat.lt_or_ge 300 z.length with h | h
  · exact te_long v z w hv h
  · by_cases hb : ∃ x ∈ z, x < 0 ∨ 1024 ≤ x
    · exact te_range v z w hv h hb
    · obtain ⟨h0, hok⟩ := nats_ok (by omega) hb
      have hv2 := hv.nats h0
      obtain ⟨s, rfl, _⟩ := hv2.sv
      exact te_ok s _ w hv2 hok (by simpa using h)

end Go.Proofs.Ytfhbflhnelbkfaa
