/- The walks of the functions of F16s, printed by our own program (kwgen.py) out of our descriptions (base.py). -/
import Derived.Test.YtecfgjdpghddgaaGreatF14q
import Derived.Test.YtecfgjdpghddgaaGreatF16p
import Derived.Test.YtecfgjdpghddgaaGreatF16c
import Derived.Test.YtecfgjdpghddgaaGreatTab
set_option linter.unusedVariables false
set_option linter.unusedSimpArgs false
set_option linter.unusedSectionVars false
namespace Go.Proofs.YtecfgjdpghddgaaGreat
open Go.RowKit Go.Kw
set_option maxRecDepth 100000
theorem rblocks_ok (w0 w : World) (cs : List Chunk) (s : SV) (l : List Nat) (hs : Sat w0 ([] ++ cs) w) (hv : RdL w0 s.val (encN .i64) l) (hn : l.length ≤ 4096) :
    CallsV Tryz.prog 84 [s.val] w fun r w' => ∃ ps : List (SV × List Nat), ps.map Prod.snd = (List.range (nbk l.length)).map (chk l) ∧ (∀ p ∈ ps, RdL w0 p.1.val (encN .i64) p.2) ∧ Sat w0 ([cL r 27 (encSl Nat) ps] ++ cs) w' := by
  refine callsV_of Tryz.func84 rfl rfl ?_
  refine .seq <| .region <| .s rfl rfl <| .nil <| .seq <| .region <| .s rfl rfl <| .nil <| .seq <| .seq <| .region <| .s rfl rfl <| .nil <| .block ?_
  have hs_1 : Sat w0 ([cL (Value.slice none 0 0) 27 (encSl Nat) ([])] ++ cs) _ := (hs.newNilL 27 (encSl Nat)).mid
  refine .loop (α := Nat × Value × List (SV × List Nat)) (fun (k, ov, ps) => [(0, s.val), (3, ov), (4, (.int .i64 ((64 * k) : Nat)))]) (fun (k, ov, ps) w' => Sat w0 ([cL ov 27 (encSl Nat) (ps)] ++ cs) w' ∧ (64 * k ≤ l.length + 63) ∧ (ps.map Prod.snd = (List.range k).map (chk l)) ∧ (∀ p ∈ ps, RdL w0 p.1.val (encN .i64) p.2)) (fun (k, ov, ps) => l.length + 64 - 64 * k) (0, (.slice none 0 0), []) ⟨rfl, rfl, rfl, trivial⟩ ⟨hs_1, by omega, rfl, (fun _ h => by cases h)⟩ ?_
  rintro ⟨k, ov, ps⟩ w_1 ⟨hs_2, hk, hps, hall⟩
  show CW _ _ _ _ [(0, s.val), (3, ov), (4, (.int .i64 ((64 * k) : Nat)))] _
  have hpl : ps.length = k := by have := congrArg List.length hps; simpa using this
  refine .seq <| .seq <| .region <| .m rfl rfl <| .m rfl rfl <| .e rfl (.lenL Tryz.underlying27 rfl (hv.ext hs_2.ext)) <| .e rfl (.lssN rfl rfl) <| .nil <| .condD rfl (fun hc_1 => ?_) (fun hc_1 => ?_)
  · refine .skip <| .seq <| .block <| .region <| .m rfl rfl <| .m rfl rfl <| .m rfl rfl <| .m rfl rfl <| .e rfl (.addI (b := 64) rfl rfl (by omega)) <| .m rfl rfl <| .e rfl (.lenL Tryz.underlying27 rfl (hv.ext hs_2.ext)) <| .e rfl (.minN rfl rfl) <| .e rfl (.sliceL (E := encN .i64) (a := (64 * k)) (c := (min ((64 * k) + 64) l.length)) sl27 rfl (hv.ext hs_2.ext) ⟨_, rfl⟩ ⟨_, rfl⟩ (by omega) (by omega)) <| .f rfl (.lit1 (encSl Nat) (svOf (subSl (encN .i64).s s.val (64 * k) (min ((64 * k) + 64) l.length)), ((l).take (min ((64 * k) + 64) l.length)).drop (64 * k)) sl129 rfl hs_2 rfl fun v_1 w_2 hs_3 hch_1 => ?_)
    have hs_3d : Sat w0 ([cL ov 27 (encSl Nat) (ps), cL v_1 27 (encSl Nat) ([(svOf (subSl (encN .i64).s s.val (64 * k) (min ((64 * k) + 64) l.length)), ((l).take (min ((64 * k) + 64) l.length)).drop (64 * k))])] ++ cs) _ := (hs_3).mid
    refine .f rfl (.appendL 0 sl129 hs_3d rfl rfl rfl Tryz.underlying129 (hs_3d.rdL 1 rfl) (by simp; omega) (by simp; omega) fun v_2 w_3 hs_4 hch_2 => ?_)
    have hs_4d : Sat w0 ([cL v_2 27 (encSl Nat) (ps ++ [(svOf (subSl (encN .i64).s s.val (64 * k) (min ((64 * k) + 64) l.length)), ((l).take (min ((64 * k) + 64) l.length)).drop (64 * k))])] ++ cs) _ := hs_4.drop 1
    refine .s rfl rfl <| .nil <| .region <| .m rfl rfl <| .e rfl (.addI (b := 64) rfl rfl (by omega)) <| .s rfl rfl <| .nil ?_
    exact ⟨(k + 1, v_2, ps ++ [(svOf (subSl (encN .i64).s s.val (64 * k) (min ((64 * k) + 64) l.length)), ((l).take (min ((64 * k) + 64) l.length)).drop (64 * k))]), ⟨rfl, rfl, rfl, trivial⟩, ⟨hs_4d, by omega, by rw [List.map_append, hps, List.range_succ, List.map_append]; exact congrArg (_ ++ [·]) (chk_eq l k), fun p hp => by
        rcases List.mem_append.1 hp with hp | hp
        · exact hall p hp
        · have := List.mem_singleton.1 hp
          subst this
          exact hv.sub (by omega) (by omega)⟩, (show (l.length + 64 - 64 * (k + 1)) < (l.length + 64 - 64 * k) from by omega)⟩
  · refine .exit0 <| .seq <| .region <| .m rfl rfl <| .s rfl rfl <| .nil <| .ret ?_
    show PostK _ _ _ _ _ _
    refine post1 rfl rfl ?_
    exact ⟨ps, by rw [hps, show k = nbk l.length by unfold nbk; omega], hall, hs_2⟩
theorem rkind0_ok (s : SV) (l : List Nat) (w : World) (hv : RdL w s.val (encN .i64) l) (hl : OkN l) :
    CallsV Tryz.prog 55 [s.val] w fun r w' => Sat w [cL r 5 (encN .u8) (plK l 0)] w' := by
  have hs0 := Sat.start w
  refine callsV_of Tryz.func55 rfl rfl ?_
  refine .seq ?_
  have hln := hl.len
  have hu0 := uv_le l.length
  have hnb : nbk l.length ≤ 64 := by unfold nbk; omega
  refine .region <| .s rfl rfl <| .nil <| .seq <| .region <| .m rfl rfl <| .e rfl (.lenL Tryz.underlying27 rfl (hv.ext hs0.ext)) <| .e rfl (.convK (by rw [Tryz.underlying3]; rfl) Tryz.underlying56 rfl (wrap_u rfl (by (try simp only [IntKind.bits]); omega))) <| .f rfl (.call ent83 rfl ((ruv_ok (l.length) _ (by omega)).mono fun r_1 w_1 h_1 => ?_))
  have hp_1 := h_1
  have hs_1 := hs0.adds hp_1
  refine .f rfl (.lit1 (encN .u8) 0 sl22 rfl hs_1 rfl fun v_1 w_2 hs_2 hch_1 => ?_)
  refine .f rfl (.appendL 0 sl22 hs_2 rfl rfl rfl Tryz.underlying22 (hs_2.rdL 1 rfl) (by simp; omega) (by simp; omega) fun v_2 w_3 hs_3 hch_2 => ?_)
  have hs_3d : Sat w [cL v_2 5 (encN .u8) (uv (l.length) ++ [0])] _ := hs_3.drop 1
  refine .s rfl rfl <| .nil <| .seq <| .seq <| .region <| .m rfl rfl ?_
  have hA_1 : Sat w ([] ++ ([cL v_2 5 (encN .u8) (uv (l.length) ++ [0])] ++ [])) _ := (Sat.order [0] (by decide) hs_3d.tail).cut 0
  refine .f rfl (.call ent84 rfl ((rblocks_ok _ _ _ _ (l) hA_1 hv (by omega)).mono fun r_2 w_4 h_2 => ?_))
  obtain ⟨ps_1, hps_1, hall_1, hp_2⟩ := h_2
  have hs_4 : Sat w [cL v_2 5 (encN .u8) (uv (l.length) ++ [0]), cL r_2 27 (encSl Nat) (ps_1)] _ := (Sat.order [1, 0] (by decide) hp_2.join).untail
  refine .e rfl (.lenL Tryz.underlying129 rfl (hs_4.rdL 1 rfl)) <| .m rfl rfl <| .nil <| .block ?_
  have hpsl : ps_1.length = nbk l.length := by have h1 := congrArg List.length hps_1; simpa using h1
  have hs_5 : Sat w [cL v_2 5 (encN .u8) (hdP l.length 0 [] ++ pld 0 ((pk0 l (nbk l.length)).take (0))), cL r_2 27 (encSl Nat) (ps_1)] w_4 := by
    have hq : uv (l.length) ++ [0] = hdP l.length 0 [] ++ pld 0 ((pk0 l (nbk l.length)).take (0)) := by rw [hdP_zero]; simp [pld]
    rw [← hq]; exact hs_4
  have hs_6 : Sat w [_, _] w_4 := hs_5.sub ((.cons_cons _ (.cons_cons _ .slnil)))
  refine .loop (α := Nat × Value) (fun (k, bv) => [(0, s.val), (3, bv), (14, r_2), (15, (.int .i64 ps_1.length)), (16, (.int .i64 k))]) (fun (k, bv) w' => Sat w [cL bv 5 (encN .u8) (hdP l.length 0 [] ++ pld 0 ((pk0 l (nbk l.length)).take (k))), cL r_2 27 (encSl Nat) (ps_1)] w' ∧ (k ≤ ps_1.length) ∧ ((hdP l.length 0 [] ++ pld 0 ((pk0 l (nbk l.length)).take (k))).length ≤ 100 + 20010 * k)) (fun (k, bv) => nbk l.length - k) (0, v_2) ⟨rfl, rfl, rfl, rfl, rfl, trivial⟩ ⟨hs_6, Nat.zero_le _, by rw [hdP_zero]; have := uv_le l.length; simp [pld]; omega⟩ ?_
  rintro ⟨k, bv⟩ w_5 ⟨hs_7, hk, hpb⟩
  show CW _ _ _ _ [(0, s.val), (3, bv), (14, r_2), (15, (.int .i64 ps_1.length)), (16, (.int .i64 k))] _
  refine .seq <| .region <| .e rfl (.lssN rfl rfl) <| .nil <| .seq <| .condD rfl (fun hc_1 => ?_) (fun hc_1 => ?_)
  · refine .skip <| .seq <| .block <| .seq ?_
    obtain ⟨x, hx⟩ : ∃ x, (ps_1)[k]? = some x := ⟨_, List.getElem?_eq_getElem hc_1⟩
    obtain ⟨hkb, hx2⟩ := chks_get hps_1 hx
    have hcl : x.2.length ≤ 64 := by rw [hx2, chk_length]; omega
    refine .region <| .e rfl (.idxL (E := encSl Nat) sl129 rfl rfl (hs_7.rdL 1 rfl) (by omega)) <| .e rfl (.ldL (E := encSl Nat) scal27 rfl (hs_7.rdL 1 rfl) hx (by decide) rfl) <| .s rfl rfl <| .nil <| .seq ?_
    have hpkl := packBk_len x.2 (by omega)
    have hpu := uv_le (packBk x.2).length
    refine .region <| .m rfl rfl <| .f rfl (.call ent51 rfl ((rbpack_ok _ (x.2) _ ((hall_1 x (mem_of_get hx)).ext hs_7.ext) (by omega) (fun y hy => by rw [hx2] at hy; have := hl.lt y (chk_mem hy); omega)).mono fun r_3 w_6 h_3 => ?_))
    have hp_3 := h_3
    have hs_8 := hs_7.adds hp_3
    refine .s rfl rfl <| .nil <| .region <| .m rfl rfl <| .m rfl rfl <| .e rfl (.lenL Tryz.underlying22 rfl (hs_8.rdL 2 rfl)) <| .e rfl (.convK (by rw [Tryz.underlying3]; rfl) Tryz.underlying56 rfl (wrap_u rfl (by (try simp only [IntKind.bits]); omega))) <| .f rfl (.call ent83 rfl ((ruv_ok ((packBk (x.2)).length) _ (by omega)).mono fun r_4 w_7 h_4 => ?_))
    have hp_4 := h_4
    have hs_9 := hs_8.adds hp_4
    refine .f rfl (.appendL 0 sl22 hs_9 rfl rfl rfl Tryz.underlying22 (hs_9.rdL 3 rfl) (by (try simp only [List.length_append]); simp only [List.length_append] at hpb; omega) (by (try simp only [List.length_append]); simp only [List.length_append] at hpb; omega) fun v_3 w_8 hs_10 hch_3 => ?_)
    have hs_10d : Sat w [cL v_3 5 (encN .u8) (hdP l.length 0 [] ++ pld 0 ((pk0 l (nbk l.length)).take (k)) ++ uv ((packBk (x.2)).length)), _, _, _] _ := hs_10
    refine .m rfl rfl <| .f rfl (.appendL 0 sl22 hs_10d rfl rfl rfl Tryz.underlying22 (hs_10d.rdL 2 rfl) (by (try simp only [List.length_append]); simp only [List.length_append] at hpb; omega) (by (try simp only [List.length_append]); simp only [List.length_append] at hpb; omega) fun v_4 w_9 hs_11 hch_4 => ?_)
    refine .s rfl rfl <| .nil <| .region <| .e rfl (.addI (b := 1) rfl rfl (by omega)) <| .m rfl rfl <| .nil ?_
    have hs_12 : Sat w [_, _] w_9 := hs_11.sub ((.cons_cons _ (.cons_cons _ (.cons _ (.cons _ .slnil)))))
    have hs_13 : Sat w [cL v_4 5 (encN .u8) (hdP l.length 0 [] ++ pld 0 ((pk0 l (nbk l.length)).take (k + 1))), cL r_2 27 (encSl Nat) (ps_1)] w_9 := by
      have hq : hdP l.length 0 [] ++ pld 0 ((pk0 l (nbk l.length)).take (k)) ++ uv ((packBk (x.2)).length) ++ packBk (x.2) = hdP l.length 0 [] ++ pld 0 ((pk0 l (nbk l.length)).take (k + 1)) := by rw [take_succ_of (pk0_get hkb), pld_snoc, pld1, hx2]; simp
      rw [← hq]; exact hs_12
    exact ⟨(k + 1, v_4), ⟨rfl, rfl, rfl, rfl, rfl, trivial⟩, ⟨hs_13, by omega, by rw [take_succ_of (pk0_get hkb), pld_snoc, pld1, if_pos rfl, ← hx2]; simp only [List.length_append] at hpb ⊢; omega⟩, (show (nbk l.length - (k + 1)) < (nbk l.length - k) from by omega)⟩
  · refine .exit0 <| .seq <| .region <| .m rfl rfl <| .s rfl rfl <| .nil <| .ret ?_
    show PostK _ _ _ _ _ _
    refine post1 rfl rfl ?_
    have hs_14 : Sat w [cL bv 5 (encN .u8) (hdP l.length 0 [] ++ pld 0 ((pk0 l (nbk l.length)).take (k)))] w_5 := hs_7.sub ((.cons_cons _ (.cons _ .slnil)))
    have hkn : k = nbk l.length := by have h1 := congrArg List.length hps_1; simp at h1; omega
    have hs_15 : Sat w [cL bv 5 (encN .u8) (plK l 0)] w_5 := by
      have hq : hdP l.length 0 [] ++ pld 0 ((pk0 l (nbk l.length)).take (k)) = plK l 0 := by rw [plK_zero, hkn, List.take_of_length_le (by rw [pk0_len]; exact Nat.le_refl _)]
      rw [← hq]; exact hs_14
    exact hs_15
theorem rkind1_ok (s : SV) (l : List Nat) (w : World) (hv : RdL w s.val (encN .i64) l) (hl : OkN l) :
    CallsV Tryz.prog 54 [s.val] w fun r w' => Sat w [cL r 5 (encN .u8) (plK l 1)] w' := by
  have hs0 := Sat.start w
  refine callsV_of Tryz.func54 rfl rfl ?_
  refine .seq ?_
  have hln := hl.len
  have hu0 := uv_le l.length
  have hnb : nbk l.length ≤ 64 := by unfold nbk; omega
  have hmx := hl.mx
  have hsyl := symL_length l
  have hu1 := uv_le (mxN l)
  refine .region <| .s rfl rfl <| .nil <| .seq <| .region <| .s rfl rfl <| .nil <| .seq <| .seq <| .region <| .m rfl rfl <| .e rfl (.lenL Tryz.underlying27 rfl (hv.ext hs0.ext)) <| .m rfl rfl <| .nil <| .block <| .loop (α := Nat × Nat) (fun (k, m) => [(0, s.val), (3, (.int .i64 m)), (19, s.val), (20, (.int .i64 l.length)), (21, (.int .i64 k))]) (fun (k, m) w' => Sat w [] w' ∧ (k ≤ l.length) ∧ (m = mxN (l.take k)) ∧ (m ≤ 1024)) (fun (k, m) => l.length - k) (0, 0) ⟨rfl, rfl, rfl, rfl, rfl, trivial⟩ ⟨hs0, Nat.zero_le _, rfl, Nat.zero_le _⟩ ?_
  rintro ⟨k, m⟩ w_1 ⟨hs_1, hk, hm, hmb⟩
  show CW _ _ _ _ [(0, s.val), (3, (.int .i64 m)), (19, s.val), (20, (.int .i64 l.length)), (21, (.int .i64 k))] _
  refine .seq <| .region <| .e rfl (.lssN rfl rfl) <| .nil <| .seq <| .condD rfl (fun hc_1 => ?_) (fun hc_1 => ?_)
  · refine .skip <| .seq <| .block <| .seq ?_
    obtain ⟨x, hx⟩ : ∃ x, (l)[k]? = some x := ⟨_, List.getElem?_eq_getElem hc_1⟩
    refine .region <| .e rfl (.idxL (E := encN .i64) sl27 rfl rfl (hv.ext hs_1.ext) (by omega)) <| .e rfl (.ldL (E := encN .i64) scal3 rfl (hv.ext hs_1.ext) hx (by decide) rfl) <| .s rfl rfl <| .nil ?_
    have hxb := hl.lt x (mem_of_get hx)
    refine .region <| .m rfl rfl <| .m rfl rfl <| .e rfl (.addI (b := 1) rfl rfl (by omega)) <| .e rfl (.maxN rfl rfl) <| .s rfl rfl <| .nil <| .region <| .e rfl (.addI (b := 1) rfl rfl (by omega)) <| .m rfl rfl <| .nil ?_
    exact ⟨(k + 1, (max m (x + 1))), ⟨rfl, rfl, rfl, rfl, rfl, trivial⟩, ⟨hs_1, by omega, by rw [take_succ_of hx, mxN_snoc, hm], by have := hl.lt x (mem_of_get hx); omega⟩, (show (l.length - (k + 1)) < (l.length - k) from by omega)⟩
  · refine .exit0 <| .seq ?_
    have hmm : m = mxN l := by rw [hm, show k = l.length by omega, List.take_length]
    refine .region <| .m rfl rfl <| .f rfl (.makeL (encN .i64) (0) sl27 rfl hs_1 rfl rfl (by omega) (by omega) (by omega) fun v_1 w_2 hs_2 hch_1 => ?_)
    refine .s rfl rfl <| .nil <| .seq <| .seq <| .region <| .m rfl rfl <| .e rfl (.lenL Tryz.underlying27 rfl (hv.ext hs_2.ext)) <| .m rfl rfl <| .nil <| .block <| .loop (α := Nat × List Nat) (fun (k, cur) => [(0, s.val), (3, (.int .i64 m)), (6, v_1), (32, s.val), (33, (.int .i64 l.length)), (34, (.int .i64 k))]) (fun (k, cur) w' => Sat w [cL v_1 3 (encN .i64) (cur)] w' ∧ (k ≤ l.length) ∧ (cur = cntN (mxN l) (l.take k)) ∧ (cur.length = mxN l) ∧ (∀ x ∈ cur, x ≤ k)) (fun (k, cur) => l.length - k) (0, List.replicate (m) 0) ⟨rfl, rfl, rfl, rfl, rfl, rfl, trivial⟩ ⟨hs_2, Nat.zero_le _, by rw [hmm]; rfl, by rw [hmm]; simp, fun x hx => by have := List.eq_of_mem_replicate hx; omega⟩ ?_
    rintro ⟨k, cur⟩ w_3 ⟨hs_3, hk, hcur, hcl, hcb⟩
    show CW _ _ _ _ [(0, s.val), (3, (.int .i64 m)), (6, v_1), (32, s.val), (33, (.int .i64 l.length)), (34, (.int .i64 k))] _
    refine .seq <| .region <| .e rfl (.lssN rfl rfl) <| .nil <| .seq <| .condD rfl (fun hc_2 => ?_) (fun hc_2 => ?_)
    · refine .skip <| .seq <| .block <| .seq ?_
      obtain ⟨x, hx⟩ : ∃ x, (l)[k]? = some x := ⟨_, List.getElem?_eq_getElem hc_2⟩
      refine .region <| .e rfl (.idxL (E := encN .i64) sl27 rfl rfl (hv.ext hs_3.ext) (by omega)) <| .e rfl (.ldL (E := encN .i64) scal3 rfl (hv.ext hs_3.ext) hx (by decide) rfl) <| .s rfl rfl <| .nil ?_
      have hxm : x < cur.length := by rw [hcl]; exact mxN_ge l x (mem_of_get hx)
      obtain ⟨y, hy⟩ : ∃ y, (cur)[x]? = some y := ⟨_, List.getElem?_eq_getElem (hxm)⟩
      have hyk := hcb y (mem_of_get hy)
      refine .region <| .m rfl rfl <| .m rfl rfl <| .e rfl (.idxL (E := encN .i64) sl27 rfl rfl (hs_3.rdL 0 rfl) (by omega)) <| .e rfl (.ldL (E := encN .i64) scal3 rfl (hs_3.rdL 0 rfl) hy (by decide) rfl) <| .e rfl (.addI (b := 1) rfl rfl (by omega)) <| .e rfl (.idxL (E := encN .i64) sl27 rfl rfl (hs_3.rdL 0 rfl) (by omega)) <| .f rfl (.setL (a := (y + 1)) 0 one3 hs_3 rfl rfl rfl rfl (by (try simp only [List.length_set]); omega) fun w_4 hs_4 hch_2 => ?_)
      refine .nil <| .region <| .e rfl (.addI (b := 1) rfl rfl (by omega)) <| .m rfl rfl <| .nil ?_
      exact ⟨(k + 1, cur.set x (y + 1)), ⟨rfl, rfl, rfl, rfl, rfl, rfl, trivial⟩, ⟨hs_4, by omega, by rw [take_succ_of hx, cntN_snoc, ← hcur, cntStep, getD_some hy], by simp only [List.length_set]; exact hcl, fun z hz => by
        rcases List.mem_or_eq_of_mem_set hz with hz | rfl
        · have := hcb z hz; omega
        · omega⟩, (show (l.length - (k + 1)) < (l.length - k) from by omega)⟩
    · refine .exit0 <| .seq ?_
      have hs_5 : Sat w [cL v_1 3 (encN .i64) (cntN (mxN l) l)] w_3 := by
        have hq : cur = cntN (mxN l) l := by rw [hcur, show k = l.length by omega, List.take_length]
        rw [← hq]; exact hs_3
      refine .region <| .m rfl rfl <| .f rfl (.call ent82 rfl ((rlengths_ok _ (cntN (mxN l) l) _ (hs_5.rdL 0 rfl) (by rw [cntN_length]; exact hmx) (fun x hx => by have := cntN_le (mxN l) l x hx; omega)).mono fun r_1 w_5 h_1 => ?_))
      obtain ⟨lv_1, rfl, hp_1⟩ := h_1
      have hs_6 := hs_5.adds hp_1
      refine .m rfl rfl <| .e rfl (.extract rfl rfl) <| .e rfl (.extract rfl rfl) <| .s rfl rfl <| .s rfl rfl <| .nil <| .seq ?_
      have hs_7 : Sat w [cL v_1 3 (encN .i64) (cntN (mxN l) l), cL lv_1 3 (encN .i64) (symL l)] w_5 := by
        have hq : lensN (cntN (mxN l) l) = symL l := rfl
        rw [← hq]; exact hs_6
      refine .region <| .m rfl rfl <| .e rfl (.lenL Tryz.underlying27 rfl (hv.ext hs_7.ext)) <| .e rfl (.convK (by rw [Tryz.underlying3]; rfl) Tryz.underlying56 rfl (wrap_u rfl (by (try simp only [IntKind.bits]); omega))) <| .f rfl (.call ent83 rfl ((ruv_ok (l.length) _ (by omega)).mono fun r_2 w_6 h_2 => ?_))
      have hp_2 := h_2
      have hs_8 := hs_7.adds hp_2
      refine .f rfl (.lit1 (encN .u8) 1 sl22 rfl hs_8 rfl fun v_2 w_7 hs_9 hch_3 => ?_)
      refine .f rfl (.appendL 2 sl22 hs_9 rfl rfl rfl Tryz.underlying22 (hs_9.rdL 3 rfl) (by simp; omega) (by simp; omega) fun v_3 w_8 hs_10 hch_4 => ?_)
      have hs_10d : Sat w [_, _, cL v_3 5 (encN .u8) (uv (l.length) ++ [1])] _ := hs_10.drop 3
      refine .s rfl rfl <| .nil <| .seq ?_
      have hu2 := uv_le m
      refine .region <| .m rfl rfl <| .m rfl rfl <| .e rfl (.convK (by rw [Tryz.underlying3]; rfl) Tryz.underlying56 rfl (wrap_u rfl (by (try simp only [IntKind.bits]); omega))) <| .f rfl (.call ent83 rfl ((ruv_ok (m) _ (by omega)).mono fun r_3 w_9 h_3 => ?_))
      have hp_3 := h_3
      have hs_11 := hs_10d.adds hp_3
      refine .f rfl (.appendL 2 sl22 hs_11 rfl rfl rfl Tryz.underlying22 (hs_11.rdL 3 rfl) (by simp; omega) (by simp; omega) fun v_4 w_10 hs_12 hch_5 => ?_)
      have hs_12d : Sat w [cL v_1 3 (encN .i64) (cntN (mxN l) l), cL lv_1 3 (encN .i64) (symL l), cL v_4 5 (encN .u8) (uv (l.length) ++ [1] ++ uv (m)), cL r_3 5 (encN .u8) (uv (m))] _ := hs_12
      refine .s rfl rfl <| .nil <| .seq <| .seq <| .region <| .m rfl rfl <| .e rfl (.lenL Tryz.underlying27 rfl (hs_12d.rdL 1 rfl)) <| .m rfl rfl <| .nil <| .block ?_
      have hs_13 : Sat w [cL v_4 5 (encN .u8) (uv (l.length) ++ [1] ++ uv (m)), cL lv_1 3 (encN .i64) (symL l)] w_10 := ((Sat.order [2, 1, 0, 3] (by decide) hs_12d.tail).untail).sub ((.cons_cons _ (.cons_cons _ (.cons _ (.cons _ .slnil)))))
      have hs_14 : Sat w [cL v_4 5 (encN .u8) (uv l.length ++ [1] ++ uv (symL l).length ++ ((symL l).take (0)).map (· % 2 ^ 8)), cL lv_1 3 (encN .i64) (symL l)] w_10 := by
        have hq : uv (l.length) ++ [1] ++ uv (m) = uv l.length ++ [1] ++ uv (symL l).length ++ ((symL l).take (0)).map (· % 2 ^ 8) := by rw [symL_length, ← hmm]; simp
        rw [← hq]; exact hs_13
      refine .loop (α := Nat × Value) (fun (k, bv) => [(0, s.val), (9, lv_1), (11, bv), (61, lv_1), (62, (.int .i64 ((symL l).length : Nat))), (63, (.int .i64 k))]) (fun (k, bv) w' => Sat w [cL bv 5 (encN .u8) (uv l.length ++ [1] ++ uv (symL l).length ++ ((symL l).take (k)).map (· % 2 ^ 8)), cL lv_1 3 (encN .i64) (symL l)] w' ∧ (k ≤ (symL l).length)) (fun (k, bv) => (symL l).length - k) (0, v_4) ⟨rfl, rfl, rfl, rfl, rfl, rfl, trivial⟩ ⟨hs_14, Nat.zero_le _⟩ ?_
      rintro ⟨k, bv⟩ w_11 ⟨hs_15, hk⟩
      show CW _ _ _ _ [(0, s.val), (9, lv_1), (11, bv), (61, lv_1), (62, (.int .i64 ((symL l).length : Nat))), (63, (.int .i64 k))] _
      refine .seq <| .region <| .e rfl (.lssN rfl rfl) <| .nil <| .seq <| .condD rfl (fun hc_3 => ?_) (fun hc_3 => ?_)
      · refine .skip <| .seq <| .block <| .seq ?_
        have hu3 := uv_le (symL l).length
        obtain ⟨x, hx⟩ : ∃ x, (symL l)[k]? = some x := ⟨_, List.getElem?_eq_getElem hc_3⟩
        refine .region <| .e rfl (.idxL (E := encN .i64) sl27 rfl rfl (hs_15.rdL 1 rfl) (by omega)) <| .e rfl (.ldL (E := encN .i64) scal3 rfl (hs_15.rdL 1 rfl) hx (by decide) rfl) <| .s rfl rfl <| .nil <| .region <| .m rfl rfl <| .m rfl rfl <| .e rfl (.convN (by rw [Tryz.underlying3]; rfl) Tryz.underlying5 rfl rfl) <| .f rfl (.lit1 (encN .u8) (x % 2 ^ 8) sl22 rfl hs_15 rfl fun v_5 w_12 hs_16 hch_6 => ?_)
        refine .f rfl (.appendL 0 sl22 hs_16 rfl rfl rfl Tryz.underlying22 (hs_16.rdL 2 rfl) (by simp; omega) (by simp; omega) fun v_6 w_13 hs_17 hch_7 => ?_)
        have hs_17d : Sat w [cL v_6 5 (encN .u8) (uv l.length ++ [1] ++ uv (symL l).length ++ ((symL l).take (k)).map (· % 2 ^ 8) ++ [(x % 2 ^ 8)]), _] _ := hs_17.drop 2
        refine .s rfl rfl <| .nil <| .region <| .e rfl (.addI (b := 1) rfl rfl (by omega)) <| .m rfl rfl <| .nil ?_
        have hs_18 : Sat w [_, _] w_13 := hs_17d.sub ((.cons_cons _ (.cons_cons _ .slnil)))
        have hs_19 : Sat w [cL v_6 5 (encN .u8) (uv l.length ++ [1] ++ uv (symL l).length ++ ((symL l).take (k + 1)).map (· % 2 ^ 8)), cL lv_1 3 (encN .i64) (symL l)] w_13 := by
          have hq : uv l.length ++ [1] ++ uv (symL l).length ++ ((symL l).take (k)).map (· % 2 ^ 8) ++ [(x % 2 ^ 8)] = uv l.length ++ [1] ++ uv (symL l).length ++ ((symL l).take (k + 1)).map (· % 2 ^ 8) := by rw [take_succ_of hx]; simp
          rw [← hq]; exact hs_18
        exact ⟨(k + 1, v_6), ⟨rfl, rfl, rfl, rfl, rfl, rfl, trivial⟩, ⟨hs_19, by omega⟩, (show ((symL l).length - (k + 1)) < ((symL l).length - k) from by omega)⟩
      · refine .exit0 <| .seq <| .seq <| .region <| .m rfl rfl ?_
        have hA_1 : Sat w ([] ++ ([cL bv 5 (encN .u8) (uv l.length ++ [1] ++ uv (symL l).length ++ ((symL l).take (k)).map (· % 2 ^ 8)), cL lv_1 3 (encN .i64) (symL l)] ++ [])) _ := (Sat.order [0, 1] (by decide) hs_15.tail).cut 0
        refine .f rfl (.call ent84 rfl ((rblocks_ok _ _ _ _ (l) hA_1 hv (by omega)).mono fun r_4 w_14 h_4 => ?_))
        obtain ⟨ps_1, hps_1, hall_1, hp_4⟩ := h_4
        have hs_20 : Sat w [cL bv 5 (encN .u8) (uv l.length ++ [1] ++ uv (symL l).length ++ ((symL l).take (k)).map (· % 2 ^ 8)), cL lv_1 3 (encN .i64) (symL l), cL r_4 27 (encSl Nat) (ps_1)] _ := (Sat.order [1, 2, 0] (by decide) hp_4.join).untail
        refine .e rfl (.lenL Tryz.underlying129 rfl (hs_20.rdL 2 rfl)) <| .m rfl rfl <| .nil <| .block ?_
        have hpsl : ps_1.length = nbk l.length := by have h1 := congrArg List.length hps_1; simpa using h1
        have hs_21 : Sat w [_, _, _] w_14 := hs_20.sub ((.cons_cons _ (.cons_cons _ (.cons_cons _ .slnil))))
        have hs_22 : Sat w [cL bv 5 (encN .u8) (hdP l.length 1 (symL l) ++ pld 1 ((pk1 l (nbk l.length)).take (0))), cL lv_1 3 (encN .i64) (symL l), cL r_4 27 (encSl Nat) (ps_1)] w_14 := by
          have hq : uv l.length ++ [1] ++ uv (symL l).length ++ ((symL l).take (k)).map (· % 2 ^ 8) = hdP l.length 1 (symL l) ++ pld 1 ((pk1 l (nbk l.length)).take (0)) := by rw [hdP_one, show k = (symL l).length by omega, List.take_length]; simp [pld]
          rw [← hq]; exact hs_21
        refine .loop (α := Nat × Value) (fun (q, bv) => [(0, s.val), (9, lv_1), (11, bv), (74, r_4), (75, (.int .i64 ps_1.length)), (76, (.int .i64 q))]) (fun (q, bv) w' => Sat w [cL bv 5 (encN .u8) (hdP l.length 1 (symL l) ++ pld 1 ((pk1 l (nbk l.length)).take (q))), cL lv_1 3 (encN .i64) (symL l), cL r_4 27 (encSl Nat) (ps_1)] w' ∧ (q ≤ ps_1.length) ∧ ((hdP l.length 1 (symL l) ++ pld 1 ((pk1 l (nbk l.length)).take (q))).length ≤ 2000 + 20010 * q)) (fun (q, bv) => nbk l.length - q) (0, bv) ⟨rfl, rfl, rfl, rfl, rfl, rfl, trivial⟩ ⟨hs_22, Nat.zero_le _, by have h1 := hdP_length l.length 1 (symL l); simp [pld]; omega⟩ ?_
        rintro ⟨q, bv⟩ w_15 ⟨hs_23, hq, hpb⟩
        show CW _ _ _ _ [(0, s.val), (9, lv_1), (11, bv), (74, r_4), (75, (.int .i64 ps_1.length)), (76, (.int .i64 q))] _
        refine .seq <| .region <| .e rfl (.lssN rfl rfl) <| .nil <| .seq <| .condD rfl (fun hc_4 => ?_) (fun hc_4 => ?_)
        · refine .skip <| .seq <| .block <| .seq ?_
          obtain ⟨x, hx⟩ : ∃ x, (ps_1)[q]? = some x := ⟨_, List.getElem?_eq_getElem hc_4⟩
          obtain ⟨hkb, hx2⟩ := chks_get hps_1 hx
          have hcl : x.2.length ≤ 64 := by rw [hx2, chk_length]; omega
          have hhl := hufB_length (GoodLens.of_valid (validB_ok (symL_ok l hmx))) x.2
          have hpkl := packB_length (hufB (symL l) x.2)
          have hpu := uv_le (hufB (symL l) x.2).length
          refine .region <| .e rfl (.idxL (E := encSl Nat) sl129 rfl rfl (hs_23.rdL 2 rfl) (by omega)) <| .e rfl (.ldL (E := encSl Nat) scal27 rfl (hs_23.rdL 2 rfl) hx (by decide) rfl) <| .s rfl rfl <| .nil <| .seq <| .region <| .m rfl rfl <| .m rfl rfl <| .f rfl (.call ent85 rfl ((rhencode_ok _ _ (symL l) (x.2) _ (hs_23.rdL 1 rfl) ((hall_1 x (mem_of_get hx)).ext hs_23.ext) (by rw [symL_length]; exact hmx) (validB_ok (symL_ok l hmx)) (by omega) (fun y hy => symL_pos hmx y (by rw [hx2] at hy; exact chk_mem hy))).mono fun r_5 w_16 h_5 => ?_))
          obtain ⟨hv_1, rfl, hp_5⟩ := h_5
          have hs_24 := hs_23.adds hp_5
          refine .m rfl rfl <| .e rfl (.extract rfl rfl) <| .e rfl (.extract rfl rfl) <| .e rfl (.extract rfl rfl) <| .s rfl rfl <| .s rfl rfl <| .s rfl rfl <| .nil <| .region <| .m rfl rfl <| .m rfl rfl <| .e rfl (.convK (by rw [Tryz.underlying3]; rfl) Tryz.underlying56 rfl (wrap_u rfl (by (try simp only [IntKind.bits]); omega))) <| .f rfl (.call ent83 rfl ((ruv_ok ((hufB (symL l) x.2).length) _ (by omega)).mono fun r_6 w_17 h_6 => ?_))
          have hp_6 := h_6
          have hs_25 := hs_24.adds hp_6
          refine .f rfl (.appendL 0 sl22 hs_25 rfl rfl rfl Tryz.underlying22 (hs_25.rdL 4 rfl) (by (try simp only [List.length_append]); simp only [List.length_append] at hpb; omega) (by (try simp only [List.length_append]); simp only [List.length_append] at hpb; omega) fun v_7 w_18 hs_26 hch_8 => ?_)
          have hs_26d : Sat w [cL v_7 5 (encN .u8) (hdP l.length 1 (symL l) ++ pld 1 ((pk1 l (nbk l.length)).take (q)) ++ uv ((hufB (symL l) x.2).length)), _, _, _, _] _ := hs_26
          refine .m rfl rfl <| .f rfl (.appendL 0 sl22 hs_26d rfl rfl rfl Tryz.underlying22 (hs_26d.rdL 3 rfl) (by (try simp only [List.length_append]); simp only [List.length_append] at hpb; omega) (by (try simp only [List.length_append]); simp only [List.length_append] at hpb; omega) fun v_8 w_19 hs_27 hch_9 => ?_)
          refine .s rfl rfl <| .nil <| .region <| .e rfl (.addI (b := 1) rfl rfl (by omega)) <| .m rfl rfl <| .nil ?_
          have hs_28 : Sat w [_, _, _] w_19 := hs_27.sub ((.cons_cons _ (.cons_cons _ (.cons_cons _ (.cons _ (.cons _ .slnil))))))
          have hs_29 : Sat w [cL v_8 5 (encN .u8) (hdP l.length 1 (symL l) ++ pld 1 ((pk1 l (nbk l.length)).take (q + 1))), cL lv_1 3 (encN .i64) (symL l), cL r_4 27 (encSl Nat) (ps_1)] w_19 := by
            have hq : hdP l.length 1 (symL l) ++ pld 1 ((pk1 l (nbk l.length)).take (q)) ++ uv ((hufB (symL l) x.2).length) ++ packB (hufB (symL l) x.2) = hdP l.length 1 (symL l) ++ pld 1 ((pk1 l (nbk l.length)).take (q + 1)) := by rw [take_succ_of (pk1_get hkb), pld_snoc, pld1, hx2]; simp
            rw [← hq]; exact hs_28
          exact ⟨(q + 1, v_8), ⟨rfl, rfl, rfl, rfl, rfl, rfl, trivial⟩, ⟨hs_29, by omega, by rw [take_succ_of (pk1_get hkb), pld_snoc, pld1, if_neg (by decide), ← hx2]; simp only [List.length_append] at hpb ⊢; omega⟩, (show (nbk l.length - (q + 1)) < (nbk l.length - q) from by omega)⟩
        · refine .exit0 <| .seq <| .region <| .m rfl rfl <| .s rfl rfl <| .nil <| .ret ?_
          show PostK _ _ _ _ _ _
          refine post1 rfl rfl ?_
          have hs_30 : Sat w [cL bv 5 (encN .u8) (hdP l.length 1 (symL l) ++ pld 1 ((pk1 l (nbk l.length)).take (q)))] w_15 := hs_23.sub ((.cons_cons _ (.cons _ (.cons _ .slnil))))
          have hkn : q = nbk l.length := by omega
          have hs_31 : Sat w [cL bv 5 (encN .u8) (plK l 1)] w_15 := by
            have hq : hdP l.length 1 (symL l) ++ pld 1 ((pk1 l (nbk l.length)).take (q)) = plK l 1 := by rw [plK_one, hkn, List.take_of_length_le (by rw [pk1_len]; exact Nat.le_refl _)]
            rw [← hq]; exact hs_30
          exact hs_31
theorem rkind_ok (s : SV) (l : List Nat) (w : World) (hv : RdL w s.val (encN .i64) l) (hl : OkN l) :
    CallsV Tryz.prog 53 [s.val] w fun r w' => r = .int .i64 ((kindN l : Nat) : Int) ∧ Sat w [] w' := by
  have hs0 := Sat.start w
  refine callsV_of Tryz.func53 rfl rfl ?_
  refine .seq <| .region <| .s rfl rfl <| .nil <| .seq <| .seq <| .region <| .m rfl rfl <| .f rfl (.call ent54 rfl ((rkind1_ok _ (l) _ (hv.ext hs0.ext) (hl)).mono fun r_1 w_1 h_1 => ?_))
  have hp_1 := h_1
  have hs_1 := hs0.adds hp_1
  refine .e rfl (.lenL Tryz.underlying22 rfl (hs_1.rdL 0 rfl)) <| .m rfl rfl <| .f rfl (.call ent55 rfl ((rkind0_ok _ (l) _ (hv.ext hs_1.ext) (hl)).mono fun r_2 w_2 h_2 => ?_))
  have hp_2 := h_2
  have hs_2 := hs_1.adds hp_2
  refine .e rfl (.lenL Tryz.underlying22 rfl (hs_2.rdL 1 rfl)) <| .e rfl (.lssN rfl rfl) <| .nil <| .condD rfl (fun hc_1 => ?_) (fun hc_1 => ?_)
  · refine .seq <| .region <| .s rfl rfl <| .nil <| .ret ?_
    show PostK _ _ _ _ _ _
    refine post1 rfl rfl ?_
    have hs_3 : Sat w [] w_2 := hs_2.sub ((.cons _ (.cons _ .slnil)))
    exact ⟨by rw [kindN, if_pos hc_1]; rfl, hs_3⟩
  · refine .skip <| .seq <| .region <| .s rfl rfl <| .nil <| .ret ?_
    show PostK _ _ _ _ _ _
    refine post1 rfl rfl ?_
    have hs_4 : Sat w [] w_2 := hs_2.sub ((.cons _ (.cons _ .slnil)))
    exact ⟨by rw [kindN, if_neg hc_1]; rfl, hs_4⟩
theorem rencode_ok (s : SV) (l : List Nat) (w : World) (hv : RdL w s.val (encN .i64) l) (hl : OkN l) :
    CallsV Tryz.prog 26 [s.val] w fun r w' => Sat w [cL r 5 (encN .u8) (sealN (plK l (kindN l)))] w' := by
  have hs0 := Sat.start w
  refine callsV_of Tryz.func26 rfl rfl ?_
  refine .seq <| .region <| .s rfl rfl <| .nil <| .seq <| .seq <| .region <| .m rfl rfl <| .f rfl (.call ent53 rfl ((rkind_ok _ (l) _ (hv.ext hs0.ext) (hl)).mono fun r_1 w_1 h_1 => ?_))
  obtain ⟨rfl, hp_1⟩ := h_1
  have hs_1 := hs0.adds hp_1
  refine .e rfl (.eqlN (b := 1) rfl rfl) <| .nil <| .condD rfl (fun hc_1 => ?_) (fun hc_1 => ?_)
  · refine .seq ?_
    have hpn := plK_len hl (k := 1) (by decide)
    refine .region <| .m rfl rfl <| .f rfl (.call ent54 rfl ((rkind1_ok _ (l) _ (hv.ext hs_1.ext) (hl)).mono fun r_2 w_2 h_2 => ?_))
    have hp_2 := h_2
    have hs_2 := hs_1.adds hp_2
    refine .f rfl (.call ent48 rfl ((rseal_ok _ (plK l 1) _ (hs_2.rdL 0 rfl) (plK_lt (by decide)) (by omega)).mono fun r_3 w_3 h_3 => ?_))
    have hp_3 := h_3
    have hs_3 : Sat w [_, cL r_3 5 (encN .u8) (sealN (plK l 1))] _ := hs_2.adds hp_3
    refine .s rfl rfl <| .nil <| .ret ?_
    show PostK _ _ _ _ _ _
    refine post1 rfl rfl ?_
    have hs_4 : Sat w [_] w_3 := hs_3.sub ((.cons _ (.cons_cons _ .slnil)))
    have hkd : kindN l = 1 := hc_1
    have hs_5 : Sat w [cL r_3 5 (encN .u8) (sealN (plK l (kindN l)))] w_3 := by
      have hq : sealN (plK l 1) = sealN (plK l (kindN l)) := by rw [hkd]
      rw [← hq]; exact hs_4
    exact hs_5
  · refine .skip <| .seq ?_
    have hpn := plK_len hl (k := 0) (by decide)
    refine .region <| .m rfl rfl <| .f rfl (.call ent55 rfl ((rkind0_ok _ (l) _ (hv.ext hs_1.ext) (hl)).mono fun r_4 w_4 h_4 => ?_))
    have hp_4 := h_4
    have hs_6 := hs_1.adds hp_4
    refine .f rfl (.call ent48 rfl ((rseal_ok _ (plK l 0) _ (hs_6.rdL 0 rfl) (plK_lt (by decide)) (by omega)).mono fun r_5 w_5 h_5 => ?_))
    have hp_5 := h_5
    have hs_7 := hs_6.adds hp_5
    refine .s rfl rfl <| .nil <| .ret ?_
    show PostK _ _ _ _ _ _
    refine post1 rfl rfl ?_
    have hs_8 : Sat w [_] w_5 := hs_7.sub ((.cons _ (.cons_cons _ .slnil)))
    have hkd : kindN l = 0 := by have := kindN_le l; omega
    have hs_9 : Sat w [cL r_5 5 (encN .u8) (sealN (plK l (kindN l)))] w_5 := by
      have hq : sealN (plK l 0) = sealN (plK l (kindN l)) := by rw [hkd]
      rw [← hq]; exact hs_8
    exact hs_9
end Go.Proofs.YtecfgjdpghddgaaGreat
