/- The walks of the functions of F07t, printed by our own program (kwgen.py) out of our descriptions (base.py). -/
import Derived.Test.YtecfgjdpghddgaaGreatF07r
import Derived.Test.YtecfgjdpghddgaaGreatM07b
import Derived.Test.YtecfgjdpghddgaaGreatF14q
import Derived.Test.YtecfgjdpghddgaaGreatTab
set_option linter.unusedVariables false
set_option linter.unusedSimpArgs false
set_option linter.unusedSectionVars false
namespace Go.Proofs.YtecfgjdpghddgaaGreat
open Go.RowKit Go.Kw
set_option maxRecDepth 100000
end Go.Proofs.YtecfgjdpghddgaaGreat
namespace Go.Kw
open Go.RowKit
theorem Ev.mulN64 {P : Program} {n : Nat} {L : Know} {w : World} {d : Option Nat} {ty : TypeId} {pos : String} {af : Array Edge} {g : Option (Nat × Bool)} {x y : Operand} {xt yt : TypeId} {a b : Nat} (hx : evK L x = some (.int .u64 (a : Int))) (hy : evK L y = some (.int .u64 (b : Int))) (h : a * b < 2 ^ 64) : Ev P n L w ⟨d, .binOp .mul xt x y yt, ty, pos, af, g⟩ (.int .u64 ((a * b : Nat) : Int)) := by
  have h1 := Ev.mulW (P := P) (n := n) (w := w) (d := d) (xt := xt) (yt := yt) (ty := ty) (pos := pos) (af := af) (g := g) hx hy
  rwa [← Int.natCast_mul, wrap_u rfl h] at h1
end Go.Kw
namespace Go.Proofs.YtecfgjdpghddgaaGreat
open Go.RowKit Go.Kw
set_option maxRecDepth 100000
theorem rcodes_bad (v : Value) (l : List Nat) (w : World) (hv : RdL w v (encN .i64) l) (hn : l.length ≤ 1024) (hval : validB l = false) :
    CallsV Tryz.prog 52 [v] w fun r w' => r = .tuple #[.slice none 0 0, .int .i64 ((1 : Nat) : Int)] ∧ Sat w [] w' := by
  have hs0 := Sat.start w
  refine callsV_of Tryz.func52 rfl rfl ?_
  refine .seq <| .region <| .s rfl rfl <| .s rfl rfl <| .nil <| .seq <| .seq <| .region <| .m rfl rfl <| .f rfl (.call ent81 rfl ((rvalid_ok _ (l) _ (hv.ext hs0.ext) (hn)).mono fun r_1 w_1 h_1 => ?_))
  obtain ⟨rfl, hp_1⟩ := h_1
  have hs_1 := hs0.adds hp_1
  refine .e rfl (.notB rfl) <| .nil <| .condT rfl (by rw [hval]; rfl) <| .seq <| .region <| .s rfl rfl <| .s rfl rfl <| .nil <| .ret ?_
  show PostK _ _ _ _ _ _
  refine post2 rfl rfl rfl ?_
  exact ⟨rfl, hs_1⟩
set_option maxHeartbeats 2000000 in
theorem rhdec_ok (v u : Value) (l b : List Nat) (bits count : Nat) (w : World) (hv : RdL w v (encN .i64) l) (hu0 : RdL w u (encN .u8) b) (hn : l.length ≤ 1024) (hb : ∀ x ∈ b, x < 256) (hbits : bits ≤ 8 * b.length) (hbl : b.length ≤ 1000000) (hcount : count ≤ 4096) :
    CallsV Tryz.prog 24 [v, u, (.int .i64 bits), (.int .i64 count)] w fun r w' => ∃ v' out, ∃ e : Nat, r = .tuple #[v', .int .i64 (e : Int)] ∧ Sat w [cL v' 3 (encN .i64) out] w' ∧ (e = 0 → out.length = count) ∧ ∀ s, validB l = true → HdOf l b bits count s → e = 0 ∧ out = s := by
  have hs0 := Sat.start w
  refine callsV_of Tryz.func24 rfl rfl ?_
  refine .seq <| .region <| .s rfl rfl <| .s rfl rfl <| .nil <| .seq ?_
  rcases (show validB l = true ∨ validB l = false from by cases validB l; exact .inr rfl; exact .inl rfl) with hval | hval
  · refine .region <| .m rfl rfl <| .f rfl (.call ent52 rfl ((rcodes_ok _ (l) _ (hv.ext hs0.ext) (hn) (hval)).mono fun r_1 w_1 h_1 => ?_))
    obtain ⟨cv_1, rfl, hp_1⟩ := h_1
    have hs_1 := hs0.adds hp_1
    refine .m rfl rfl <| .e rfl (.extract rfl rfl) <| .e rfl (.extract rfl rfl) <| .s rfl rfl <| .s rfl rfl <| .nil <| .seq <| .seq <| .region <| .m rfl rfl <| .e rfl (.neqN (a := 0) (b := 0) rfl rfl) <| .m rfl rfl <| .yes rfl rfl rfl (rfl) <| .m rfl rfl <| .yes rfl rfl rfl (rfl) <| .e rfl (.lssN (b := 0) rfl rfl) <| .e rfl (.pickN rfl (rfl) rfl) <| .m rfl rfl <| .yes rfl rfl rfl (decide_eq_false (by omega)) <| .m rfl rfl <| .yes rfl rfl rfl (decide_eq_false (by omega)) <| .m rfl rfl <| .yes rfl rfl rfl (decide_eq_false (by omega)) <| .e rfl (.lenL Tryz.underlying22 rfl (hu0.ext hs_1.ext)) <| .yes rfl rfl rfl (decide_eq_false (by omega)) <| .e rfl (.mulI (a := 8) rfl rfl (by (try simp only [IntKind.bits]); omega)) <| .yes rfl rfl rfl (decide_eq_false (by omega)) <| .e rfl (.gtrN rfl rfl) <| .e rfl (.pickN rfl (decide_eq_false (by omega)) rfl) <| .m rfl rfl <| .yes rfl rfl rfl (decide_eq_false (by omega)) <| .m rfl rfl <| .yes rfl rfl rfl (decide_eq_false (by omega)) <| .e rfl (.lssN (b := 0) rfl rfl) <| .e rfl (.pickN rfl (decide_eq_false (by omega)) rfl) <| .m rfl rfl <| .yes rfl rfl rfl (decide_eq_false (by omega)) <| .m rfl rfl <| .yes rfl rfl rfl (decide_eq_false (by omega)) <| .e rfl (.gtrN (b := 4096) rfl rfl) <| .e rfl (.pickN rfl (decide_eq_false (by omega)) rfl) <| .nil <| .condF rfl (decide_eq_false (by omega)) <| .skip <| .seq ?_
    have hgl := GoodLens.of_valid hval
    refine .region <| .m rfl rfl <| .m rfl rfl <| .f rfl (.call ent49 rfl ((runp2_ok _ (b) (bits) _ (hu0.ext hs_1.ext) (hb) (hbits) (hbl)).mono fun r_2 w_2 h_2 => ?_))
    have hp_2 := h_2
    have hs_2 := hs_1.adds hp_2
    refine .s rfl rfl <| .s rfl rfl <| .nil <| .seq <| .region <| .s rfl rfl <| .nil <| .seq <| .block ?_
    have hs_3 : Sat w [_, _, cL (Value.slice none 0 0) 3 (encN .i64) ([])] _ := hs_2.newNilL 3 (encN .i64)
    refine .loop (α := Nat × Value × List Nat) (fun (at0, ov, out) => [(0, v), (3, (.int .i64 count)), (10, cv_1), (12, r_2), (13, (.int .i64 at0)), (14, ov)]) (fun (at0, ov, out) w' => Sat w [cL cv_1 56 (encN .u64) (codesN l), cL r_2 4 (encB) (bitsN b bits), cL ov 3 (encN .i64) (out)] w' ∧ (at0 ≤ bits) ∧ (out.length ≤ count) ∧ (∀ s, HdOf l b bits count s → out = s.take out.length ∧ at0 = (hufB l out).length)) (fun (at0, ov, out) => count - out.length) (0, (.slice none 0 0), []) ⟨rfl, rfl, rfl, rfl, rfl, rfl, trivial⟩ ⟨hs_3, Nat.zero_le _, Nat.zero_le _, fun s hd => ⟨rfl, rfl⟩⟩ ?_
    rintro ⟨at0, ov, out⟩ w_3 ⟨hs_4, hat, hol, hE⟩
    show CW _ _ _ _ [(0, v), (3, (.int .i64 count)), (10, cv_1), (12, r_2), (13, (.int .i64 at0)), (14, ov)] _
    refine .seq <| .seq <| .region <| .m rfl rfl <| .e rfl (.lenL Tryz.underlying27 rfl (hs_4.rdL 2 rfl)) <| .m rfl rfl <| .e rfl (.lssN rfl rfl) <| .nil <| .condD rfl (fun hc_1 => ?_) (fun hc_1 => ?_)
    · refine .skip <| .block <| .seq <| .region <| .s rfl rfl <| .s rfl rfl <| .s rfl rfl <| .nil <| .seq <| .block ?_
      have hlt6 : out.length < count := hc_1
      refine .loop (α := Nat × Nat × Int × Nat) (fun (n, u, fd, at2) => [(0, v), (3, (.int .i64 count)), (10, cv_1), (12, r_2), (13, (.int .i64 at2)), (14, ov), (15, (.int .u64 u)), (16, (.int .i64 n)), (17, (.int .i64 (fd)))]) (fun (n, u, fd, at2) w' => Sat w [cL cv_1 56 (encN .u64) (codesN l), cL r_2 4 (encB) (bitsN b bits), cL ov 3 (encN .i64) (out)] w' ∧ (n ≤ 16) ∧ (at2 = at0 + n) ∧ (at2 ≤ bits) ∧ (u = bvN b at0 n) ∧ (fd = -1 ∨ ∃ fx : Nat, fd = (fx : Int) ∧ fx < l.length) ∧ (fd < 0 → n ≤ 15) ∧ (∀ s, HdOf l b bits count s → ∀ x, s[out.length]? = some x → (fd < 0 → n < lenKey l x) ∧ (0 ≤ fd → fd = (x : Int) ∧ n = lenKey l x))) (fun (n, u, fd, at2) => if fd < 0 then 17 - n else 0) (0, 0, (-1), at0) ⟨rfl, rfl, rfl, rfl, rfl, rfl, rfl, rfl, rfl, trivial⟩ ⟨hs_4, Nat.zero_le _, rfl, hat, rfl, .inl rfl, fun _ => Nat.zero_le _, fun s hd x hx => ⟨fun _ => hd.1 x (List.mem_of_getElem? hx), fun h9 => absurd h9 (by decide)⟩⟩ ?_
      rintro ⟨n, u, fd, at2⟩ w_4 ⟨hs_5, hn16, ha, hatb, hu, hfd, hcont, hF⟩
      show CW _ _ _ _ [(0, v), (3, (.int .i64 count)), (10, cv_1), (12, r_2), (13, (.int .i64 at2)), (14, ov), (15, (.int .u64 u)), (16, (.int .i64 n)), (17, (.int .i64 (fd)))] _
      refine .seq <| .seq <| .region <| .m rfl rfl <| .e rfl (.lss rfl rfl) <| .nil <| .condD rfl (fun hc_2 => ?_) (fun hc_2 => ?_)
      · refine .skip <| .block <| .seq <| .seq ?_
        have hfd0 : fd < 0 := hc_2
        have hn15 := hcont hfd0
        have hfe : fd = -1 := by rcases hfd with h | ⟨fx, h, _⟩ <;> omega
        refine .region <| .m rfl rfl <| .m rfl rfl <| .e rfl (.lenL Tryz.underlying90 rfl (hs_5.rdL 1 rfl)) <| .e rfl (.geqN rfl rfl) <| .nil <| .condD rfl (fun hc_3 => ?_) (fun hc_3 => ?_)
        · refine .seq <| .region <| .s rfl rfl <| .s rfl rfl <| .nil <| .ret ?_
          show PostK _ _ _ _ _ _
          refine post2 rfl rfl rfl ?_
          have hs_6 := hs_5.newNilL 3 (encN .i64)
          have hs_7 : Sat w [_] w_4 := hs_6.sub ((.cons _ (.cons _ (.cons _ (.cons_cons _ .slnil)))))
          refine ⟨_, [], _, rfl, hs_7, fun h9 => absurd h9 (by decide), fun s _ hd => False.elim ?_⟩
          obtain ⟨x, hx⟩ := rh_get hd hlt6
          have h1 := (hF s hd x hx).1 hfd0
          have h2 := rh_more hgl hd hx (hE s hd) h1
          have h9 := hc_3
          rw [bitsN_length] at h9
          omega
        · refine .skip <| .seq ?_
          have hat2 : at2 < bits := by have h9 := hc_3; rw [bitsN_length] at h9; omega
          obtain ⟨x, hxe⟩ : ∃ x, x = decide (rb b at2 = 1) := ⟨_, rfl⟩
          have hx : (bitsN b bits)[at2]? = some x := by rw [hxe]; exact bitsN_get hat2
          have hub : u < 2 ^ n := by rw [hu]; exact bvN_lt _ _ _
          have hp16 : 2 ^ n ≤ 2 ^ 15 := Nat.pow_le_pow_right (by decide) hn15
          refine .region <| .m rfl rfl <| .e rfl (.mulN64 (b := 2) rfl rfl (by (try simp only [IntKind.bits]); omega)) <| .s rfl rfl <| .nil <| .seq <| .seq <| .region <| .m rfl rfl <| .m rfl rfl <| .e rfl (.idxL (E := encB) sl90 rfl rfl (hs_5.rdL 1 rfl) (by rw [bitsN_length]; exact hat2)) <| .e rfl (.ldL (E := encB) scal4 rfl (hs_5.rdL 1 rfl) hx (by decide) rfl) <| .nil <| .cond rfl (fun hc_4 => ?_) (fun hc_4 => ?_)
          · refine .region <| .m rfl rfl <| .e rfl (.addN (b := 1) rfl rfl rfl) <| .s rfl rfl <| .nil <| .seq ?_
            have hU : (((u * 2) + 1) % 2 ^ 64) = (bvN b at0 (n + 1)) := by rw [bvN, ← hu, ← ha, show rb b at2 = 1 from of_decide_eq_true (hxe.symm.trans hc_4)]; omega
            refine .weaken [(0, _), (3, _), (10, _), (12, _), (13, _), (14, _), (15, (.int .u64 ((bvN b at0 (n + 1)) : Nat))), (16, _), (17, _), (54, _), (55, _), (56, _), (57, _), (58, _), (59, _), (60, _), (61, _), (62, _), (63, _), (64, _), (65, _), (66, _), (67, _)] ⟨rfl, rfl, rfl, rfl, rfl, rfl, congrArg some (congrArg (fun q : Nat => Value.int .u64 (q : Int)) hU), rfl, rfl, rfl, rfl, rfl, rfl, rfl, rfl, rfl, rfl, rfl, rfl, rfl, rfl, rfl, rfl, trivial⟩ <| .region <| .m rfl rfl <| .e rfl (.addI (b := 1) rfl rfl (by (try simp only [IntKind.bits]); omega)) <| .s rfl rfl <| .nil <| .seq <| .region <| .m rfl rfl <| .e rfl (.addI (b := 1) rfl rfl (by (try simp only [IntKind.bits]); omega)) <| .s rfl rfl <| .nil <| .seq <| .region <| .s rfl rfl <| .nil <| .seq <| .seq <| .weaken [(0, _), (3, _), (10, _), (12, _), (13, _), (14, _), (15, _), (16, _), (17, (.int .i64 ((-1)))), (18, _), (54, _), (55, _), (56, _), (57, _), (58, _), (59, _), (60, _), (61, _), (62, _), (63, _), (64, _), (65, _), (66, _), (67, _), (68, _), (69, _), (70, _), (71, _)] ⟨rfl, rfl, rfl, rfl, rfl, rfl, rfl, rfl, congrArg some (congrArg (Value.int .i64) hfe), rfl, rfl, rfl, rfl, rfl, rfl, rfl, rfl, rfl, rfl, rfl, rfl, rfl, rfl, rfl, rfl, rfl, rfl, rfl, trivial⟩ <| .region <| .m rfl rfl <| .e rfl (.lenL Tryz.underlying27 rfl (hv.ext hs_5.ext)) <| .m rfl rfl <| .nil <| .block <| .loop (α := Nat × Int × Bool) (fun (j, fd2, al) => [(0, v), (3, (.int .i64 count)), (10, cv_1), (12, r_2), (13, (.int .i64 ((at2 + 1) : Nat))), (14, ov), (15, (.int .u64 ((bvN b at0 (n + 1)) : Nat))), (16, (.int .i64 ((n + 1) : Nat))), (17, (.int .i64 (fd2))), (18, (.bool al)), (72, v), (73, (.int .i64 l.length)), (74, (.int .i64 j))]) (fun (j, fd2, al) w' => Sat w [cL cv_1 56 (encN .u64) (codesN l), cL r_2 4 (encB) (bitsN b bits), cL ov 3 (encN .i64) (out)] w' ∧ (j ≤ l.length) ∧ (fd2 = fndN l (codesN l) (n + 1) (bvN b at0 (n + 1)) j) ∧ (al = alvN l (codesN l) (n + 1) (bvN b at0 (n + 1)) j)) (fun (j, fd2, al) => l.length - j) (0, (-1), false) ⟨rfl, rfl, rfl, rfl, rfl, rfl, rfl, rfl, rfl, rfl, rfl, rfl, rfl, trivial⟩ ⟨hs_5, Nat.zero_le _, rfl, rfl⟩ ?_
            rintro ⟨j, fd2, al⟩ w_5 ⟨hs_8, hj, hf2, hal⟩
            show CW _ _ _ _ [(0, v), (3, (.int .i64 count)), (10, cv_1), (12, r_2), (13, (.int .i64 ((at2 + 1) : Nat))), (14, ov), (15, (.int .u64 ((bvN b at0 (n + 1)) : Nat))), (16, (.int .i64 ((n + 1) : Nat))), (17, (.int .i64 (fd2))), (18, (.bool al)), (72, v), (73, (.int .i64 l.length)), (74, (.int .i64 j))] _
            refine .seq <| .region <| .e rfl (.lssN rfl rfl) <| .nil <| .seq <| .condD rfl (fun hc_5 => ?_) (fun hc_5 => ?_)
            · refine .skip <| .seq <| .block <| .seq ?_
              obtain ⟨y, hy⟩ : ∃ y, l[j]? = some y := ⟨_, List.getElem?_eq_getElem hc_5⟩
              obtain ⟨c, hcc⟩ : ∃ c, (codesN l)[j]? = some c := ⟨_, List.getElem?_eq_getElem (by rw [codesN_length]; exact hc_5)⟩
              have hjl : j < (codesN l).length := by rw [codesN_length]; exact hc_5
              have hy15 : y ≤ 15 := validB_le hval y (mem_of_get hy)
              have hyd : l.getD j 0 = y := getD_some hy
              have hcd : (codesN l).getD j 0 = c := getD_some hcc
              have hc64 : 0 < y → c < 2 ^ 15 := fun h9 => by have h8 := (code_of hgl (x := j) (by show 0 < l.getD j 0; omega)).2; have h7 : cdOf l j = c := hcd; have h6 : lenKey l j = y := hyd; rw [h7, h6] at h8; exact Nat.lt_of_lt_of_le h8 (Nat.pow_le_pow_right (by decide) hy15)
              refine .region <| .m rfl rfl <| .e rfl (.idxL (E := encN .i64) sl27 rfl rfl (hv.ext hs_8.ext) (by omega)) <| .e rfl (.ldL (E := encN .i64) scal3 rfl (hv.ext hs_8.ext) hy (by decide) rfl) <| .s rfl rfl <| .s rfl rfl <| .nil <| .seq <| .seq <| .mid (fun L' w' => Weak [(0, v), (3, (.int .i64 count)), (10, cv_1), (12, r_2), (13, (.int .i64 ((at2 + 1) : Nat))), (14, ov), (15, (.int .u64 ((bvN b at0 (n + 1)) : Nat))), (16, (.int .i64 ((n + 1) : Nat))), (17, (.int .i64 (fd2))), (18, (.bool al)), (19, (.int .i64 j)), (20, (.int .i64 y)), (72, v), (73, (.int .i64 l.length)), (74, (.int .i64 j)), (75, (.bool (decide (j < l.length)))), (89, (.bool (decide ((y = (n + 1)) ∧ (c = (bvN b at0 (n + 1)))))))] L' ∧ Sat w [cL cv_1 56 (encN .u64) (codesN l), cL r_2 4 (encB) (bitsN b bits), cL ov 3 (encN .i64) (out)] w') ?_ ?_
              · refine .region <| .m rfl rfl <| .m rfl rfl <| .e rfl (.eqlN rfl rfl) <| .m rfl rfl ?_
                by_cases hg_1 : y = (n + 1)
                · refine .yes rfl rfl rfl (decide_eq_true hg_1) <| .m rfl rfl <| .yes rfl rfl rfl (decide_eq_true hg_1) <| .m rfl rfl <| .yes rfl rfl rfl (decide_eq_true hg_1) <| .e rfl (.idxL (E := encN .u64) sl92 rfl rfl (hs_8.rdL 0 rfl) (hjl)) <| .yes rfl rfl rfl (decide_eq_true hg_1) <| .e rfl (.ldL (E := encN .u64) scal56 rfl (hs_8.rdL 0 rfl) hcc (by decide) rfl) <| .yes rfl rfl rfl (decide_eq_true hg_1) <| .m rfl rfl <| .yes rfl rfl rfl (decide_eq_true hg_1) <| .e rfl (.eqlN rfl rfl) <| .e rfl (.pickY rfl (decide_eq_true hg_1) rfl) <| .nil ?_
                  exact ⟨⟨rfl, rfl, rfl, rfl, rfl, rfl, rfl, rfl, rfl, rfl, rfl, rfl, rfl, rfl, rfl, rfl, congrArg some (congrArg Value.bool (by simp [hg_1])), trivial⟩, hs_8⟩
                · refine .no rfl rfl rfl (decide_eq_false hg_1) rfl <| .no rfl rfl rfl (decide_eq_false hg_1) rfl <| .no rfl rfl rfl (decide_eq_false hg_1) rfl <| .no rfl rfl rfl (decide_eq_false hg_1) rfl <| .no rfl rfl rfl (decide_eq_false hg_1) rfl <| .no rfl rfl rfl (decide_eq_false hg_1) rfl <| .e rfl (.pickN rfl (decide_eq_false hg_1) rfl) <| .nil ?_
                  exact ⟨⟨rfl, rfl, rfl, rfl, rfl, rfl, rfl, rfl, rfl, rfl, rfl, rfl, rfl, rfl, rfl, rfl, congrArg some (congrArg Value.bool (by simp [hg_1])), trivial⟩, hs_8⟩
              · rintro L' w_6 ⟨hw_1, hs_9⟩
                refine .weaken _ hw_1 <| .condD rfl (fun hc_6 => ?_) (fun hc_6 => ?_)
                · refine .region <| .m rfl rfl <| .s rfl rfl <| .nil <| .mid (fun L' w' => Weak [(0, v), (3, (.int .i64 count)), (10, cv_1), (12, r_2), (13, (.int .i64 ((at2 + 1) : Nat))), (14, ov), (15, (.int .u64 ((bvN b at0 (n + 1)) : Nat))), (16, (.int .i64 ((n + 1) : Nat))), (17, (.int .i64 j)), (18, (.bool (decide ((al = true) ∨ (((n + 1) ≤ y) ∧ ((c / 2 ^ (y - (n + 1))) = (bvN b at0 (n + 1)))))))), (19, (.int .i64 j)), (20, (.int .i64 y)), (72, v), (73, (.int .i64 l.length)), (74, (.int .i64 j)), (75, (.bool (decide (j < l.length)))), (89, (.bool (decide ((y = (n + 1)) ∧ (c = (bvN b at0 (n + 1)))))))] L' ∧ Sat w [cL cv_1 56 (encN .u64) (codesN l), cL r_2 4 (encB) (bitsN b bits), cL ov 3 (encN .i64) (out)] w') ?_ ?_
                  · refine .region <| .m rfl rfl <| .m rfl rfl ?_
                    by_cases hg_2 : al = true
                    · refine .no rfl rfl rfl (hg_2) rfl <| .no rfl rfl rfl (hg_2) rfl <| .no rfl rfl rfl (hg_2) rfl <| .no rfl rfl rfl (hg_2) rfl <| .noU rfl rfl rfl rfl <| .noU rfl rfl rfl rfl <| .noU rfl rfl rfl rfl <| .noU rfl rfl rfl rfl <| .noU rfl rfl rfl rfl <| .noU rfl rfl rfl rfl <| .noU rfl rfl rfl rfl <| .noU rfl rfl rfl rfl <| .noU rfl rfl rfl rfl <| .noU rfl rfl rfl rfl <| .noU rfl rfl rfl rfl <| .no rfl rfl rfl (hg_2) rfl <| .e rfl (.pickY rfl (hg_2) rfl) <| .s rfl rfl <| .nil ?_
                      exact ⟨⟨rfl, rfl, rfl, rfl, rfl, rfl, rfl, rfl, rfl, congrArg some (congrArg Value.bool (by simp [hg_2])), rfl, rfl, rfl, rfl, rfl, rfl, rfl, trivial⟩, hs_9⟩
                    · refine .yes rfl rfl rfl (by simpa using hg_2) <| .m rfl rfl <| .yes rfl rfl rfl (by simpa using hg_2) <| .m rfl rfl <| .yes rfl rfl rfl (by simpa using hg_2) <| .e rfl (.geqN rfl rfl) <| .yes rfl rfl rfl (by simpa using hg_2) <| .m rfl rfl ?_
                      by_cases hg_3 : (n + 1) ≤ y
                      · refine .yes rfl rfl rfl (decide_eq_true hg_3) <| .m rfl rfl <| .yes rfl rfl rfl (decide_eq_true hg_3) <| .m rfl rfl <| .yes rfl rfl rfl (decide_eq_true hg_3) <| .e rfl (.idxL (E := encN .u64) sl92 rfl rfl (hs_9.rdL 0 rfl) (hjl)) <| .yes rfl rfl rfl (decide_eq_true hg_3) <| .e rfl (.ldL (E := encN .u64) scal56 rfl (hs_9.rdL 0 rfl) hcc (by decide) rfl) <| .yes rfl rfl rfl (decide_eq_true hg_3) <| .m rfl rfl <| .yes rfl rfl rfl (decide_eq_true hg_3) <| .m rfl rfl <| .yes rfl rfl rfl (decide_eq_true hg_3) <| .e rfl (.subI rfl rfl (by (try simp only [IntKind.bits]); omega) (by omega)) <| .yes rfl rfl rfl (decide_eq_true hg_3) <| .e rfl (.convK (by rw [Tryz.underlying3]; rfl) Tryz.underlying88 rfl (wrap_u rfl (by (try simp only [IntKind.bits]); omega))) <| .yes rfl rfl rfl (decide_eq_true hg_3) <| .e rfl (.shrN rfl rfl (by have h9 := hc64 (by omega); (try simp only [IntKind.bits]); omega)) <| .yes rfl rfl rfl (decide_eq_true hg_3) <| .m rfl rfl <| .yes rfl rfl rfl (decide_eq_true hg_3) <| .e rfl (.eqlN rfl rfl) <| .yes rfl rfl rfl (by simpa using hg_2) <| .e rfl (.pickY rfl (decide_eq_true hg_3) rfl) <| .e rfl (.pickN rfl (by simpa using hg_2) rfl) <| .s rfl rfl <| .nil ?_
                        exact ⟨⟨rfl, rfl, rfl, rfl, rfl, rfl, rfl, rfl, rfl, congrArg some (congrArg Value.bool (by simp [hg_2, hg_3])), rfl, rfl, rfl, rfl, rfl, rfl, rfl, trivial⟩, hs_9⟩
                      · refine .no rfl rfl rfl (decide_eq_false hg_3) rfl <| .no rfl rfl rfl (decide_eq_false hg_3) rfl <| .no rfl rfl rfl (decide_eq_false hg_3) rfl <| .no rfl rfl rfl (decide_eq_false hg_3) rfl <| .no rfl rfl rfl (decide_eq_false hg_3) rfl <| .no rfl rfl rfl (decide_eq_false hg_3) rfl <| .no rfl rfl rfl (decide_eq_false hg_3) rfl <| .no rfl rfl rfl (decide_eq_false hg_3) rfl <| .no rfl rfl rfl (decide_eq_false hg_3) rfl <| .no rfl rfl rfl (decide_eq_false hg_3) rfl <| .no rfl rfl rfl (decide_eq_false hg_3) rfl <| .yes rfl rfl rfl (by simpa using hg_2) <| .e rfl (.pickN rfl (decide_eq_false hg_3) rfl) <| .e rfl (.pickN rfl (by simpa using hg_2) rfl) <| .s rfl rfl <| .nil ?_
                        exact ⟨⟨rfl, rfl, rfl, rfl, rfl, rfl, rfl, rfl, rfl, congrArg some (congrArg Value.bool (by simp [hg_2, hg_3])), rfl, rfl, rfl, rfl, rfl, rfl, rfl, trivial⟩, hs_9⟩
                  · rintro L' w_7 ⟨hw_2, hs_10⟩
                    refine .weaken _ hw_2 <| .region <| .e rfl (.addI (b := 1) rfl rfl (by omega)) <| .m rfl rfl <| .nil ?_
                    exact ⟨(j + 1, ((j : Nat) : Int), decide ((al = true) ∨ (((n + 1) ≤ y) ∧ ((c / 2 ^ (y - (n + 1))) = (bvN b at0 (n + 1)))))), ⟨rfl, rfl, rfl, rfl, rfl, rfl, rfl, rfl, rfl, rfl, rfl, rfl, rfl, trivial⟩, ⟨hs_10, by omega, by rw [fndN, hyd, hcd, if_pos hc_6], by rw [alvN, hyd, hcd, ← hal]⟩, (show (l.length - (j + 1)) < (l.length - j) from by omega)⟩
                · refine .skip <| .mid (fun L' w' => Weak [(0, v), (3, (.int .i64 count)), (10, cv_1), (12, r_2), (13, (.int .i64 ((at2 + 1) : Nat))), (14, ov), (15, (.int .u64 ((bvN b at0 (n + 1)) : Nat))), (16, (.int .i64 ((n + 1) : Nat))), (17, (.int .i64 (fd2))), (18, (.bool (decide ((al = true) ∨ (((n + 1) ≤ y) ∧ ((c / 2 ^ (y - (n + 1))) = (bvN b at0 (n + 1)))))))), (19, (.int .i64 j)), (20, (.int .i64 y)), (72, v), (73, (.int .i64 l.length)), (74, (.int .i64 j)), (75, (.bool (decide (j < l.length)))), (89, (.bool (decide ((y = (n + 1)) ∧ (c = (bvN b at0 (n + 1)))))))] L' ∧ Sat w [cL cv_1 56 (encN .u64) (codesN l), cL r_2 4 (encB) (bitsN b bits), cL ov 3 (encN .i64) (out)] w') ?_ ?_
                  · refine .region <| .m rfl rfl <| .m rfl rfl ?_
                    by_cases hg_4 : al = true
                    · refine .no rfl rfl rfl (hg_4) rfl <| .no rfl rfl rfl (hg_4) rfl <| .no rfl rfl rfl (hg_4) rfl <| .no rfl rfl rfl (hg_4) rfl <| .noU rfl rfl rfl rfl <| .noU rfl rfl rfl rfl <| .noU rfl rfl rfl rfl <| .noU rfl rfl rfl rfl <| .noU rfl rfl rfl rfl <| .noU rfl rfl rfl rfl <| .noU rfl rfl rfl rfl <| .noU rfl rfl rfl rfl <| .noU rfl rfl rfl rfl <| .noU rfl rfl rfl rfl <| .noU rfl rfl rfl rfl <| .no rfl rfl rfl (hg_4) rfl <| .e rfl (.pickY rfl (hg_4) rfl) <| .s rfl rfl <| .nil ?_
                      exact ⟨⟨rfl, rfl, rfl, rfl, rfl, rfl, rfl, rfl, rfl, congrArg some (congrArg Value.bool (by simp [hg_4])), rfl, rfl, rfl, rfl, rfl, rfl, rfl, trivial⟩, hs_9⟩
                    · refine .yes rfl rfl rfl (by simpa using hg_4) <| .m rfl rfl <| .yes rfl rfl rfl (by simpa using hg_4) <| .m rfl rfl <| .yes rfl rfl rfl (by simpa using hg_4) <| .e rfl (.geqN rfl rfl) <| .yes rfl rfl rfl (by simpa using hg_4) <| .m rfl rfl ?_
                      by_cases hg_5 : (n + 1) ≤ y
                      · refine .yes rfl rfl rfl (decide_eq_true hg_5) <| .m rfl rfl <| .yes rfl rfl rfl (decide_eq_true hg_5) <| .m rfl rfl <| .yes rfl rfl rfl (decide_eq_true hg_5) <| .e rfl (.idxL (E := encN .u64) sl92 rfl rfl (hs_9.rdL 0 rfl) (hjl)) <| .yes rfl rfl rfl (decide_eq_true hg_5) <| .e rfl (.ldL (E := encN .u64) scal56 rfl (hs_9.rdL 0 rfl) hcc (by decide) rfl) <| .yes rfl rfl rfl (decide_eq_true hg_5) <| .m rfl rfl <| .yes rfl rfl rfl (decide_eq_true hg_5) <| .m rfl rfl <| .yes rfl rfl rfl (decide_eq_true hg_5) <| .e rfl (.subI rfl rfl (by (try simp only [IntKind.bits]); omega) (by omega)) <| .yes rfl rfl rfl (decide_eq_true hg_5) <| .e rfl (.convK (by rw [Tryz.underlying3]; rfl) Tryz.underlying88 rfl (wrap_u rfl (by (try simp only [IntKind.bits]); omega))) <| .yes rfl rfl rfl (decide_eq_true hg_5) <| .e rfl (.shrN rfl rfl (by have h9 := hc64 (by omega); (try simp only [IntKind.bits]); omega)) <| .yes rfl rfl rfl (decide_eq_true hg_5) <| .m rfl rfl <| .yes rfl rfl rfl (decide_eq_true hg_5) <| .e rfl (.eqlN rfl rfl) <| .yes rfl rfl rfl (by simpa using hg_4) <| .e rfl (.pickY rfl (decide_eq_true hg_5) rfl) <| .e rfl (.pickN rfl (by simpa using hg_4) rfl) <| .s rfl rfl <| .nil ?_
                        exact ⟨⟨rfl, rfl, rfl, rfl, rfl, rfl, rfl, rfl, rfl, congrArg some (congrArg Value.bool (by simp [hg_4, hg_5])), rfl, rfl, rfl, rfl, rfl, rfl, rfl, trivial⟩, hs_9⟩
                      · refine .no rfl rfl rfl (decide_eq_false hg_5) rfl <| .no rfl rfl rfl (decide_eq_false hg_5) rfl <| .no rfl rfl rfl (decide_eq_false hg_5) rfl <| .no rfl rfl rfl (decide_eq_false hg_5) rfl <| .no rfl rfl rfl (decide_eq_false hg_5) rfl <| .no rfl rfl rfl (decide_eq_false hg_5) rfl <| .no rfl rfl rfl (decide_eq_false hg_5) rfl <| .no rfl rfl rfl (decide_eq_false hg_5) rfl <| .no rfl rfl rfl (decide_eq_false hg_5) rfl <| .no rfl rfl rfl (decide_eq_false hg_5) rfl <| .no rfl rfl rfl (decide_eq_false hg_5) rfl <| .yes rfl rfl rfl (by simpa using hg_4) <| .e rfl (.pickN rfl (decide_eq_false hg_5) rfl) <| .e rfl (.pickN rfl (by simpa using hg_4) rfl) <| .s rfl rfl <| .nil ?_
                        exact ⟨⟨rfl, rfl, rfl, rfl, rfl, rfl, rfl, rfl, rfl, congrArg some (congrArg Value.bool (by simp [hg_4, hg_5])), rfl, rfl, rfl, rfl, rfl, rfl, rfl, trivial⟩, hs_9⟩
                  · rintro L' w_8 ⟨hw_3, hs_11⟩
                    refine .weaken _ hw_3 <| .region <| .e rfl (.addI (b := 1) rfl rfl (by omega)) <| .m rfl rfl <| .nil ?_
                    exact ⟨(j + 1, fd2, decide ((al = true) ∨ (((n + 1) ≤ y) ∧ ((c / 2 ^ (y - (n + 1))) = (bvN b at0 (n + 1)))))), ⟨rfl, rfl, rfl, rfl, rfl, rfl, rfl, rfl, rfl, rfl, rfl, rfl, rfl, trivial⟩, ⟨hs_11, by omega, by rw [fndN, hyd, hcd, if_neg hc_6]; exact hf2, by rw [alvN, hyd, hcd, ← hal]⟩, (show (l.length - (j + 1)) < (l.length - j) from by omega)⟩
            · refine .exit0 <| .seq <| .region <| .m rfl rfl <| .e rfl (.notB rfl) <| .nil <| .cond rfl (fun hc_7 => ?_) (fun hc_7 => ?_)
              · refine .seq <| .region <| .s rfl rfl <| .s rfl rfl <| .nil <| .ret ?_
                show PostK _ _ _ _ _ _
                refine post2 rfl rfl rfl ?_
                have hs_12 := hs_8.newNilL 3 (encN .i64)
                have hs_13 : Sat w [_] w_5 := hs_12.sub ((.cons _ (.cons _ (.cons _ (.cons_cons _ .slnil)))))
                refine ⟨_, [], _, rfl, hs_13, fun h9 => absurd h9 (by decide), fun s _ hd => False.elim ?_⟩
                obtain ⟨x, hx⟩ := rh_get hd hlt6
                have h1 := (hF s hd x hx).1 hfd0
                have h3 := rh_alive hgl hd hx (hE s hd) h1 (show j = l.length by omega)
                rw [← hal] at h3
                exact absurd h3 (by simpa using hc_7)
              · refine .skip ?_
                have hjl2 : j = l.length := by omega
                have halive : alvN l (codesN l) (n + 1) (bvN b at0 (n + 1)) j = true := by rw [← hal]; simpa using hc_7
                have hn1 : n + 1 ≤ 15 := alv_le (fun i => lenKey_le (validB_le hval) i) j halive
                have hstep : ∀ s, HdOf l b bits count s → ∀ x, s[out.length]? = some x → (fd2 < 0 → n + 1 < lenKey l x) ∧ (0 ≤ fd2 → fd2 = (x : Int) ∧ n + 1 = lenKey l x) := fun s hd x hx => rh_step hgl hd hx (hE s hd) ((hF s hd x hx).1 hfd0) hf2 hjl2
                exact ⟨(n + 1, (bvN b at0 (n + 1)), fd2, at2 + 1), ⟨rfl, rfl, rfl, rfl, rfl, rfl, rfl, rfl, rfl, trivial⟩, ⟨hs_8, by omega, by omega, by omega, rfl, by rcases fnd_cases l (codesN l) (n + 1) (bvN b at0 (n + 1)) j with h | ⟨fx, h1, h2⟩; exact .inl (hf2.trans h); exact .inr ⟨fx, hf2.trans h1, by omega⟩, fun _ => hn1, fun s hd => hstep s hd⟩, (show (if (fd2) < 0 then 17 - (n + 1) else 0) < (if fd < 0 then 17 - n else 0) from by rw [if_pos hfd0]; split <;> omega)⟩
          · refine .skip <| .seq ?_
            have hU : (u * 2) = (bvN b at0 (n + 1)) := by have h1 := rb_lt b at2; have h2 := of_decide_eq_false (hxe.symm.trans hc_4); rw [bvN, ← hu, ← ha, show rb b at2 = 0 by omega]; omega
            refine .weaken [(0, _), (3, _), (10, _), (12, _), (13, _), (14, _), (15, (.int .u64 ((bvN b at0 (n + 1)) : Nat))), (16, _), (17, _), (54, _), (55, _), (56, _), (57, _), (58, _), (59, _), (60, _), (61, _), (62, _), (63, _), (64, _), (65, _)] ⟨rfl, rfl, rfl, rfl, rfl, rfl, congrArg some (congrArg (fun q : Nat => Value.int .u64 (q : Int)) hU), rfl, rfl, rfl, rfl, rfl, rfl, rfl, rfl, rfl, rfl, rfl, rfl, rfl, rfl, trivial⟩ <| .region <| .m rfl rfl <| .e rfl (.addI (b := 1) rfl rfl (by (try simp only [IntKind.bits]); omega)) <| .s rfl rfl <| .nil <| .seq <| .region <| .m rfl rfl <| .e rfl (.addI (b := 1) rfl rfl (by (try simp only [IntKind.bits]); omega)) <| .s rfl rfl <| .nil <| .seq <| .region <| .s rfl rfl <| .nil <| .seq <| .seq <| .weaken [(0, _), (3, _), (10, _), (12, _), (13, _), (14, _), (15, _), (16, _), (17, (.int .i64 ((-1)))), (18, _), (54, _), (55, _), (56, _), (57, _), (58, _), (59, _), (60, _), (61, _), (62, _), (63, _), (64, _), (65, _), (68, _), (69, _), (70, _), (71, _)] ⟨rfl, rfl, rfl, rfl, rfl, rfl, rfl, rfl, congrArg some (congrArg (Value.int .i64) hfe), rfl, rfl, rfl, rfl, rfl, rfl, rfl, rfl, rfl, rfl, rfl, rfl, rfl, rfl, rfl, rfl, rfl, trivial⟩ <| .region <| .m rfl rfl <| .e rfl (.lenL Tryz.underlying27 rfl (hv.ext hs_5.ext)) <| .m rfl rfl <| .nil <| .block <| .loop (α := Nat × Int × Bool) (fun (j, fd2, al) => [(0, v), (3, (.int .i64 count)), (10, cv_1), (12, r_2), (13, (.int .i64 ((at2 + 1) : Nat))), (14, ov), (15, (.int .u64 ((bvN b at0 (n + 1)) : Nat))), (16, (.int .i64 ((n + 1) : Nat))), (17, (.int .i64 (fd2))), (18, (.bool al)), (72, v), (73, (.int .i64 l.length)), (74, (.int .i64 j))]) (fun (j, fd2, al) w' => Sat w [cL cv_1 56 (encN .u64) (codesN l), cL r_2 4 (encB) (bitsN b bits), cL ov 3 (encN .i64) (out)] w' ∧ (j ≤ l.length) ∧ (fd2 = fndN l (codesN l) (n + 1) (bvN b at0 (n + 1)) j) ∧ (al = alvN l (codesN l) (n + 1) (bvN b at0 (n + 1)) j)) (fun (j, fd2, al) => l.length - j) (0, (-1), false) ⟨rfl, rfl, rfl, rfl, rfl, rfl, rfl, rfl, rfl, rfl, rfl, rfl, rfl, trivial⟩ ⟨hs_5, Nat.zero_le _, rfl, rfl⟩ ?_
            rintro ⟨j, fd2, al⟩ w_9 ⟨hs_14, hj, hf2, hal⟩
            show CW _ _ _ _ [(0, v), (3, (.int .i64 count)), (10, cv_1), (12, r_2), (13, (.int .i64 ((at2 + 1) : Nat))), (14, ov), (15, (.int .u64 ((bvN b at0 (n + 1)) : Nat))), (16, (.int .i64 ((n + 1) : Nat))), (17, (.int .i64 (fd2))), (18, (.bool al)), (72, v), (73, (.int .i64 l.length)), (74, (.int .i64 j))] _
            refine .seq <| .region <| .e rfl (.lssN rfl rfl) <| .nil <| .seq <| .condD rfl (fun hc_8 => ?_) (fun hc_8 => ?_)
            · refine .skip <| .seq <| .block <| .seq ?_
              obtain ⟨y, hy⟩ : ∃ y, l[j]? = some y := ⟨_, List.getElem?_eq_getElem hc_8⟩
              obtain ⟨c, hcc⟩ : ∃ c, (codesN l)[j]? = some c := ⟨_, List.getElem?_eq_getElem (by rw [codesN_length]; exact hc_8)⟩
              have hjl : j < (codesN l).length := by rw [codesN_length]; exact hc_8
              have hy15 : y ≤ 15 := validB_le hval y (mem_of_get hy)
              have hyd : l.getD j 0 = y := getD_some hy
              have hcd : (codesN l).getD j 0 = c := getD_some hcc
              have hc64 : 0 < y → c < 2 ^ 15 := fun h9 => by have h8 := (code_of hgl (x := j) (by show 0 < l.getD j 0; omega)).2; have h7 : cdOf l j = c := hcd; have h6 : lenKey l j = y := hyd; rw [h7, h6] at h8; exact Nat.lt_of_lt_of_le h8 (Nat.pow_le_pow_right (by decide) hy15)
              refine .region <| .m rfl rfl <| .e rfl (.idxL (E := encN .i64) sl27 rfl rfl (hv.ext hs_14.ext) (by omega)) <| .e rfl (.ldL (E := encN .i64) scal3 rfl (hv.ext hs_14.ext) hy (by decide) rfl) <| .s rfl rfl <| .s rfl rfl <| .nil <| .seq <| .seq <| .mid (fun L' w' => Weak [(0, v), (3, (.int .i64 count)), (10, cv_1), (12, r_2), (13, (.int .i64 ((at2 + 1) : Nat))), (14, ov), (15, (.int .u64 ((bvN b at0 (n + 1)) : Nat))), (16, (.int .i64 ((n + 1) : Nat))), (17, (.int .i64 (fd2))), (18, (.bool al)), (19, (.int .i64 j)), (20, (.int .i64 y)), (72, v), (73, (.int .i64 l.length)), (74, (.int .i64 j)), (75, (.bool (decide (j < l.length)))), (89, (.bool (decide ((y = (n + 1)) ∧ (c = (bvN b at0 (n + 1)))))))] L' ∧ Sat w [cL cv_1 56 (encN .u64) (codesN l), cL r_2 4 (encB) (bitsN b bits), cL ov 3 (encN .i64) (out)] w') ?_ ?_
              · refine .region <| .m rfl rfl <| .m rfl rfl <| .e rfl (.eqlN rfl rfl) <| .m rfl rfl ?_
                by_cases hg_6 : y = (n + 1)
                · refine .yes rfl rfl rfl (decide_eq_true hg_6) <| .m rfl rfl <| .yes rfl rfl rfl (decide_eq_true hg_6) <| .m rfl rfl <| .yes rfl rfl rfl (decide_eq_true hg_6) <| .e rfl (.idxL (E := encN .u64) sl92 rfl rfl (hs_14.rdL 0 rfl) (hjl)) <| .yes rfl rfl rfl (decide_eq_true hg_6) <| .e rfl (.ldL (E := encN .u64) scal56 rfl (hs_14.rdL 0 rfl) hcc (by decide) rfl) <| .yes rfl rfl rfl (decide_eq_true hg_6) <| .m rfl rfl <| .yes rfl rfl rfl (decide_eq_true hg_6) <| .e rfl (.eqlN rfl rfl) <| .e rfl (.pickY rfl (decide_eq_true hg_6) rfl) <| .nil ?_
                  exact ⟨⟨rfl, rfl, rfl, rfl, rfl, rfl, rfl, rfl, rfl, rfl, rfl, rfl, rfl, rfl, rfl, rfl, congrArg some (congrArg Value.bool (by simp [hg_6])), trivial⟩, hs_14⟩
                · refine .no rfl rfl rfl (decide_eq_false hg_6) rfl <| .no rfl rfl rfl (decide_eq_false hg_6) rfl <| .no rfl rfl rfl (decide_eq_false hg_6) rfl <| .no rfl rfl rfl (decide_eq_false hg_6) rfl <| .no rfl rfl rfl (decide_eq_false hg_6) rfl <| .no rfl rfl rfl (decide_eq_false hg_6) rfl <| .e rfl (.pickN rfl (decide_eq_false hg_6) rfl) <| .nil ?_
                  exact ⟨⟨rfl, rfl, rfl, rfl, rfl, rfl, rfl, rfl, rfl, rfl, rfl, rfl, rfl, rfl, rfl, rfl, congrArg some (congrArg Value.bool (by simp [hg_6])), trivial⟩, hs_14⟩
              · rintro L' w_10 ⟨hw_4, hs_15⟩
                refine .weaken _ hw_4 <| .condD rfl (fun hc_9 => ?_) (fun hc_9 => ?_)
                · refine .region <| .m rfl rfl <| .s rfl rfl <| .nil <| .mid (fun L' w' => Weak [(0, v), (3, (.int .i64 count)), (10, cv_1), (12, r_2), (13, (.int .i64 ((at2 + 1) : Nat))), (14, ov), (15, (.int .u64 ((bvN b at0 (n + 1)) : Nat))), (16, (.int .i64 ((n + 1) : Nat))), (17, (.int .i64 j)), (18, (.bool (decide ((al = true) ∨ (((n + 1) ≤ y) ∧ ((c / 2 ^ (y - (n + 1))) = (bvN b at0 (n + 1)))))))), (19, (.int .i64 j)), (20, (.int .i64 y)), (72, v), (73, (.int .i64 l.length)), (74, (.int .i64 j)), (75, (.bool (decide (j < l.length)))), (89, (.bool (decide ((y = (n + 1)) ∧ (c = (bvN b at0 (n + 1)))))))] L' ∧ Sat w [cL cv_1 56 (encN .u64) (codesN l), cL r_2 4 (encB) (bitsN b bits), cL ov 3 (encN .i64) (out)] w') ?_ ?_
                  · refine .region <| .m rfl rfl <| .m rfl rfl ?_
                    by_cases hg_7 : al = true
                    · refine .no rfl rfl rfl (hg_7) rfl <| .no rfl rfl rfl (hg_7) rfl <| .no rfl rfl rfl (hg_7) rfl <| .no rfl rfl rfl (hg_7) rfl <| .noU rfl rfl rfl rfl <| .noU rfl rfl rfl rfl <| .noU rfl rfl rfl rfl <| .noU rfl rfl rfl rfl <| .noU rfl rfl rfl rfl <| .noU rfl rfl rfl rfl <| .noU rfl rfl rfl rfl <| .noU rfl rfl rfl rfl <| .noU rfl rfl rfl rfl <| .noU rfl rfl rfl rfl <| .noU rfl rfl rfl rfl <| .no rfl rfl rfl (hg_7) rfl <| .e rfl (.pickY rfl (hg_7) rfl) <| .s rfl rfl <| .nil ?_
                      exact ⟨⟨rfl, rfl, rfl, rfl, rfl, rfl, rfl, rfl, rfl, congrArg some (congrArg Value.bool (by simp [hg_7])), rfl, rfl, rfl, rfl, rfl, rfl, rfl, trivial⟩, hs_15⟩
                    · refine .yes rfl rfl rfl (by simpa using hg_7) <| .m rfl rfl <| .yes rfl rfl rfl (by simpa using hg_7) <| .m rfl rfl <| .yes rfl rfl rfl (by simpa using hg_7) <| .e rfl (.geqN rfl rfl) <| .yes rfl rfl rfl (by simpa using hg_7) <| .m rfl rfl ?_
                      by_cases hg_8 : (n + 1) ≤ y
                      · refine .yes rfl rfl rfl (decide_eq_true hg_8) <| .m rfl rfl <| .yes rfl rfl rfl (decide_eq_true hg_8) <| .m rfl rfl <| .yes rfl rfl rfl (decide_eq_true hg_8) <| .e rfl (.idxL (E := encN .u64) sl92 rfl rfl (hs_15.rdL 0 rfl) (hjl)) <| .yes rfl rfl rfl (decide_eq_true hg_8) <| .e rfl (.ldL (E := encN .u64) scal56 rfl (hs_15.rdL 0 rfl) hcc (by decide) rfl) <| .yes rfl rfl rfl (decide_eq_true hg_8) <| .m rfl rfl <| .yes rfl rfl rfl (decide_eq_true hg_8) <| .m rfl rfl <| .yes rfl rfl rfl (decide_eq_true hg_8) <| .e rfl (.subI rfl rfl (by (try simp only [IntKind.bits]); omega) (by omega)) <| .yes rfl rfl rfl (decide_eq_true hg_8) <| .e rfl (.convK (by rw [Tryz.underlying3]; rfl) Tryz.underlying88 rfl (wrap_u rfl (by (try simp only [IntKind.bits]); omega))) <| .yes rfl rfl rfl (decide_eq_true hg_8) <| .e rfl (.shrN rfl rfl (by have h9 := hc64 (by omega); (try simp only [IntKind.bits]); omega)) <| .yes rfl rfl rfl (decide_eq_true hg_8) <| .m rfl rfl <| .yes rfl rfl rfl (decide_eq_true hg_8) <| .e rfl (.eqlN rfl rfl) <| .yes rfl rfl rfl (by simpa using hg_7) <| .e rfl (.pickY rfl (decide_eq_true hg_8) rfl) <| .e rfl (.pickN rfl (by simpa using hg_7) rfl) <| .s rfl rfl <| .nil ?_
                        exact ⟨⟨rfl, rfl, rfl, rfl, rfl, rfl, rfl, rfl, rfl, congrArg some (congrArg Value.bool (by simp [hg_7, hg_8])), rfl, rfl, rfl, rfl, rfl, rfl, rfl, trivial⟩, hs_15⟩
                      · refine .no rfl rfl rfl (decide_eq_false hg_8) rfl <| .no rfl rfl rfl (decide_eq_false hg_8) rfl <| .no rfl rfl rfl (decide_eq_false hg_8) rfl <| .no rfl rfl rfl (decide_eq_false hg_8) rfl <| .no rfl rfl rfl (decide_eq_false hg_8) rfl <| .no rfl rfl rfl (decide_eq_false hg_8) rfl <| .no rfl rfl rfl (decide_eq_false hg_8) rfl <| .no rfl rfl rfl (decide_eq_false hg_8) rfl <| .no rfl rfl rfl (decide_eq_false hg_8) rfl <| .no rfl rfl rfl (decide_eq_false hg_8) rfl <| .no rfl rfl rfl (decide_eq_false hg_8) rfl <| .yes rfl rfl rfl (by simpa using hg_7) <| .e rfl (.pickN rfl (decide_eq_false hg_8) rfl) <| .e rfl (.pickN rfl (by simpa using hg_7) rfl) <| .s rfl rfl <| .nil ?_
                        exact ⟨⟨rfl, rfl, rfl, rfl, rfl, rfl, rfl, rfl, rfl, congrArg some (congrArg Value.bool (by simp [hg_7, hg_8])), rfl, rfl, rfl, rfl, rfl, rfl, rfl, trivial⟩, hs_15⟩
                  · rintro L' w_11 ⟨hw_5, hs_16⟩
                    refine .weaken _ hw_5 <| .region <| .e rfl (.addI (b := 1) rfl rfl (by omega)) <| .m rfl rfl <| .nil ?_
                    exact ⟨(j + 1, ((j : Nat) : Int), decide ((al = true) ∨ (((n + 1) ≤ y) ∧ ((c / 2 ^ (y - (n + 1))) = (bvN b at0 (n + 1)))))), ⟨rfl, rfl, rfl, rfl, rfl, rfl, rfl, rfl, rfl, rfl, rfl, rfl, rfl, trivial⟩, ⟨hs_16, by omega, by rw [fndN, hyd, hcd, if_pos hc_9], by rw [alvN, hyd, hcd, ← hal]⟩, (show (l.length - (j + 1)) < (l.length - j) from by omega)⟩
                · refine .skip <| .mid (fun L' w' => Weak [(0, v), (3, (.int .i64 count)), (10, cv_1), (12, r_2), (13, (.int .i64 ((at2 + 1) : Nat))), (14, ov), (15, (.int .u64 ((bvN b at0 (n + 1)) : Nat))), (16, (.int .i64 ((n + 1) : Nat))), (17, (.int .i64 (fd2))), (18, (.bool (decide ((al = true) ∨ (((n + 1) ≤ y) ∧ ((c / 2 ^ (y - (n + 1))) = (bvN b at0 (n + 1)))))))), (19, (.int .i64 j)), (20, (.int .i64 y)), (72, v), (73, (.int .i64 l.length)), (74, (.int .i64 j)), (75, (.bool (decide (j < l.length)))), (89, (.bool (decide ((y = (n + 1)) ∧ (c = (bvN b at0 (n + 1)))))))] L' ∧ Sat w [cL cv_1 56 (encN .u64) (codesN l), cL r_2 4 (encB) (bitsN b bits), cL ov 3 (encN .i64) (out)] w') ?_ ?_
                  · refine .region <| .m rfl rfl <| .m rfl rfl ?_
                    by_cases hg_9 : al = true
                    · refine .no rfl rfl rfl (hg_9) rfl <| .no rfl rfl rfl (hg_9) rfl <| .no rfl rfl rfl (hg_9) rfl <| .no rfl rfl rfl (hg_9) rfl <| .noU rfl rfl rfl rfl <| .noU rfl rfl rfl rfl <| .noU rfl rfl rfl rfl <| .noU rfl rfl rfl rfl <| .noU rfl rfl rfl rfl <| .noU rfl rfl rfl rfl <| .noU rfl rfl rfl rfl <| .noU rfl rfl rfl rfl <| .noU rfl rfl rfl rfl <| .noU rfl rfl rfl rfl <| .noU rfl rfl rfl rfl <| .no rfl rfl rfl (hg_9) rfl <| .e rfl (.pickY rfl (hg_9) rfl) <| .s rfl rfl <| .nil ?_
                      exact ⟨⟨rfl, rfl, rfl, rfl, rfl, rfl, rfl, rfl, rfl, congrArg some (congrArg Value.bool (by simp [hg_9])), rfl, rfl, rfl, rfl, rfl, rfl, rfl, trivial⟩, hs_15⟩
                    · refine .yes rfl rfl rfl (by simpa using hg_9) <| .m rfl rfl <| .yes rfl rfl rfl (by simpa using hg_9) <| .m rfl rfl <| .yes rfl rfl rfl (by simpa using hg_9) <| .e rfl (.geqN rfl rfl) <| .yes rfl rfl rfl (by simpa using hg_9) <| .m rfl rfl ?_
                      by_cases hg_10 : (n + 1) ≤ y
                      · refine .yes rfl rfl rfl (decide_eq_true hg_10) <| .m rfl rfl <| .yes rfl rfl rfl (decide_eq_true hg_10) <| .m rfl rfl <| .yes rfl rfl rfl (decide_eq_true hg_10) <| .e rfl (.idxL (E := encN .u64) sl92 rfl rfl (hs_15.rdL 0 rfl) (hjl)) <| .yes rfl rfl rfl (decide_eq_true hg_10) <| .e rfl (.ldL (E := encN .u64) scal56 rfl (hs_15.rdL 0 rfl) hcc (by decide) rfl) <| .yes rfl rfl rfl (decide_eq_true hg_10) <| .m rfl rfl <| .yes rfl rfl rfl (decide_eq_true hg_10) <| .m rfl rfl <| .yes rfl rfl rfl (decide_eq_true hg_10) <| .e rfl (.subI rfl rfl (by (try simp only [IntKind.bits]); omega) (by omega)) <| .yes rfl rfl rfl (decide_eq_true hg_10) <| .e rfl (.convK (by rw [Tryz.underlying3]; rfl) Tryz.underlying88 rfl (wrap_u rfl (by (try simp only [IntKind.bits]); omega))) <| .yes rfl rfl rfl (decide_eq_true hg_10) <| .e rfl (.shrN rfl rfl (by have h9 := hc64 (by omega); (try simp only [IntKind.bits]); omega)) <| .yes rfl rfl rfl (decide_eq_true hg_10) <| .m rfl rfl <| .yes rfl rfl rfl (decide_eq_true hg_10) <| .e rfl (.eqlN rfl rfl) <| .yes rfl rfl rfl (by simpa using hg_9) <| .e rfl (.pickY rfl (decide_eq_true hg_10) rfl) <| .e rfl (.pickN rfl (by simpa using hg_9) rfl) <| .s rfl rfl <| .nil ?_
                        exact ⟨⟨rfl, rfl, rfl, rfl, rfl, rfl, rfl, rfl, rfl, congrArg some (congrArg Value.bool (by simp [hg_10, hg_9])), rfl, rfl, rfl, rfl, rfl, rfl, rfl, trivial⟩, hs_15⟩
                      · refine .no rfl rfl rfl (decide_eq_false hg_10) rfl <| .no rfl rfl rfl (decide_eq_false hg_10) rfl <| .no rfl rfl rfl (decide_eq_false hg_10) rfl <| .no rfl rfl rfl (decide_eq_false hg_10) rfl <| .no rfl rfl rfl (decide_eq_false hg_10) rfl <| .no rfl rfl rfl (decide_eq_false hg_10) rfl <| .no rfl rfl rfl (decide_eq_false hg_10) rfl <| .no rfl rfl rfl (decide_eq_false hg_10) rfl <| .no rfl rfl rfl (decide_eq_false hg_10) rfl <| .no rfl rfl rfl (decide_eq_false hg_10) rfl <| .no rfl rfl rfl (decide_eq_false hg_10) rfl <| .yes rfl rfl rfl (by simpa using hg_9) <| .e rfl (.pickN rfl (decide_eq_false hg_10) rfl) <| .e rfl (.pickN rfl (by simpa using hg_9) rfl) <| .s rfl rfl <| .nil ?_
                        exact ⟨⟨rfl, rfl, rfl, rfl, rfl, rfl, rfl, rfl, rfl, congrArg some (congrArg Value.bool (by simp [hg_10, hg_9])), rfl, rfl, rfl, rfl, rfl, rfl, rfl, trivial⟩, hs_15⟩
                  · rintro L' w_12 ⟨hw_6, hs_17⟩
                    refine .weaken _ hw_6 <| .region <| .e rfl (.addI (b := 1) rfl rfl (by omega)) <| .m rfl rfl <| .nil ?_
                    exact ⟨(j + 1, fd2, decide ((al = true) ∨ (((n + 1) ≤ y) ∧ ((c / 2 ^ (y - (n + 1))) = (bvN b at0 (n + 1)))))), ⟨rfl, rfl, rfl, rfl, rfl, rfl, rfl, rfl, rfl, rfl, rfl, rfl, rfl, trivial⟩, ⟨hs_17, by omega, by rw [fndN, hyd, hcd, if_neg hc_9]; exact hf2, by rw [alvN, hyd, hcd, ← hal]⟩, (show (l.length - (j + 1)) < (l.length - j) from by omega)⟩
            · refine .exit0 <| .seq <| .region <| .m rfl rfl <| .e rfl (.notB rfl) <| .nil <| .cond rfl (fun hc_10 => ?_) (fun hc_10 => ?_)
              · refine .seq <| .region <| .s rfl rfl <| .s rfl rfl <| .nil <| .ret ?_
                show PostK _ _ _ _ _ _
                refine post2 rfl rfl rfl ?_
                have hs_18 := hs_14.newNilL 3 (encN .i64)
                have hs_19 : Sat w [_] w_9 := hs_18.sub ((.cons _ (.cons _ (.cons _ (.cons_cons _ .slnil)))))
                refine ⟨_, [], _, rfl, hs_19, fun h9 => absurd h9 (by decide), fun s _ hd => False.elim ?_⟩
                obtain ⟨x, hx⟩ := rh_get hd hlt6
                have h1 := (hF s hd x hx).1 hfd0
                have h3 := rh_alive hgl hd hx (hE s hd) h1 (show j = l.length by omega)
                rw [← hal] at h3
                exact absurd h3 (by simpa using hc_10)
              · refine .skip ?_
                have hjl2 : j = l.length := by omega
                have halive : alvN l (codesN l) (n + 1) (bvN b at0 (n + 1)) j = true := by rw [← hal]; simpa using hc_10
                have hn1 : n + 1 ≤ 15 := alv_le (fun i => lenKey_le (validB_le hval) i) j halive
                have hstep : ∀ s, HdOf l b bits count s → ∀ x, s[out.length]? = some x → (fd2 < 0 → n + 1 < lenKey l x) ∧ (0 ≤ fd2 → fd2 = (x : Int) ∧ n + 1 = lenKey l x) := fun s hd x hx => rh_step hgl hd hx (hE s hd) ((hF s hd x hx).1 hfd0) hf2 hjl2
                exact ⟨(n + 1, (bvN b at0 (n + 1)), fd2, at2 + 1), ⟨rfl, rfl, rfl, rfl, rfl, rfl, rfl, rfl, rfl, trivial⟩, ⟨hs_14, by omega, by omega, by omega, rfl, by rcases fnd_cases l (codesN l) (n + 1) (bvN b at0 (n + 1)) j with h | ⟨fx, h1, h2⟩; exact .inl (hf2.trans h); exact .inr ⟨fx, hf2.trans h1, by omega⟩, fun _ => hn1, fun s hd => hstep s hd⟩, (show (if (fd2) < 0 then 17 - (n + 1) else 0) < (if fd < 0 then 17 - n else 0) from by rw [if_pos hfd0]; split <;> omega)⟩
      · refine .exit0 ?_
        have hfd1 : 0 ≤ fd := by omega
        obtain ⟨fx, hfx, hfl⟩ : ∃ fx : Nat, fd = (fx : Int) ∧ fx < l.length := by rcases hfd with h | ⟨fx, h1, h2⟩; omega; exact ⟨fx, h1, h2⟩
        refine .weaken [(0, _), (3, _), (10, _), (12, _), (13, _), (14, _), (15, _), (16, _), (17, (.int .i64 fx)), (54, _), (55, _)] ⟨rfl, rfl, rfl, rfl, rfl, rfl, rfl, rfl, congrArg some (congrArg (Value.int .i64) hfx), rfl, rfl, trivial⟩ ?_
        have hnx : ∀ s, HdOf l b bits count s → out ++ [fx] = s.take (out ++ [fx]).length ∧ at2 = (hufB l (out ++ [fx])).length := fun s hd => rh_next hd (hE s hd) (fun x hx => (hF s hd x hx).2 hfd1) hlt6 hfx ha
        refine .region <| .m rfl rfl <| .m rfl rfl <| .f rfl (.lit1 (encN .i64) fx sl27 rfl hs_5 rfl fun v_1 w_13 hs_20 hch_1 => ?_)
        refine .f rfl (.appendL 2 sl27 hs_20 rfl rfl rfl Tryz.underlying27 (hs_20.rdL 3 rfl) (by simp; omega) (by simp; omega) fun v_2 w_14 hs_21 hch_2 => ?_)
        have hs_21d : Sat w [_, _, cL v_2 3 (encN .i64) (out ++ [fx])] _ := hs_21.drop 3
        refine .s rfl rfl <| .nil ?_
        exact ⟨(at2, v_2, out ++ [fx]), ⟨rfl, rfl, rfl, rfl, rfl, rfl, trivial⟩, ⟨hs_21d, by omega, by rw [List.length_append, List.length_singleton]; omega, hnx⟩, (show (count - (out ++ [fx]).length) < (count - out.length) from by rw [List.length_append, List.length_singleton]; omega)⟩
    · refine .exit0 <| .seq <| .seq <| .region <| .m rfl rfl <| .m rfl rfl <| .e rfl (.lenL Tryz.underlying90 rfl (hs_4.rdL 1 rfl)) <| .e rfl (.lssN rfl rfl) <| .nil <| .condD rfl (fun hc_11 => ?_) (fun hc_11 => ?_)
      · refine .seq <| .region <| .s rfl rfl <| .s rfl rfl <| .nil <| .ret ?_
        show PostK _ _ _ _ _ _
        refine post2 rfl rfl rfl ?_
        have hs_22 := hs_4.newNilL 3 (encN .i64)
        have hs_23 : Sat w [_] w_3 := hs_22.sub ((.cons _ (.cons _ (.cons _ (.cons_cons _ .slnil)))))
        refine ⟨_, [], _, rfl, hs_23, fun h9 => absurd h9 (by decide), fun s _ hd => False.elim ?_⟩
        have h2 := (rh_end hd (hE s hd) (by omega)).2
        have h9 := hc_11
        rw [bitsN_length] at h9
        omega
      · refine .skip <| .seq <| .region <| .m rfl rfl <| .s rfl rfl <| .s rfl rfl <| .nil <| .ret ?_
        show PostK _ _ _ _ _ _
        refine post2 rfl rfl rfl ?_
        have hs_24 : Sat w [cL ov 3 (encN .i64) (out)] w_3 := hs_4.sub ((.cons _ (.cons _ (.cons_cons _ .slnil))))
        exact ⟨_, out, _, rfl, hs_24, fun _ => by omega, fun s _ hd => ⟨rfl, (rh_end hd (hE s hd) (by omega)).1⟩⟩
  · refine .region <| .m rfl rfl <| .f rfl (.call ent52 rfl ((rcodes_bad _ (l) _ (hv.ext hs0.ext) hn hval).mono fun r_3 w_15 h_3 => ?_))
    obtain ⟨rfl, hp_3⟩ := h_3
    have hs_25 := hs0.adds hp_3
    refine .m rfl rfl <| .e rfl (.extract rfl rfl) <| .e rfl (.extract rfl rfl) <| .s rfl rfl <| .s rfl rfl <| .nil <| .seq <| .seq <| .region <| .m rfl rfl <| .e rfl (.neqN (a := 1) (b := 0) rfl rfl) <| .m rfl rfl <| .no rfl rfl rfl (rfl) rfl <| .no rfl rfl rfl (rfl) rfl <| .e rfl (.pickY rfl (rfl) rfl) <| .m rfl rfl <| .no rfl rfl rfl (rfl) rfl <| .no rfl rfl rfl (rfl) rfl <| .no rfl rfl rfl (rfl) rfl <| .no rfl rfl rfl (rfl) rfl <| .no rfl rfl rfl (rfl) rfl <| .e rfl (.pickY rfl (rfl) rfl) <| .m rfl rfl <| .no rfl rfl rfl (rfl) rfl <| .no rfl rfl rfl (rfl) rfl <| .e rfl (.pickY rfl (rfl) rfl) <| .m rfl rfl <| .no rfl rfl rfl (rfl) rfl <| .no rfl rfl rfl (rfl) rfl <| .e rfl (.pickY rfl (rfl) rfl) <| .nil <| .condT rfl (rfl) <| .seq <| .region <| .s rfl rfl <| .s rfl rfl <| .nil <| .ret ?_
    show PostK _ _ _ _ _ _
    refine post2 rfl rfl rfl ?_
    have hs_26 := hs_25.newNilL 3 (encN .i64)
    have hs_27 : Sat w [_] w_15 := hs_26.sub ((.cons_cons _ .slnil))
    exact ⟨_, [], _, rfl, hs_27, fun h9 => absurd h9 (by decide), fun s h9 hd => by rw [hval] at h9; cases h9⟩
end Go.Proofs.YtecfgjdpghddgaaGreat
