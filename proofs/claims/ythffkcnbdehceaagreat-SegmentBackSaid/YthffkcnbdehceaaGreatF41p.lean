/-The walks of the functions of F41p,printed by our own program (kwgen.py) out of our descriptions (base.py). -/
import Derived.Test.YthffkcnbdehceaaGreatF41o
open List
open Go.Proofs.Tryz
set_option linter.unusedVariables false
set_option linter.unusedSimpArgs false
set_option linter.unusedSectionVars false
namespace Go.Proofs.YthffkcnbdehceaaGreat
open Go.RowKit Go.Kw
set_option maxRecDepth 100000
theorem yv (sv:SV) (l:List (ByteArray×Bool)) (w:World) (hv:RdL w sv.val (bU) l) (hn:l.length<=1000000):
  CallsV prog 49 [sv.val] w λ r w'=>∃ (s:SV) (F:List Nat),r=s.val/\Sat w [fa F (λ w1=>RdL w1 s.val (bU) l)] w':=by
 refine cc func49 rfl λ hs0=> .Z rfl<| .seq<| .h<| .a 1 rfl (.uy underlying23 rfl rfl)<| .nil<| .cond rfl (λ c1=> ?_) (λ c1=> ?_)
 ·refine .Z rfl<| .aC rfl rfl ?_
  exact ⟨⟨none,0,0⟩,[],rfl,hs0.fO (λ w1=>by rw [sZ hv (by decide) c1];exact RdL.nil _ _)⟩
 refine .skip<| .h<| .f rfl (.l7 (bU) BL hs0 λ v1 _ s1 _=> ?_)
 refine .ap 1 s1 0 (hv.ext s1.ext) rfl λ v2 _ s2 _=> .Z rfl<| .aC rfl rfl ?_
 obtain ⟨sv1,hsv1,hsv1n⟩:=(s2.ah 0 rfl).sv
 subst hsv1
 obtain ⟨F,hF⟩:=s2.ik 1 (Q:=λ w1=>RdL w1 sv1.val (bU) l) (λ w1 hA=>hA.ah 0 rfl)
 exact ⟨_,F,rfl,hF⟩
theorem sJ (sv:SV) (l:List (Nd)) (w:World) (hv:RdL w sv.val (br) l) (hn:l.length<=1000000):
  CallsV prog 50 [sv.val] w λ r w'=>∃ (s:SV) (F:List Nat),r=s.val/\Sat w [fa F (λ w1=>RdL w1 s.val (br) l)] w':=by
 refine cc func50 rfl λ hs0=> .Z rfl<| .seq<| .h<| .a 1 rfl (.uy underlying27 rfl rfl)<| .nil<| .cond rfl (λ c1=> ?_) (λ c1=> ?_)
 ·refine .Z rfl<| .aC rfl rfl ?_
  exact ⟨⟨none,0,0⟩,[],rfl,hs0.fO (λ w1=>by rw [sZ hv (by decide) c1];exact RdL.nil _ _)⟩
 refine .skip<| .h<| .f rfl (.l7 (br) gM hs0 λ v1 _ s1 _=> ?_)
 refine .ap 1 s1 0 (hv.ext s1.ext) rfl λ v2 _ s2 _=> .Z rfl<| .aC rfl rfl ?_
 obtain ⟨sv1,hsv1,hsv1n⟩:=(s2.ah 0 rfl).sv
 subst hsv1
 obtain ⟨F,hF⟩:=s2.ik 1 (Q:=λ w1=>RdL w1 sv1.val (br) l) (λ w1 hA=>hA.ah 0 rfl)
 exact ⟨_,F,rfl,hF⟩
theorem Fy (sv:SV) (l:List (Pr)) (w:World) (hv:RdL w sv.val (aQ) l) (hn:l.length<=1000000):
  CallsV prog 105 [sv.val] w λ r w'=>∃ (s:SV) (F:List Nat),r=s.val/\Sat w [fa F (λ w1=>RdL w1 s.val (aQ) l)] w':=by
 refine cc func105 rfl λ hs0=> .Z rfl<| .seq<| .h<| .a 1 rfl (.uy underlying69 rfl rfl)<| .nil<| .cond rfl (λ c1=> ?_) (λ c1=> ?_)
 ·refine .Z rfl<| .aC rfl rfl ?_
  exact ⟨⟨none,0,0⟩,[],rfl,hs0.fO (λ w1=>by rw [sZ hv (by decide) c1];exact RdL.nil _ _)⟩
 refine .skip<| .h<| .f rfl (.l7 (aQ) BN hs0 λ v1 _ s1 _=> ?_)
 refine .ap 1 s1 0 (hv.ext s1.ext) rfl λ v2 _ s2 _=> .Z rfl<| .aC rfl rfl ?_
 obtain ⟨sv1,hsv1,hsv1n⟩:=(s2.ah 0 rfl).sv
 subst hsv1
 obtain ⟨F,hF⟩:=s2.ik 1 (Q:=λ w1=>RdL w1 sv1.val (aQ) l) (λ w1 hA=>hA.ah 0 rfl)
 exact ⟨_,F,rfl,hF⟩
theorem ry (sv:SV) (l:List (Int)) (w:World) (hv:RdL w sv.val (Kw.encI .i64) l) (hn:l.length<=1000000):
  CallsV prog 51 [sv.val] w λ r w'=>∃ (s:SV) (F:List Nat),r=s.val/\Sat w [fa F (λ w1=>RdL w1 s.val (Kw.encI .i64) l)] w':=by
 refine cc func51 rfl λ hs0=> .Z rfl<| .seq<| .h<| .a 1 rfl (.uy underlying22 rfl rfl)<| .nil<| .cond rfl (λ c1=> ?_) (λ c1=> ?_)
 ·refine .Z rfl<| .aC rfl rfl ?_
  exact ⟨⟨none,0,0⟩,[],rfl,hs0.fO (λ w1=>by rw [sZ hv (by decide) c1];exact RdL.nil _ _)⟩
 refine .skip<| .h<| .f rfl (.l7 (Kw.encI .i64) bj hs0 λ v1 _ s1 _=> ?_)
 refine .ap 1 s1 0 (hv.ext s1.ext) rfl λ v2 _ s2 _=> .Z rfl<| .aC rfl rfl ?_
 obtain ⟨sv1,hsv1,hsv1n⟩:=(s2.ah 0 rfl).sv
 subst hsv1
 obtain ⟨F,hF⟩:=s2.ik 1 (Q:=λ w1=>RdL w1 sv1.val (Kw.encI .i64) l) (λ w1 hA=>hA.ah 0 rfl)
 exact ⟨_,F,rfl,hF⟩
theorem kD (sv:SV) (l:List (ByteArray)) (w:World) (hv:RdL w sv.val (aB) l) (hn:l.length<=1000000):
  CallsV prog 52 [sv.val] w λ r w'=>∃ (s:SV) (F:List Nat),r=s.val/\Sat w [fa F (λ w1=>RdL w1 s.val (aB) l)] w':=by
 refine cc func52 rfl λ hs0=> .Z rfl<| .seq<| .h<| .a 1 rfl (.uy underlying28 rfl rfl)<| .nil<| .cond rfl (λ c1=> ?_) (λ c1=> ?_)
 ·refine .Z rfl<| .aC rfl rfl ?_
  exact ⟨⟨none,0,0⟩,[],rfl,hs0.fO (λ w1=>by rw [sZ hv (by decide) c1];exact RdL.nil _ _)⟩
 refine .skip<| .h<| .f rfl (.l7 (aB) cE hs0 λ v1 _ s1 _=> ?_)
 refine .ap 1 s1 0 (hv.ext s1.ext) rfl λ v2 _ s2 _=> .Z rfl<| .aC rfl rfl ?_
 obtain ⟨sv1,hsv1,hsv1n⟩:=(s2.ah 0 rfl).sv
 subst hsv1
 obtain ⟨F,hF⟩:=s2.ik 1 (Q:=λ w1=>RdL w1 sv1.val (aB) l) (λ w1 hA=>hA.ah 0 rfl)
 exact ⟨_,F,rfl,hF⟩
theorem Fz (sv:SV) (l:List Pr) (w:World) (hv:RdL w sv.val aQ l) (hn:l.length<=1000000):
  CallsV prog 53 [sv.val] w λ r w'=>∃ (s:SV) (F:List Nat),r=s.val/\Sat w [fa F (λ w1=>RdL w1 s.val aQ l)] w':=by
 refine cc func53 rfl λ hs0=> .Z rfl<| .h<| .c 1 ((kX (hv.ext hs0.ext) λ q h=>Fy q _ _ h (by omega))) rfl λ r1 _ h1=> ?_
 obtain ⟨cs1,cF1,rfl,p1⟩:=h1
 have s1:=hs0.aD p1
 refine .Z rfl<| .aC rfl rfl ?_
 exact ⟨cs1,cF1,rfl,s1⟩
set_option maxHeartbeats 1000000 in
theorem yw (c:Co) (n g:Nat) (w:World) (hg:∀ (j:Nat) u,[c.va,c.vt,c.vx,c.vr,c.vn,c.vh,c.vl][j]? =some u->w.cell? ⟨g,j,none⟩=some u) (hr:RdC w c) (ho:OkC n c) (hn:n<=3):
  CallsV prog 19 [(.pointer (some ⟨g,0,none⟩))] w λ r w'=>∃ (x:Co) (F:List Nat),r=x.val/\c.v=x.v/\Sat w [fa F (λ w1=>RdC w1 x)] w':=by
 have htk:=ho.ntk
 have htx:=ho.ntx
 have hrg:=ho.nrg
 have hnd:=ho.nnd
 have hat:=ho.at_.2
 obtain ⟨hhe,hhl⟩:=ho.I5 hn
 have hs0:=Sat.start w
 refine ae func19 rfl rfl ?_
 refine .h<| .al 0 hs0 rfl λ b1 _ s1 _ _=> .nil<| .h<| .a 3 rfl (.P5 da rfl (λ j u h=>s1.ext _ _ (hg j u h)) rfl)<| .al 0 s1 rfl λ b2 _ s2 _ _=> .sa 0 s2 1 (vs:=[c.va,c.vt,c.vx,c.vr,c.vn,c.vh,c.vl]) rfl (oc ⟨(hr.a.ext s2.ext).a7,(hr.t.ext s2.ext).a7,(hr.x.ext s2.ext).a7,(hr.r.ext s2.ext).a7,(hr.n.ext s2.ext).a7,(hr.h.ext s2.ext).a7,(hr.l.ext s2.ext).a7,trivial⟩) λ _ s3 _=> ?_
 have s3:=s3.nn
 refine .nil<| .seq<| .dm (λ L' w'=>∃ (sA:SV) (FA:List Nat) (sN:SV) (FN:List Nat) (sH:SV) (FH:List Nat) (sL:SV) (FL:List Nat) (b4:Nat),Weak [(2,(.pointer (some ⟨b1,0,none⟩))),(3,(.pointer (some ⟨b2,0,none⟩))),(4,(.pointer (some ⟨b4,0,none⟩)))] L'/\Sat w [aj b1 30 [(.slice none 0 0),(.slice none 0 0),(.slice none 0 0),(.slice none 0 0),(.slice none 0 0),(.slice none 0 0),(.slice none 0 0)],aj b2 30 [c.va,c.vt,c.vx,c.vr,c.vn,c.vh,c.vl],fa FA (λ w1=>RdL w1 sA.val (bU) (c.at_)),fa FN (λ w1=>RdL w1 sN.val (br) (c.nd)),fa FH (λ w1=>RdL w1 sH.val (Kw.encI .i64) (c.hd)),fa FL (λ w1=>RdL w1 sL.val (aB) (c.rl)),aj b4 30 [sA.val,(.slice none 0 0),(.slice none 0 0),(.slice none 0 0),sN.val,sH.val,sL.val]] w') ?_ ?_
 ·refine .dk [0,1] s3 rfl (pl [0,1,3,4,6,7,9,10] (.two 2 13 (.two 5 13 (.two 8 13 (.two 11 13 (pl [12,1013,1014] .fin) (pl [1011,12,1014] .fin)) (pl [1008,1011,12,1014] .fin)) (pl [1005,1008,1011,12,1014] .fin)) (pl [1002,1005,1008,1011,12,1014] .fin))) λ s4 S1=> .ld 1 S1 1 rfl<| .ld 1 S1 1 rfl<| .ld 1 S1 1 rfl<| .ld 1 S1 1 rfl<| .vg rfl rfl rfl rfl rfl rfl (OpE.call LD rfl (((kX (hr.a.ext s4.ext) λ q h=>yv q _ _ h (by omega))).mono λ r1 _ h_1=> ?_)) (OpE.alloc s4 pQ λ b3 _ s5 _ _=> ?_)
  ·obtain ⟨cs1,cF1,rfl,p1⟩:=h_1
   have s6:=s4.aD p1
   have S2:=s6.pk [0,1,2]
   refine gQ [0,1] S2 ?_
   refine .vg rfl rfl rfl rfl rfl rfl (OpE.call HU rfl (((kX (hr.n.ext s6.ext) λ q h=>sJ q _ _ h (by omega))).mono λ r2 _ h_2=> ?_)) (OpE.alloc s6 pQ λ b_4 _ s7 _ _=> ?_)
   ·obtain ⟨cs2,cF2,rfl,p2⟩:=h_2
    have s8:=s6.aD p2
    have S3:=s8.pk [0,1,2,3]
    refine gQ [0,1,2] S3 ?_
    refine .vg rfl rfl rfl rfl rfl rfl (OpE.call D6 rfl (((kX (hr.h.ext s8.ext) λ q h=>ry q _ _ h (by omega))).mono λ r3 _ h3=> ?_)) (OpE.alloc s8 pQ λ b5 _ s9 _ _=> ?_)
    ·obtain ⟨cs3,cF3,rfl,p3⟩:=h3
     have s10:=(s8.aD p3).nn
     have S4:=s10.pk [0,1,2,3,4]
     refine gQ [0,1,2,3] S4 ?_
     refine .vg rfl rfl rfl rfl rfl rfl (OpE.call Ac rfl (((kX (hr.l.ext s10.ext) λ q h=>kD q _ _ h (by omega))).mono λ r4 _ h4=> ?_)) (OpE.alloc s10 pQ λ b6 _ s11 _ _=> ?_)
     ·obtain ⟨cs4,cF4,rfl,p4⟩:=h4
      have s12:=s10.aD p4
      have S5:=s12.pk [0,1,2,3,4,5]
      refine gQ [0,1,2,3,4] S5 ?_
      refine .e rfl (λ _ s=> .build rh rfl ⟨(s.aO 2 rfl).a7,(s.aO 3 rfl).a7,(s.aO 4 rfl).a7,(s.aO 5 rfl).a7,trivial⟩ rfl) S5<| .f rfl (.alloc s12 pQ λ b7 _ s13 _ _=> ?_)
      have S6:=s13.pk [0,1,2,3,4,5]
      refine ⟨S6,?_⟩
      refine .f rfl (.bO (vs:=[cs1.val,(.slice none 0 0),(.slice none 0 0),(.slice none 0 0),cs2.val,cs3.val,cs4.val]) da s13 (i:=6) rfl rfl rfl rfl (oc ⟨(s13.aO 2 rfl).a7,rfl,rfl,rfl,(s13.aO 3 rfl).a7,(s13.aO 4 rfl).a7,(s13.aO 5 rfl).a7,trivial⟩) λ _ s14 _=> ?_)
      have s14:=s14.nn
      have S7:=s14.pk [0,1,2,3,4,5]
      refine ⟨S7,?_⟩
      refine .fin ?_
      exact ⟨cs1,cF1,cs2,cF2,cs3,cF3,cs4,cF4,b7,(wk rfl),s14.pk [0,1,2,3,4,5,6]⟩
     have S8:=s11.pk [0,1,2,3,4]
     refine la S8 ?_
     refine .mA rfl rfl rfl (OpE.call Ac rfl (((kX (hr.l.ext s11.ext) λ q h=>kD q _ _ h (by omega))).mono λ r5 _ h5=> ?_))
     obtain ⟨cs5,cF5,rfl,p5⟩:=h5
     have s16:=s11.aD p5
     have S9:=s16.pk [0,1,2,3,4,6]
     refine gQ [0,1,2,3,4] S9 ?_
     refine .e rfl (λ _ s=> .build rh rfl ⟨(s.aO 2 rfl).a7,(s.aO 3 rfl).a7,(s.aO 4 rfl).a7,(s.aO 5 rfl).a7,trivial⟩ rfl) S9<| .f rfl (.bO (vs:=[cs1.val,(.slice none 0 0),(.slice none 0 0),(.slice none 0 0),cs2.val,cs3.val,cs5.val]) da s16 (i:=5) rfl rfl rfl rfl (oc ⟨(s16.aO 2 rfl).a7,rfl,rfl,rfl,(s16.aO 3 rfl).a7,(s16.aO 4 rfl).a7,(s16.aO 6 rfl).a7,trivial⟩) λ _ s17 _=> ?_)
     have s17:=s17.nn
     have S10:=s17.pk [0,1,2,3,4,6]
     refine ⟨S10,?_⟩
     refine .fin ?_
     have s18:=(Sat.order [0,1,2,3,4,6,5] (by decide) s17.tail).aF.pk [0,1,2,3,4,5,6]
     exact ⟨cs1,cF1,cs2,cF2,cs3,cF3,cs5,cF5,b6,(wk rfl),s18⟩
    have s9:=s9.nn
    have S11:=s9.pk [0,1,2,3]
    refine la S11 ?_
    refine .mA rfl rfl rfl (OpE.call D6 rfl (((kX (hr.h.ext s9.ext) λ q h=>ry q _ _ h (by omega))).mono λ r6 _ h6=> ?_))
    obtain ⟨cs6,cF6,rfl,p6⟩:=h6
    have s19:=s9.aD p6
    have S12:=s19.pk [0,1,2,3,5]
    refine gQ [0,1,2,3] S12 ?_
    refine .mA rfl rfl rfl (OpE.call Ac rfl (((kX (hr.l.ext s19.ext) λ q h=>kD q _ _ h (by omega))).mono λ r7 _ h7=> ?_))
    obtain ⟨cs7,cF7,rfl,p7⟩:=h7
    have s20:=s19.aD p7
    have S13:=s20.pk [0,1,2,3,5,6]
    refine gQ [0,1,2,3,4] S13 ?_
    refine .e rfl (λ _ s=> .build rh rfl ⟨(s.aO 2 rfl).a7,(s.aO 3 rfl).a7,(s.aO 4 rfl).a7,(s.aO 5 rfl).a7,trivial⟩ rfl) S13<| .f rfl (.bO (vs:=[cs1.val,(.slice none 0 0),(.slice none 0 0),(.slice none 0 0),cs2.val,cs6.val,cs7.val]) da s20 (i:=4) rfl rfl rfl rfl (oc ⟨(s20.aO 2 rfl).a7,rfl,rfl,rfl,(s20.aO 3 rfl).a7,(s20.aO 5 rfl).a7,(s20.aO 6 rfl).a7,trivial⟩) λ _ s21 _=> ?_)
    have s21:=s21.nn
    have S14:=s21.pk [0,1,2,3,5,6]
    refine ⟨S14,?_⟩
    refine .fin ?_
    have s22:=(Sat.order [0,1,2,3,5,6,4] (by decide) s21.tail).aF.pk [0,1,2,3,4,5,6]
    exact ⟨cs1,cF1,cs2,cF2,cs6,cF6,cs7,cF7,b5,(wk rfl),s22⟩
   have S15:=s7.pk [0,1,2]
   refine la S15 ?_
   refine .mA rfl rfl rfl (OpE.call HU rfl (((kX (hr.n.ext s7.ext) λ q h=>sJ q _ _ h (by omega))).mono λ r8 _ h8=> ?_))
   obtain ⟨cs8,cF8,rfl,p8⟩:=h8
   have s23:=(s7.aD p8).nn
   have S16:=s23.pk [0,1,2,4]
   refine gQ [0,1,2] S16 ?_
   refine .mA rfl rfl rfl (OpE.call D6 rfl (((kX (hr.h.ext s23.ext) λ q h=>ry q _ _ h (by omega))).mono λ r9 _ h9=> ?_))
   obtain ⟨cs9,cF9,rfl,p9⟩:=h9
   have s24:=s23.aD p9
   have S17:=s24.pk [0,1,2,4,5]
   refine gQ [0,1,2,3] S17 ?_
   refine .mA rfl rfl rfl (OpE.call Ac rfl (((kX (hr.l.ext s24.ext) λ q h=>kD q _ _ h (by omega))).mono λ r10 _ h10=> ?_))
   obtain ⟨cs10,cF10,rfl,p10⟩:=h10
   have s25:=s24.aD p10
   have S18:=s25.pk [0,1,2,4,5,6]
   refine gQ [0,1,2,3,4] S18 ?_
   refine .e rfl (λ _ s=> .build rh rfl ⟨(s.aO 2 rfl).a7,(s.aO 3 rfl).a7,(s.aO 4 rfl).a7,(s.aO 5 rfl).a7,trivial⟩ rfl) S18<| .f rfl (.bO (vs:=[cs1.val,(.slice none 0 0),(.slice none 0 0),(.slice none 0 0),cs8.val,cs9.val,cs10.val]) da s25 (i:=3) rfl rfl rfl rfl (oc ⟨(s25.aO 2 rfl).a7,rfl,rfl,rfl,(s25.aO 4 rfl).a7,(s25.aO 5 rfl).a7,(s25.aO 6 rfl).a7,trivial⟩) λ _ s26 _=> ?_)
   have s26:=s26.nn
   have S19:=s26.pk [0,1,2,4,5,6]
   refine ⟨S19,?_⟩
   refine .fin ?_
   have s27:=(Sat.order [0,1,2,4,5,6,3] (by decide) s26.tail).aF.pk [0,1,2,3,4,5,6]
   exact ⟨cs1,cF1,cs8,cF8,cs9,cF9,cs10,cF10,b_4,(wk rfl),s27⟩
  have S20:=s5.pk [0,1]
  refine la S20 ?_
  refine .mA rfl rfl rfl (OpE.call LD rfl (((kX (hr.a.ext s5.ext) λ q h=>yv q _ _ h (by omega))).mono λ r11 _ h11=> ?_))
  obtain ⟨cs11,cF11,rfl,p11⟩:=h11
  have s28:=s5.aD p11
  have S21:=s28.pk [0,1,3]
  refine gQ [0,1] S21 ?_
  refine .mA rfl rfl rfl (OpE.call HU rfl (((kX (hr.n.ext s28.ext) λ q h=>sJ q _ _ h (by omega))).mono λ r12 _ h12=> ?_))
  obtain ⟨cs12,cF12,rfl,p12⟩:=h12
  have s29:=(s28.aD p12).nn
  have S22:=s29.pk [0,1,3,4]
  refine gQ [0,1,2] S22 ?_
  refine .mA rfl rfl rfl (OpE.call D6 rfl (((kX (hr.h.ext s29.ext) λ q h=>ry q _ _ h (by omega))).mono λ r13 _ h13=> ?_))
  obtain ⟨cs13,cF13,rfl,p13⟩:=h13
  have s30:=s29.aD p13
  have S23:=s30.pk [0,1,3,4,5]
  refine gQ [0,1,2,3] S23 ?_
  refine .mA rfl rfl rfl (OpE.call Ac rfl (((kX (hr.l.ext s30.ext) λ q h=>kD q _ _ h (by omega))).mono λ r14 _ h14=> ?_))
  obtain ⟨cs14,cF14,rfl,p14⟩:=h14
  have s31:=s30.aD p14
  have S24:=s31.pk [0,1,3,4,5,6]
  refine gQ [0,1,2,3,4] S24 ?_
  refine .e rfl (λ _ s=> .build rh rfl ⟨(s.aO 2 rfl).a7,(s.aO 3 rfl).a7,(s.aO 4 rfl).a7,(s.aO 5 rfl).a7,trivial⟩ rfl) S24<| .f rfl (.bO (vs:=[cs11.val,(.slice none 0 0),(.slice none 0 0),(.slice none 0 0),cs12.val,cs13.val,cs14.val]) da s31 (i:=2) rfl rfl rfl rfl (oc ⟨(s31.aO 3 rfl).a7,rfl,rfl,rfl,(s31.aO 4 rfl).a7,(s31.aO 5 rfl).a7,(s31.aO 6 rfl).a7,trivial⟩) λ _ s32 _=> ?_)
  have s32:=s32.nn
  have S25:=s32.pk [0,1,3,4,5,6]
  refine ⟨S25,?_⟩
  refine .fin ?_
  have s33:=(Sat.order [0,1,3,4,5,6,2] (by decide) s32.tail).aF.pk [0,1,2,3,4,5,6]
  exact ⟨cs11,cF11,cs12,cF12,cs13,cF13,cs14,cF14,b3,(wk rfl),s33⟩
 rintro L' w28 ⟨sA,FA,sN,FN,sH,FH,sL,FL,b4,hw1,s34⟩
 refine .weaken _ hw1<| .seq<| .h<| .ld 1 s34 1 rfl<| .ln 0 (hr.t.ext s34.ext) rfl<| .Z rfl<| .block ?_
 have s35:=s34.aH 28 (fz)
 have s36:=s35.fO (Q:=λ w1=>∀ t∈([]:List Tk),RdL w1 t.sv.val aB t.ns) (λ w1=>λ t ht=>by cases ht)
 have s37:=(Sat.order [1,2,3,4,5,6,7,8,0] (by decide) s36.tail).aF.pk [0,1,2,3,4,5,6,7,8]
 refine .lq [2,3,4,29,30] rfl (α:=Nat×Value×List Tk×List Nat) (λ (k,vtks,tks,Ftks)=>[(31,(.int .i64 k))]) (λ (k,vtks,tks,Ftks) w'=>Sat w (s37.U [(6,aj b4 30 [sA.val,vtks,(.slice none 0 0),(.slice none 0 0),sN.val,sH.val,sL.val]),(7,cL vtks 28 (fz) (tks)),(8,fa Ftks (λ w1=>∀ t∈tks,RdL w1 t.sv.val aB t.ns))]) w'/\(tks.map (·.ns)=(c.tk.take k).map (·.ns))/\(tks.length<=k)) (λ (k,vtks,tks,Ftks)=>c.tk.length-k) (0,(.slice none 0 0),[],[]) ⟨s37,rfl,Nat.zero_le _⟩ ?_
 rintro ⟨k,vtks,tks,Ftks⟩ w29 ⟨s38,htks,hntks⟩
 refine .Z rfl<| .seq<| .ab rfl (λ c1=> ?_) λ c1=> ?_
 ·refine .skip<| .seq<| .block<| .seq ?_
  obtain ⟨x,hx⟩:∃ x,(c.tk)[k]? =some x:=⟨_,getElem?_eq_getElem c1⟩
  have hns9:x.ns.length<=1000000:=by have:=(ho.tk x (aa hx)).1;omega
  refine .region<| .ix 0 (hr.t.ext s38.ext) rfl<| .le 0 (hr.t.ext s38.ext) hx rfl<| .Z rfl ?_
  have hshp1:=(s38.ah (E:=fz) 7 rfl).iR (by decide)
  refine .jj [0,1,2,3,4,5,6,8] [0,1,2,3,4,5,7] s38 rfl rfl 7 (pl [0,1,2,1003,1004,1005,6] (.bar 7 .fin)) mixed (by kernel_rfl) ?_
  have s39:=s38.drew
  have S26:=s39.pk [0,1,2,3,4,5,6,8]
  refine .ld 1 S26 6 rfl<| .c 1 S26 ((kX ((hr.tr _ (aa hx)).ext s39.ext) λ q h=>kD q _ _ h (by omega))) rfl λ r15 _ h15=> ?_
  obtain ⟨cs15,cF15,rfl,p15⟩:=h15
  have s40:=s39.aD p15
  have S27:=s40.pk [0,1,2,3,4,5,6,8]
  refine ⟨S27,?_⟩
  refine .f rfl (.cM (fz) (⟨cs15,x.ns⟩:Tk) xM rfl s40 rfl λ v1 _ s41 _=> ?_)
  have S28:=s41.pk [0,1,2,3,4,5,6,8]
  refine ⟨S28,?_⟩
  refine .f rfl (.aL 7 xM s41 rfl rfl rfl underlying24 (s41.ah 10 rfl) (by simp only [length_singleton];omega) (by simp only [length_singleton];omega) λ v2 _ s42 _=> ?_)
  have s42:=s42.pk [0,1,2,3,4,5,6,7,8,9]
  have S29:=s42.pk [0,1,2,3,4,5,6,8]
  refine ⟨S29,?_⟩
  refine .z 1 S29 rfl<| .bar rfl rfl rfl (OpE.aM HI s42 (i:=6) rfl rfl rfl ((s42.ah 7 rfl).a7) rfl λ _ s43 _=> ?_)
  have S30:=s43.pk [0,1,2,3,4,5,8]
  refine ⟨S30,?_⟩
  refine .fin<| .U rfl ?_
  have s44:=(Sat.order [8,9,0,1,2,3,4,5,6,7] (by decide) s43.tail).aF.pk [0,1,2,3,4,5,6,7,8,9]
  obtain ⟨hF1,s45⟩:=s44.ik 2 (Q:=λ w1=>∀ t∈tks++[(⟨cs15,x.ns⟩:Tk)],RdL w1 t.sv.val aB t.ns) (λ w1 hA=>λ t ht=>(mem_append.1 ht).elim (hA.aO 0 rfl t) (λ h=>by rw [mem_singleton.1 h];exact hA.aO 1 rfl))
  have s46:=(Sat.order [1,2,3,4,5,6,7,8,0] (by decide) s45.tail).aF.pk [0,1,2,3,4,5,6,7,8]
  exact bc (k+1,v2,tks++[(⟨cs15,x.ns⟩:Tk)],hF1) ⟨s46.pk [0,1,2,3,4,5,6,7,8],by rw [map_append,htks,fq hx]<;>rfl,by rw [length_append,length_singleton];omega⟩
 refine .ao<| .seq<| .h<| .ld 1 s38 1 rfl<| .ln 0 (hr.x.ext s38.ext) rfl<| .Z rfl<| .block ?_
 have s48:=s38.aH 71 (aG)
 have s49:=s48.fO (Q:=λ w1=>∀ t∈([]:List Iv),RdL w1 t.sv.val aQ t.ps) (λ w1=>λ t ht=>by cases ht)
 have s50:=(Sat.order [1,2,3,4,5,6,7,8,9,10,0] (by decide) s49.tail).aF.pk [0,1,2,3,4,5,6,7,8,9,10]
 refine .lq [2,3,4,29,30,44,45] rfl (α:=Nat×Value×List Iv×List Nat) (λ (k,vxs,xs,Fxs)=>[(46,(.int .i64 k))]) (λ (k,vxs,xs,Fxs) w'=>Sat w (s50.U [(6,aj b4 30 [sA.val,vtks,vxs,(.slice none 0 0),sN.val,sH.val,sL.val]),(9,cL vxs 71 (aG) (xs)),(10,fa Fxs (λ w1=>∀ t∈xs,RdL w1 t.sv.val aQ t.ps))]) w'/\(xs.map Iv.v=(c.tx.take k).map Iv.v)/\(xs.length<=k)) (λ (k,vxs,xs,Fxs)=>c.tx.length-k) (0,(.slice none 0 0),[],[]) ⟨s50,rfl,Nat.zero_le _⟩ ?_
 rintro ⟨k,vxs,xs,Fxs⟩ w34 ⟨s51,hxs,hnxs⟩
 refine .Z rfl<| .seq<| .ab rfl (λ c2=> ?_) λ c2=> ?_
 ·refine .skip<| .seq<| .block<| .seq ?_
  obtain ⟨x,hx⟩:∃ x,(c.tx)[k]? =some x:=⟨_,getElem?_eq_getElem c2⟩
  have hps9:x.ps.length<=1000000:=by have:=(ho.tx.nm x (aa hx)).2.1.1;omega
  refine .region<| .ix 0 (hr.x.ext s51.ext) rfl<| .lg 0 (hr.x.ext s51.ext) hx rfl<| .al 0 s51 rfl λ b8 _ s52 _ _=> .sa 0 s52 11 rfl ((aG).one _) λ _ s53 _=> .nil<| .h<| .ld 1 s53 11 rfl<| .c 0 (Fz x.sv (x.ps) _ ((hr.xr _ (aa hx)).ext s53.ext) (hps9)) rfl λ r16 _ h16=> ?_
  obtain ⟨ps1,pF1,rfl,p16⟩:=h16
  have s54:=(s53.aD p16).nn
  refine .st 1 s54 11 rfl (h1:=(s54.aO 12 rfl).a7) λ _ s55 _=> .nil<| .region<| .ld 1 s55 6 rfl<| .lo 0 s55 11 rfl<| .f rfl (.cD (aG) (⟨x.nm,x.b,x.e,ps1,x.ps⟩:Iv) uk (by decide) (by decide) s55 rfl λ v3 _ s56 _=> ?_)
  refine .ap 0 s56 9 (s56.ah 13 rfl) rfl (h1:=by simp only [length_singleton];omega) (h2:=by simp only [length_singleton];omega) λ v_4 _ s57 _=> ?_
  have s57:=s57.pk [0,1,2,3,4,5,6,7,8,9,10,11,12]
  refine .st 1 s57 6 rfl (h1:=(s57.ah 9 rfl).a7) λ _ s58 _=> .nil<| .U rfl ?_
  have s59:=(Sat.order [10,12,0,1,2,3,4,5,6,7,8,9,11] (by decide) s58.tail).aF.pk [0,1,2,3,4,5,6,7,8,9,10,11,12]
  obtain ⟨hF2,s60⟩:=s59.ik 2 (Q:=λ w1=>∀ t∈xs++[(⟨x.nm,x.b,x.e,ps1,x.ps⟩:Iv)],RdL w1 t.sv.val aQ t.ps) (λ w1 hA=>λ t ht=>(mem_append.1 ht).elim (hA.aO 0 rfl t) (λ h=>by rw [mem_singleton.1 h];exact hA.aO 1 rfl))
  have s61:=(Sat.order [1,2,3,4,5,6,7,8,9,10,0,11] (by decide) s60.tail).aF.pk [0,1,2,3,4,5,6,7,8,9,10,11]
  exact bc (k+1,v_4,xs++[(⟨x.nm,x.b,x.e,ps1,x.ps⟩:Iv)],hF2) ⟨s61.pk [0,1,2,3,4,5,6,7,8,9,10],by rw [map_append,hxs,fq hx]<;>rfl,by rw [length_append,length_singleton];omega⟩
 refine .ao<| .seq<| .h<| .ld 1 s51 1 rfl<| .ln 0 (hr.r.ext s51.ext) rfl<| .Z rfl<| .block ?_
 have s63:=s51.aH 75 (aG)
 have s64:=s63.fO (Q:=λ w1=>∀ t∈([]:List Iv),RdL w1 t.sv.val aQ t.ps) (λ w1=>λ t ht=>by cases ht)
 have s65:=(Sat.order [1,2,3,4,5,6,7,8,9,10,11,12,0] (by decide) s64.tail).aF.pk [0,1,2,3,4,5,6,7,8,9,10,11,12]
 refine .lq [2,3,4,29,30,44,45,62,63] rfl (α:=Nat×Value×List Iv×List Nat) (λ (k,vrs,rs,Frs)=>[(64,(.int .i64 k))]) (λ (k,vrs,rs,Frs) w'=>Sat w (s65.U [(6,aj b4 30 [sA.val,vtks,vxs,vrs,sN.val,sH.val,sL.val]),(11,cL vrs 75 (aG) (rs)),(12,fa Frs (λ w1=>∀ t∈rs,RdL w1 t.sv.val aQ t.ps))]) w'/\(rs.map Iv.v=(c.rg.take k).map Iv.v)/\(rs.length<=k)) (λ (k,vrs,rs,Frs)=>c.rg.length-k) (0,(.slice none 0 0),[],[]) ⟨s65,rfl,Nat.zero_le _⟩ ?_
 rintro ⟨k,vrs,rs,Frs⟩ w42 ⟨s66,hrs,hnrs⟩
 refine .Z rfl<| .seq<| .ab rfl (λ c3=> ?_) λ c3=> ?_
 ·refine .skip<| .seq<| .block<| .seq ?_
  obtain ⟨x,hx⟩:∃ x,(c.rg)[k]? =some x:=⟨_,getElem?_eq_getElem c3⟩
  have hps9:x.ps.length<=1000000:=by have:=(ho.rg.el x (aa hx)).2.2.1;omega
  refine .region<| .ix 0 (hr.r.ext s66.ext) rfl<| .lg 0 (hr.r.ext s66.ext) hx rfl<| .al 0 s66 rfl λ b9 _ s67 _ _=> .sa 0 s67 13 rfl ((aG).one _) λ _ s68 _=> .nil<| .h<| .ld 1 s68 13 rfl<| .c 0 (Fz x.sv (x.ps) _ ((hr.rr _ (aa hx)).ext s68.ext) (hps9)) rfl λ r17 _ h17=> ?_
  obtain ⟨ps2,pF2,rfl,p17⟩:=h17
  have s69:=(s68.aD p17).nn
  refine .st 1 s69 13 rfl (h1:=(s69.aO 14 rfl).a7) λ _ s70 _=> .nil<| .region<| .ld 1 s70 6 rfl<| .lo 0 s70 13 rfl<| .f rfl (.cD (aG) (⟨x.nm,x.b,x.e,ps2,x.ps⟩:Iv) oE (by decide) (by decide) s70 rfl λ v5 _ s71 _=> ?_)
  refine .ap 0 s71 11 (s71.ah 15 rfl) rfl (h1:=by simp only [length_singleton];omega) (h2:=by simp only [length_singleton];omega) λ v6 _ s72 _=> ?_
  have s72:=s72.pk [0,1,2,3,4,5,6,7,8,9,10,11,12,13,14]
  refine .st 1 s72 6 rfl (h1:=(s72.ah 11 rfl).a7) λ _ s73 _=> .nil<| .U rfl ?_
  have s74:=(Sat.order [12,14,0,1,2,3,4,5,6,7,8,9,10,11,13] (by decide) s73.tail).aF.pk [0,1,2,3,4,5,6,7,8,9,10,11,12,13,14]
  obtain ⟨hF3,s75⟩:=s74.ik 2 (Q:=λ w1=>∀ t∈rs++[(⟨x.nm,x.b,x.e,ps2,x.ps⟩:Iv)],RdL w1 t.sv.val aQ t.ps) (λ w1 hA=>λ t ht=>(mem_append.1 ht).elim (hA.aO 0 rfl t) (λ h=>by rw [mem_singleton.1 h];exact hA.aO 1 rfl))
  have s76:=(Sat.order [1,2,3,4,5,6,7,8,9,10,11,12,0,13] (by decide) s75.tail).aF.pk [0,1,2,3,4,5,6,7,8,9,10,11,12,13]
  exact bc (k+1,v6,rs++[(⟨x.nm,x.b,x.e,ps2,x.ps⟩:Iv)],hF3) ⟨s76.pk [0,1,2,3,4,5,6,7,8,9,10,11,12],by rw [map_append,hrs,fq hx]<;>rfl,by rw [length_append,length_singleton];omega⟩
 refine .ao<| .h<| .lo 0 s66 6 rfl<| .sa 0 s66 0 (vs:=[sA.val,vtks,vxs,vrs,sN.val,sH.val,sL.val]) rfl (oc ⟨(s66.aO 2 rfl).a7,(s66.ah 7 rfl).a7,(s66.ah 9 rfl).a7,(s66.ah 11 rfl).a7,(s66.aO 3 rfl).a7,(s66.aO 4 rfl).a7,(s66.aO 5 rfl).a7,trivial⟩) λ _ s78 _=> .nil<| .ret ?_
 show aK _ _ _ _ _ _
 refine wX (vs:=[sA.val,vtks,vxs,vrs,sN.val,sH.val,sL.val]) rfl rfl da (λ j u hu=>s78.cell (i:=0) rfl hu) ?_
 have s79:=(Sat.order [2,7,9,11,3,4,5,8,10,12,0,1,6] (by decide) s78.tail).aF.pk [0,1,2,3,4,5,6,7,8,9,10,11,12]
 obtain ⟨hF4,s80⟩:=s79.ik 10 (Q:=λ w1=>RdC w1 (Co.mk sA.val vtks vxs vrs sN.val sH.val sL.val c.at_ tks xs rs c.nd c.hd c.rl)) (λ w1 hA=>⟨hA.aO 0 rfl,hA.ah 1 rfl,hA.ah 2 rfl,hA.ah 3 rfl,hA.aO 4 rfl,hA.aO 5 rfl,hA.aO 6 rfl,hA.aO 7 rfl,hA.aO 8 rfl,hA.aO 9 rfl⟩)
 rw [take_of_length_le (by omega)] at htks hxs hrs
 exact ⟨(Co.mk sA.val vtks vxs vrs sN.val sH.val sL.val c.at_ tks xs rs c.nd c.hd c.rl),hF4,rfl,by unfold Co.v;simp only [htks,hxs,hrs],s80.pk [0]⟩
end Go.Proofs.YthffkcnbdehceaaGreat
