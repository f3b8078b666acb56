/-The walks of the functions of F41r,printed by our own program (kwgen.py) out of our descriptions (base.py). -/
import Derived.Test.YthffkcnbdehceaaGreatF41
import Derived.Test.YthffkcnbdehceaaGreatF41e
import Derived.Test.YthffkcnbdehceaaGreatKop
open List
open Go.Proofs.Tryz
set_option linter.unusedVariables false
set_option linter.unusedSimpArgs false
set_option linter.unusedSectionVars false
namespace Go.Proofs.YthffkcnbdehceaaGreat
open Go.RowKit Go.Kw
set_option maxRecDepth 100000
theorem bO (w0 w:World) (cs:List Chunk) (g:Nat) (bv:Value) (s:RS) (x2 x3 x4 x5 x6 x7 x8 x9 x10:Value) (hs:Sat w0 ([aq g 158 [bv,.bool (!s.1),x2,x3,x4,x5,x6,x7,x8,x9,x10]]++cs) w) (hb:RdL w0 bv (aa .u8) s.2) (hB:RB s):
  CallsV prog 150 [(.pointer (some ⟨g,0,none⟩))] w λ r w'=>r= .int .i64 ((aS s).1:Int)/\∃ bv',RdL w0 bv' (aa .u8) (aS s).2.2/\Sat w0 ([aq g 158 [bv',.bool (!(aS s).2.1),x2,x3,x4,x5,x6,x7,x8,x9,x10]]++cs) w':=by
 refine ai func150 rfl rfl ?_
 refine .Z rfl<| .seq<| .h<| .ld 3 hs 0 rfl<| .nil<| .cond rfl (λ c1=> ?_) (λ c1=> ?_)
 ·refine .Z rfl<| .aC rfl rfl ?_
  have h0:s.1=false:=by simpa using c1
  have e:aS s=(0,false,s.2):=rp h0
  rw [h0] at hs
  rw [e]
  exact ⟨rfl,bv,hb,hs⟩
 refine .skip<| .h<| .ld 3 hs 0 rfl<| .cm 0 hs (fa _ (s.2) _ (hb.ext hs.ext) (hB.lt)) rfl λ _ s1=> .Z rfl<| .seq<| .seq<| .bN 24 (((fY s.2).2.2≠0)\/(1073741824<(fY s.2).1)) ?_ ?_
 ·refine .z 3 rfl<| .B 21 rfl (λ g1=> ?_) λ g1=> ?_
  ·refine .M rfl (by simp [g1])
  refine .M rfl (by simp [g1])
 refine .ae rfl (λ c2=> ?_) λ c2=> ?_
 ·refine .h<| .st 3 s1 0 rfl λ _ s2 _=> ?_
  have s2d:=s2.sn
  refine .nil<| .Z rfl<| .aC rfl rfl ?_
  have e:aS s=(0,false,s.2):=by unfold aS aW;rw [PI (.inr c2)]
  rw [e]
  exact ⟨rfl,bv,hb,s2d⟩
 refine .skip<| .seq ?_
 have hule:=oF s.2
 refine .region<| .ld 4 s1 0 rfl<| .a 1 rfl (.aV (E:=aa .u8) (a:=(fY s.2).2.1) (c:=(s.2).length) ch rfl (hb.ext s1.ext) ⟨_,rfl⟩ rfl (hule) (KB _))<| .st 2 s1 0 rfl (h1:=(((hb.ext s1.ext)).sub (a:=(fY s.2).2.1) (b:=(s.2).length) (hule) (KB _)).ab) λ _ s3 _=> ?_
 have s3d:=s3.sn
 refine .nil<| .Z rfl<| .aC rfl rfl ?_
 have h1:s.1=true:=by simpa using c1
 have e:aS s=((fY s.2).1,true,s.2.drop (fY s.2).2.1):=by unfold aS aW;rw [M2 (by rintro (h|h);rw [h1] at h;cases h;exact c2 h)]
 rw [h1] at s3d
 have hsub:=hb.sub (a:=(fY s.2).2.1) (b:=s.2.length) (oF s.2) (KB _)
 rw [PW] at hsub
 rw [e]
 exact ⟨rfl,_,hsub,s3d⟩
theorem cc (w0 w:World) (cs:List Chunk) (g:Nat) (bv:Value) (s:RS) (x2 x3 x4 x5 x6 x7 x8 x9 x10:Value) (hs:Sat w0 ([aq g 158 [bv,.bool (!s.1),x2,x3,x4,x5,x6,x7,x8,x9,x10]]++cs) w) (hb:RdL w0 bv (aa .u8) s.2) (hB:RB s):
  CallsV prog 151 [(.pointer (some ⟨g,0,none⟩))] w λ r w'=>r= .string (aP s).1/\∃ bv',RdL w0 bv' (aa .u8) (aP s).2.2/\Sat w0 ([aq g 158 [bv',.bool (!(aP s).2.1),x2,x3,x4,x5,x6,x7,x8,x9,x10]]++cs) w':=by
 refine ai func151 rfl rfl ?_
 refine .Z rfl<| .h<| .z 1 rfl ?_
 have A1:=hs.oc [0] 1
 refine .c 0 (bO _ _ _ _ _ s _ _ _ _ _ _ _ _ _ A1 hb hB) rfl λ r1 _ h_1=> ?_
 obtain ⟨rfl,bv1,hbv1,p1⟩:=h_1
 have s1:=p1.join.od [0]
 refine .Z rfl<| .seq<| .seq<| .bN 19 (((!(aS s).2.1)=true)\/(((aS s).2.2).length<(aS s).1)) ?_ ?_
 ·refine .ld 3 s1 0 rfl<| .z 1 rfl ?_
  by_cases g1:(!(aS s).2.1)=true
  ·refine .Gt 11 rfl (g1)<| .M rfl (by simp [g1])
  refine .Gf 11 rfl (by simpa using g1)<| .ld 4 s1 0 rfl<| .ln 0 (hbv1.ext s1.ext) rfl<| .M rfl (by simp [g1])
 refine .ae rfl (λ c1=> ?_) λ c1=> ?_
 ·refine .h<| .st 3 s1 0 rfl λ _ s2 _=> ?_
  have s2d:=s2.sn
  refine .nil<| .Z rfl<| .aC rfl rfl ?_
  have e:aP s=(strOf [],(false,(aS s).2.2)):=by unfold aP jB;rw [show aW s.1 s.2 1073741824=aS s from rfl,PI (c1.imp (λ h=>by simpa using h) id)]
  rw [e]
  exact ⟨rfl,_,hbv1,s2d⟩
 refine .skip<| .h<| .ld 3 s1 0 rfl<| .a 1 rfl (.aV (E:=aa .u8) (a:=0) (c:=(aS s).1) ch rfl (hbv1.ext s1.ext) rfl ⟨_,rfl⟩ (KD _) (by omega))<| .e rfl (.cZ underlying45 underlying9 underlying5 rfl (((hbv1.ext s1.ext)).sub (a:=0) (b:=(aS s).1) (KD _) (by omega)))<| .Z rfl<| .h<| .ld 4 s1 0 rfl<| .a 1 rfl (.aV (E:=aa .u8) (a:=(aS s).1) (c:=((aS s).2.2).length) ch rfl (hbv1.ext s1.ext) ⟨_,rfl⟩ rfl (by omega) (KB _))<| .st 2 s1 0 rfl (h1:=(((hbv1.ext s1.ext)).sub (a:=(aS s).1) (b:=((aS s).2.2).length) (by omega) (KB _)).ab) λ _ s3 _=> ?_
 have s3d:=s3.sn
 refine .nil<| .Z rfl<| .aC rfl rfl ?_
 have e:aP s=(strOf ((aS s).2.2.take (aS s).1),(true,(aS s).2.2.drop (aS s).1)):=by unfold aP jB;rw [show aW s.1 s.2 1073741824=aS s from rfl,M2 (λ h=>c1 (h.imp (λ h=>by simpa using h) id))]
 have h1:(aS s).2.1=true:=(QK _).resolve_right λ h=>c1 (.inl (by simpa using h))
 rw [h1] at s3d
 have hsub:=hbv1.sub (a:=(aS s).1) (b:=(aS s).2.2.length) (by omega) (KB _)
 rw [PW] at hsub
 rw [e]
 exact ⟨rfl,_,hsub,s3d⟩
theorem D4 (w0 w:World) (cs:List Chunk) (g:Nat) (bv:Value) (s:RS) (x2 x3 x4 x5 x6 x7 x8 x9 x10:Value) (b1 b2:Nat) (vo:Value) (acc:List Pr) (hs:Sat w0 ([aq b1 69 [vo],aq b2 209 [.pointer (some ⟨g,0,none⟩)],aq g 158 [bv,.bool (!s.1),x2,x3,x4,x5,x6,x7,x8,x9,x10],cL vo 120 aU (acc)]++cs) w) (hb:RdL w0 bv (aa .u8) s.2) (hB:RB s) (hac:acc.length<=1073741824):
  CallsV prog 213 [(.pointer (some ⟨b1,0,none⟩)),(.pointer (some ⟨b2,0,none⟩))] w λ r w'=>r= .tuple #[]/\∃ bv' vo',RdL w0 bv' (aa .u8) (rq s).2.2/\Sat w0 ([aq b1 69 [vo'],aq b2 209 [.pointer (some ⟨g,0,none⟩)],aq g 158 [bv',.bool (!(rq s).2.1),x2,x3,x4,x5,x6,x7,x8,x9,x10],cL vo' 120 aU (acc++[(rq s).1])]++cs) w':=by
 refine ai func213 rfl rfl ?_
 have hshp1:=(hs.ah (E:=aU) 3 rfl).iH (by decide)
 refine .fk [0,1] [1] hs rfl rfl 8 (pl [0,1,3,1002,1004,5,1006,1007] (.bar 8 .fin)) mixed (by kernel_rfl) ?_
 have s1:=hs.drew
 have S1:=s1.pt [0,1]
 refine .ld 0 S1 0 rfl<| .ld 0 S1 1 rfl<| .ld 0 S1 1 rfl ?_
 have A1:=s1.oc [2,0,1,3] 1
 refine .c 0 S1 (cc _ _ _ _ _ s _ _ _ _ _ _ _ _ _ A1 hb hB) rfl λ r1 _ h1=> ?_
 obtain ⟨rfl,bv1,hbv1,p1⟩:=h1
 have s2:=p1.join.od [1,2,0,3]
 have S2:=s2.pt [0,1]
 refine ⟨S2,?_⟩
 have A2:=s2.oc [2,0,1,3] 1
 refine .c 0 S2 (cc _ _ _ _ _ (aP s).2 _ _ _ _ _ _ _ _ _ A2 hbv1 (RB.tx hB)) rfl λ r2 _ h2=> ?_
 obtain ⟨rfl,bv2,hbv2,p2⟩:=h2
 have s3:=p2.join.od [1,2,0,3]
 have S3:=s3.pt [0,1]
 refine ⟨S3,?_⟩
 refine .e rfl (λ _ q=> .build C7 rfl ⟨rfl,rfl,trivial⟩ rfl) S3<| .f rfl (.cn (aU) ((aP s).1,(aP (aP s).2).1) DW (by decide) (by decide) s3 rfl λ v1 _ s4 _=> ?_)
 have s4d:=s4.mn
 have S4:=s4d.pt [0,1]
 refine ⟨S4,?_⟩
 refine .f rfl (.aw 3 DW s4d rfl rfl rfl underlying69 (s4d.ah 4 rfl) (by simp only [KM];omega) (by simp only [KM];omega) λ v2 _ s5 _=> ?_)
 have s5d:=(s5.sn).pt [0,1,2,3]
 have S5:=s5d.pt [0,1]
 refine ⟨S5,?_⟩
 refine .bar rfl rfl rfl (OpE.aK Ha s5d (i:=0) rfl rfl rfl ((s5d.ah 3 rfl).ab) rfl λ _ s6 _=> ?_)
 have s6d:=s6.sn
 have S6:=s6d.pt [1]
 refine ⟨S6,?_⟩
 refine .fin ?_
 show aL _ _ _ _ _ _
 refine cv rfl ?_
 exact ⟨rfl,_,_,hbv2,s6d⟩
theorem zP (w0 w:World) (cs:List Chunk) (g:Nat) (bv:Value) (s:RS) (x2 x3 x4 x5 x6 x7 x8 x9 x10:Value) (b1 b2:Nat) (vo:Value) (acc:List Pr) (hs:Sat w0 ([aq b1 69 [vo],aq b2 209 [.pointer (some ⟨g,0,none⟩)],aq g 158 [bv,.bool (!s.1),x2,x3,x4,x5,x6,x7,x8,x9,x10],cL vo 120 aU (acc)]++cs) w) (hb:RdL w0 bv (aa .u8) s.2) (hB:RB s) (hac:acc=[]):
  CallsV prog 97 [(.pointer (some ⟨g,0,none⟩)),(.func (.func 213) #[] #[(.pointer (some ⟨b1,0,none⟩)),(.pointer (some ⟨b2,0,none⟩))])] w λ r w'=>r= .tuple #[]/\∃ bv' vo',RdL w0 bv' (aa .u8) (pq s).2.2/\Sat w0 ([aq b1 69 [vo'],aq b2 209 [.pointer (some ⟨g,0,none⟩)],aq g 158 [bv',.bool (!(pq s).2.1),x2,x3,x4,x5,x6,x7,x8,x9,x10],cL vo' 120 aU (acc++(pq s).1)]++cs) w':=by
 refine ai func97 rfl rfl ?_
 refine .h<| .z 1 rfl ?_
 have A1:=hs.oc [2,0,1,3] 1
 refine .c 0 (bO _ _ _ _ _ s _ _ _ _ _ _ _ _ _ A1 hb hB) rfl λ r1 _ h1=> ?_
 obtain ⟨rfl,bv_1,hbv1,p1⟩:=h1
 have s_1:=p1.join.od [1,2,0,3]
 refine .Z rfl<| .block ?_
 have hle:=ez s
 refine .lq [0,1] rfl (α:=Nat×RS×Value×Value×List Pr) (λ (m,s1,bv1,vo1,acc1)=>[(4,(.int .i64 m))]) (λ (m,s1,bv1,vo1,acc1) w'=>Sat w0 (s_1.V [(0,aq b1 69 [vo1]),(2,aq g 158 [bv1,(.bool (!s1.1)),x2,x3,x4,x5,x6,x7,x8,x9,x10]),(3,cL vo1 120 (aU) (acc1))]++cs) w'/\(RB s1)/\(RdL w0 bv1 (aa .u8) s1.2)/\(acc1++(iN Prod.fst rq m s1).1=acc++(pq s).1)/\((iN Prod.fst rq m s1).2=(pq s).2)/\(acc1.length+m<=1073741824)) (λ (m,s1,bv1,vo1,acc1)=>m) ((aS s).1,(aS s).2,bv_1,vo,acc) ⟨s_1,hB.nm,hbv1,rfl,rfl,by rw [hac];simpa using hle⟩ ?_
 rintro ⟨m,s1,bv1,vo1,acc1⟩ w2 ⟨s2,hB1,hb1,he1,he2,hlm⟩
 refine .seq<| .seq<| .bN 15 ((0<m)/\((!(!s1.1))=true)) ?_ ?_
 ·refine .z 3 rfl<| .B 9 rfl (λ g1=> ?_) λ g1=> ?_
  ·refine .ld 3 s2 2 rfl<| .a 0 rfl (.cO rfl)<| .M rfl (by simp [g1])
  refine .M rfl (by simp [g1])
 refine .ae rfl (λ c1=> ?_) λ c1=> ?_
 ·refine .skip<| .seq<| .block ?_
  have ho:s1.1=true:=by simpa using c1.2
  rw [nr (ok:=Prod.fst) ho (by omega)] at he1 he2
  refine .region<| .z 1 rfl ?_
  have A2:=s2.oc [0,1,2,3] 4
  refine .f rfl (.yV MA rfl rfl ((D4 _ _ _ _ _ s1 _ _ _ _ _ _ _ _ _ _ _ _ (acc1) A2 hb1 hB1 (by omega)).mono λ r2 _ h2=> ?_))
  obtain ⟨rfl,bv2,vo_1,hbv2,p2⟩:=h2
  have s3:=p2.join.od [0,1,2,3]
  refine .nil<| .U rfl ?_
  exact aT ((m-1),(rq s1).2,bv2,vo_1,acc1++[(rq s1).1]) ⟨s3,hB1.PB,hbv2,by rw [<-he1];simp,he2,by simp only [sp,KM];omega⟩
 refine .ao ?_
 show aL _ _ _ _ _ _
 refine cv rfl ?_
 rw [nt (ok:=Prod.fst) (by simpa using c1)] at he1 he2
 rw [QO] at he1
 rw [<-he1,<-he2]
 exact ⟨rfl,_,_,hb1,s2⟩
theorem pf (w0 w:World) (cs:List Chunk) (g:Nat) (bv:Value) (s:RS) (x2 x3 x4 x5 x6 x7 x8 x9 x10:Value) (hs:Sat w0 ([aq g 158 [bv,.bool (!s.1),x2,x3,x4,x5,x6,x7,x8,x9,x10]]++cs) w) (hb:RdL w0 bv (aa .u8) s.2) (hB:RB s):
  CallsV prog 157 [(.pointer (some ⟨g,0,none⟩))] w λ r w'=>∃ v',r=v'/\∃ bv',RdL w0 bv' (aa .u8) (pq s).2.2/\Sat w0 ([aq g 158 [bv',.bool (!(pq s).2.1),x2,x3,x4,x5,x6,x7,x8,x9,x10],cL v' 120 aU (pq s).1]++cs) w':=by
 refine ai func157 rfl rfl ?_
 refine .h<| .bx 0 hs rfl λ b1 _ s1 _ _=> ?_
 have s1d:=s1.mn
 refine .Z rfl<| .h<| .al 0 s1d rfl λ b2 _ s2 _ _=> ?_
 have s2d:=s2.mn
 refine .nil ?_
 have s3:=(s2d.aA 120 (aU)).mn
 refine .h<| .ld 0 s3 1 rfl<| .e rfl (.uJ rfl rfl) ?_
 have A1:=s3.oc [2,1,0,3] 4
 refine .c 0 (zP _ _ _ _ _ s _ _ _ _ _ _ _ _ _ _ _ _ ([]) A1 hb hB (rfl)) rfl λ r1 _ h1=> ?_
 obtain ⟨rfl,bv1,vo1,hbv1,p1⟩:=h1
 have s4:=p1.join.od [2,1,0,3]
 refine .nil<| .h<| .ld 0 s4 2 rfl<| .Z rfl<| .aC rfl rfl ?_
 have s5:=s4.pt [0,3]
 have s6:=(s5.aZ 1 rfl (show []++(pq s).1=(pq s).1 from Rc _)).sn
 exact ⟨_,rfl,_,hbv1,s6⟩
end Go.Proofs.YthffkcnbdehceaaGreat
