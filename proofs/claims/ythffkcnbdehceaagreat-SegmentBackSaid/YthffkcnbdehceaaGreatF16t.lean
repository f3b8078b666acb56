/-The walks of the functions of F16t,printed by our own program (kwgen.py) out of our descriptions (base.py). -/
import Derived.Test.YthffkcnbdehceaaGreatF16p
import Derived.Test.YthffkcnbdehceaaGreatF15u
import Derived.Test.YthffkcnbdehceaaGreatKv
import Derived.Test.YthffkcnbdehceaaGreatF13
open List
open Go.Proofs.Tryz
set_option linter.unusedVariables false
set_option linter.unusedSimpArgs false
set_option linter.unusedSectionVars false
namespace Go.Proofs.YthffkcnbdehceaaGreat
open Go.RowKit Go.Kw
set_option maxRecDepth 100000
theorem iw:Gd prog 142=true:=by kernel_rfl
theorem vC (v:Value) (b:List Nat) (w:World) (hv:RdL w v (a8 .u8) b) (hb:∀ x∈b,x<256) (hn:b.length<=1000000000) (h4:4<=b.length) (hsum:iQ (iP (b.take (b.length-4)))=b.drop (b.length-4)):
  CallsV prog 96 [v] w λ r w'=>∃ v',r= .tuple #[v',.int .i64 ((0:Nat):Int)]/\Sat w [cL v' 5 (a8 .u8) (b.take (b.length-4))] w':=by
 refine cc func96 rfl λ hs0=> .Z rfl<| .seq<| .h<| .ln 1 (hv.ext hs0.ext) rfl<| .Z rfl<| .ak rfl (decide_eq_false (by omega))<| .skip<| .h<| .ln 1 (hv.ext hs0.ext) rfl<| .Z rfl<| .seq<| .seq<| .dk [] hs0 rfl (pl [0,1,2,5,6,7] (.two 3 8 (.two 4 8 (pl [1008,9,10] .fin) (pl [9,1004,10] .fin)) (pl [9,1003,1004,10] .fin))) λ s1 S1=> .z 2 S1 rfl<| .e rfl (λ _ s=> .bk (E:=a8 .u8) (a:=0) (c:=(b.length-4)) cg rfl (hv.ext s.ext) rfl ⟨_,rfl⟩ (Nat.zero_le _) (by omega)) S1<| .z 2 S1 rfl<| .e rfl (λ _ s=> .bk (E:=a8 .u8) (a:=(b.length-4)) (c:=(b).length) cg rfl (hv.ext s.ext) ⟨_,rfl⟩ rfl (by omega) (Nat.le_refl _)) S1<| .two rfl rfl rfl rfl rfl rfl (OpE.call LG rfl ((sC _ (((b).take (b.length-4)).drop 0) _ (((hv.ext s1.ext)).sub (a:=0) (b:=(b.length-4)) (Nat.zero_le _) (by omega)) (λ x hx=>hb x (mem_of_mem_take (mem_of_mem_drop hx))) (by simp;omega)).mono λ r1 _ h1=> ?_)) (OpE.ev (Ev.wG (E:=a8 .u8) underlying142 rfl (((hv.ext s1.ext)).sub (a:=(b.length-4)) (b:=(b).length) (by omega) (Nat.le_refl _)) (by simp;omega)) ⟨S1,?_⟩)
 ·obtain ⟨rfl,p1⟩:=h1
  have s2:=s1.aD p1
  have S2:=s2.pk []
  refine ⟨S2,?_⟩
  refine .two rfl rfl rfl rfl rfl rfl (OpE.call LF rfl ((ef ((iP (((b).take (b.length-4)).drop 0))) _ (jg (λ x hx=>hb x (mem_of_mem_take (mem_of_mem_drop hx))))).mono λ r2 _ h2=> ?_)) (OpE.ev (Ev.wG (E:=a8 .u8) underlying142 rfl (((hv.ext s2.ext)).sub (a:=(b.length-4)) (b:=(b).length) (by omega) (Nat.le_refl _)) (by simp;omega)) ⟨S2,?_⟩)
  ·obtain ⟨rfl,p2⟩:=h2
   have s3:=s2.aD p2
   have S3:=s3.pk []
   refine ⟨S3,?_⟩
   refine .f rfl (.ev (Ev.wG (E:=a8 .u8) underlying142 rfl (((hv.ext s3.ext)).sub (a:=(b.length-4)) (b:=(b).length) (by omega) (Nat.le_refl _)) (by simp;omega)) ⟨S3,?_⟩)
   refine .e rfl (λ _ s=> .wD (E:=a8 .u8) my rfl (((hv.ext s.ext)).sub (a:=(b.length-4)) (b:=(b).length) (by omega) (Nat.le_refl _)) (by show _*1=_;simp;omega) (by decide)) S3<| .e rfl (λ _ s=> .kV iw (rfl) (by simp;omega) rfl rfl) S3<| .fin<| .ak rfl (decide_eq_false (λ h=>h (by rw [drop_zero,take_length];exact hsum)))<| .skip<| .h<| .f rfl (.l7 (a8 .u8) cg s3 λ v1 _ s4 _=> ?_)
   have s4:=s4.nn
   refine .a 2 rfl (.bk (E:=a8 .u8) (a:=0) (c:=(b.length-4)) cg rfl (hv.ext s4.ext) rfl ⟨_,rfl⟩ (Nat.zero_le _) (by omega))<| .ap 0 s4 0 (((hv.ext s4.ext)).sub (a:=0) (b:=(b.length-4)) (Nat.zero_le _) (by omega)) rfl λ v2 _ s5 _=> .Z rfl<| .bG rfl rfl rfl ?_
   have s7:=(s5.pk [0]).cF 0 rfl (show ((b).take (b.length-4)).drop 0=b.take (b.length-4) from by simp)
   exact ⟨_,rfl,s7⟩
  refine .e rfl (λ _ s=> .wD (E:=a8 .u8) my rfl (((hv.ext s.ext)).sub (a:=(b.length-4)) (b:=(b).length) (by omega) (Nat.le_refl _)) (by show _*1=_;simp;omega) (by decide)) S2<| .c 0 S2 (ef ((iP (((b).take (b.length-4)).drop 0))) _ (jg (λ x hx=>hb x (mem_of_mem_take (mem_of_mem_drop hx))))) rfl λ r3 _ h3=> ?_
  obtain ⟨rfl,p3⟩:=h3
  have s8:=s2.aD p3
  have S4:=s8.pk []
  refine ⟨S4,?_⟩
  refine .e rfl (λ _ s=> .kV iw (rfl) (by simp;omega) rfl rfl) S4<| .fin<| .ak rfl (decide_eq_false (λ h=>h (by rw [drop_zero,take_length];exact hsum)))<| .skip<| .h<| .f rfl (.l7 (a8 .u8) cg s8 λ v3 _ s9 _=> ?_)
  have s9:=s9.nn
  refine .a 2 rfl (.bk (E:=a8 .u8) (a:=0) (c:=(b.length-4)) cg rfl (hv.ext s9.ext) rfl ⟨_,rfl⟩ (Nat.zero_le _) (by omega))<| .ap 0 s9 0 (((hv.ext s9.ext)).sub (a:=0) (b:=(b.length-4)) (Nat.zero_le _) (by omega)) rfl λ v_4 _ s10 _=> .Z rfl<| .bG rfl rfl rfl ?_
  have s12:=(s10.pk [0]).cF 0 rfl (show ((b).take (b.length-4)).drop 0=b.take (b.length-4) from by simp)
  exact ⟨_,rfl,s12⟩
 refine .e rfl (λ _ s=> .wD (E:=a8 .u8) my rfl (((hv.ext s.ext)).sub (a:=(b.length-4)) (b:=(b).length) (by omega) (Nat.le_refl _)) (by show _*1=_;simp;omega) (by decide)) S1<| .c 0 S1 (sC _ (((b).take (b.length-4)).drop 0) _ (((hv.ext s1.ext)).sub (a:=0) (b:=(b.length-4)) (Nat.zero_le _) (by omega)) (λ x hx=>hb x (mem_of_mem_take (mem_of_mem_drop hx))) (by simp;omega)) rfl λ r4 _ h_4=> ?_
 obtain ⟨rfl,p4⟩:=h_4
 have s13:=s1.aD p4
 have S5:=s13.pk []
 refine ⟨S5,?_⟩
 refine .c 0 S5 (ef ((iP (((b).take (b.length-4)).drop 0))) _ (jg (λ x hx=>hb x (mem_of_mem_take (mem_of_mem_drop hx))))) rfl λ r5 _ h5=> ?_
 obtain ⟨rfl,p5⟩:=h5
 have s14:=s13.aD p5
 have S6:=s14.pk []
 refine ⟨S6,?_⟩
 refine .e rfl (λ _ s=> .kV iw (rfl) (by simp;omega) rfl rfl) S6<| .fin<| .ak rfl (decide_eq_false (λ h=>h (by rw [drop_zero,take_length];exact hsum)))<| .skip<| .h<| .f rfl (.l7 (a8 .u8) cg s14 λ v5 _ s15 _=> ?_)
 have s15:=s15.nn
 refine .a 2 rfl (.bk (E:=a8 .u8) (a:=0) (c:=(b.length-4)) cg rfl (hv.ext s15.ext) rfl ⟨_,rfl⟩ (Nat.zero_le _) (by omega))<| .ap 0 s15 0 (((hv.ext s15.ext)).sub (a:=0) (b:=(b.length-4)) (Nat.zero_le _) (by omega)) rfl λ v6 _ s16 _=> ?_
 have s16d:Sat w [cL v6 5 (a8 .u8) (((b).take (b.length-4)).drop 0)] _:=s16
 refine .Z rfl<| .bG rfl rfl rfl ?_
 have s18:=(s16d.pk [0]).cF 0 rfl (show ((b).take (b.length-4)).drop 0=b.take (b.length-4) from by simp)
 exact ⟨_,rfl,s18⟩
theorem sF (v:Value) (b p:List Nat) (w:World) (hv:RdL w v (a8 .u8) b) (he:b=aE p) (hb:∀ x∈p,x<256) (hn:p.length<=10000000):
  CallsV prog 96 [v] w λ r w'=>∃ v',r= .tuple #[v',.int .i64 ((0:Nat):Int)]/\Sat w [cL v' 5 (a8 .u8) p] w':=by
 subst he
 have hl:=aY p
 have ht:(aE p).take ((aE p).length-4)=p:=by rw [hl,Nat.add_sub_cancel,aE,take_left']<;>rfl
 have hd:(aE p).drop ((aE p).length-4)=iQ (iP p):=by rw [hl,Nat.add_sub_cancel,aE,drop_left']<;>rfl
 have h:=vC v (aE p) w hv (λ x hx=>by
  rcases mem_append.1 hx with hx|hx
  ·exact hb x hx
  ·exact ot _ x hx) (by omega) (by omega) (by rw [ht,hd])
 rw [ht] at h;exact h
theorem DK (w0 w:World) (cs:List Chunk) (g:Nat) (bv:Value) (bl:List Nat) (m:Nat) (hs:Sat w0 ([aj g 264 [bv,.bool true]]++cs) w) (hb:RdL w0 bv (a8 .u8) bl) (hm:m<=bl.length) (hn:bl.length<=1000000000):
  CallsV prog 243 [(.pointer (some ⟨g,0,none⟩)),(.int .i64 m)] w λ r w'=>RdL w0 r (a8 .u8) ((bl.take m).drop 0)/\∃ bv',RdL w0 bv' (a8 .u8) (bl.drop m)/\Sat w0 ([aj g 264 [bv',.bool true]]++cs) w':=by
 refine ae func243 rfl rfl ?_
 refine .Z rfl<| .seq<| .h<| .ld 3 hs 0 rfl<| .ld 6 hs 0 rfl<| .ln 0 (hb.ext hs.ext) rfl<| .Z rfl<| .ak rfl (decide_eq_false (by omega))<| .skip<| .h<| .ld 3 hs 0 rfl<| .a 1 rfl (.bk (E:=a8 .u8) (a:=0) (c:=m) cg rfl (hb.ext hs.ext) rfl ⟨_,rfl⟩ (Nat.zero_le _) (hm))<| .Z rfl<| .h<| .ld 4 hs 0 rfl<| .a 1 rfl (.bk (E:=a8 .u8) (a:=m) (c:=(bl).length) cg rfl (hb.ext hs.ext) ⟨_,rfl⟩ rfl (hm) (Nat.le_refl _))<| .st 2 hs 0 rfl (h1:=(((hb.ext hs.ext)).sub (a:=m) (b:=(bl).length) (hm) (Nat.le_refl _)).a7) λ _ s1 _=> ?_
 have s1d:=s1.sn
 refine .nil<| .Z rfl<| .aC rfl rfl ?_
 have hr1:=hb.sub (a:=0) (b:=m) (Nat.zero_le _) hm
 have hr2:=hb.sub (a:=m) (b:=bl.length) hm (Nat.le_refl _)
 rw [take_length] at hr2
 exact ⟨hr1,_,hr2,s1d⟩
theorem iZ (w0 w:World) (cs:List Chunk) (g:Nat) (bv:Value) (bl rest:List Nat) (x lim:Nat) (hs:Sat w0 ([aj g 264 [bv,.bool true]]++cs) w) (hb:RdL w0 bv (a8 .u8) bl) (he:bl=uv x++rest) (hbb:∀ y∈bl,y<256) (hn:bl.length<=1000000000) (hl:x<=lim) (hlim:lim<=1000000000000):
  CallsV prog 242 [.pointer (some ⟨g,0,none⟩),.int .i64 (lim:Int)] w λ r w'=>r= .int .i64 (x:Int)/\∃ bv',RdL w0 bv' (a8 .u8) rest/\Sat w0 ([aj g 264 [bv',.bool true]]++cs) w':=by
 subst he
 have h:=IU w0 w cs g bv true (uv x++rest) lim hs hb hbb hn hlim
 rw [gd (by omega) hl] at h
 exact h
theorem oN (w0 w:World) (cs:List Chunk) (g:Nat) (bv:Value) (bl a rest:List Nat) (m:Nat) (hs:Sat w0 ([aj g 264 [bv,.bool true]]++cs) w) (hb:RdL w0 bv (a8 .u8) bl) (he:bl=a++rest) (hm:a.length=m) (hn:bl.length<=1000000000):
  CallsV prog 243 [.pointer (some ⟨g,0,none⟩),.int .i64 (m:Int)] w λ r w'=>RdL w0 r (a8 .u8) a/\∃ bv',RdL w0 bv' (a8 .u8) rest/\Sat w0 ([aj g 264 [bv',.bool true]]++cs) w':=by
 subst he
 have h:=DK w0 w cs g bv (a++rest) m hs hb (by simp;omega) hn
 rw [drop_zero,take_left' hm,drop_left' hm] at h
 exact h
theorem mG {kind k:Nat} {ps:List (List Nat×Nat)} {y:Nat} (h:y∈er kind (ps.drop k)):y∈er kind ps:=by
 obtain ⟨p,hp,hy⟩:=mem_flatMap.1 h
 exact mem_flatMap.2 ⟨p,mem_of_mem_drop hp,hy⟩
theorem mH (kind k:Nat) (ps:List (List Nat×Nat)):(er kind (ps.drop k)).length<=(er kind ps).length:=by
 have e:er kind ps=er kind (ps.take k)++er kind (ps.drop k):=by
  unfold er;rw [<-flatMap_append,take_append_drop]
 rw [e,length_append];omega
theorem ym {kind k:Nat} {ps:List (List Nat×Nat)} {p:List Nat×Nat} (h:ps[k]? =some p):er kind (ps.drop k)=uv (if kind=0 then p.1.length else p.2)++(p.1++er kind (ps.drop (k+1))):=by
 rw [qx h];simp [er,u6]
theorem vD:∀ {l:List Nat},(∀ x∈l,x<2^8)->l.map (· %2^8)=l
 |[],_=>rfl
 |x::r,h=>by rw [map_cons,vD λ y hy=>h y (by simp [hy]),Nat.mod_eq_of_lt (h x (by simp))]
theorem yn (l:List Nat) (k:Nat):l.take (64*k)++ez l k=l.take (64*(k+1)):=by
 rw [show 64*(k+1)=64*k+64 by omega,take_add]<;>rfl
set_option maxHeartbeats 1000000 in
theorem Fc (w0 w:World) (cs:List Chunk) (g:Nat) (bv:Value) (l:List Nat) (hs:Sat w0 ([aj g 264 [bv,.bool true]]++cs) w) (hl:OkN l) (hb:RdL w0 bv (a8 .u8) (om l 0)):
  CallsV prog 210 [(.pointer (some ⟨g,0,none⟩))] w λ r w'=>∃ v',r= .tuple #[v',.bool true]/\∃ bv',Sat w0 ([aj g 264 [bv',.bool true],cL v' 3 (a8 .i64) l]++cs) w':=by
 have hnl:=hl.len
 have hP:om l 0=uv l.length++(uv 0++er 0 (mj l (dE l.length))):=by rw [Gm,u7];simp
 have hlt:∀ y∈om l 0,y<256:=oM (by decide)
 have hPl:=rF hl (k:=0) (by decide)
 have hPl2:=congrArg List.length hP
 simp only [length_append] at hPl2
 have hnb:dE l.length<=64:=by unfold dE;omega
 refine ae func210 rfl rfl ?_
 refine .Z rfl<| .h<| .z 1 rfl ?_
 have A1:=hs.oc [0] 1
 refine .c 0 (iZ _ _ _ _ _ (om l 0) (uv 0++er 0 (mj l (dE l.length))) (l.length) 4096 A1 hb (hP) (hlt) (by omega) (hnl) (by omega)) rfl λ r1 _ h1=> ?_
 obtain ⟨rfl,bv1,hbv1,p1⟩:=h1
 have s1:=p1.join.od [0]
 refine .z 1 rfl ?_
 have A2:=s1.oc [0] 1
 refine .c 0 (iZ _ _ _ _ _ (uv 0++er 0 (mj l (dE l.length))) (er 0 (mj l (dE l.length))) (0) 1 A2 hbv1 (rfl) (λ y hy=>hlt y (by rw [hP];exact mem_append_right _ hy)) (by simp only [length_append];omega) (by omega) (by omega)) rfl λ r2 _ h2=> ?_
 obtain ⟨rfl,bv_2,hbv2,p2⟩:=h2
 have s2:=p2.join.od [0]
 refine .e rfl (.build D5 rfl ⟨rfl,rfl,trivial⟩ rfl)<| .al 0 s2 rfl λ b1 _ s3 _ _=> ?_
 have s3d:=s3.mn
 refine .sa 0 s3d 1 (vs:=[(.int .i64 l.length),(.int .i64 (0:Nat)),(.slice none 0 0),(.slice none 0 0),(.int .i64 (0:Nat)),(.slice none 0 0)]) rfl (λ v h=>by simp only [mem_cons,not_mem_nil,or_false] at h;rcases h with rfl|rfl|rfl|rfl|rfl|rfl;exact rfl;exact rfl;exact rfl;exact rfl;exact rfl;exact rfl) λ w4 s4 _=> ?_
 have s4d:=s4.sn
 refine .nil<| .seq<| .h<| .ld 1 s4d 1 rfl<| .Z rfl<| .ak rfl (rfl)<| .skip<| .Z rfl<| .seq<| .Z rfl<| .block ?_
 have s5:=(s4d.aH 3 (a8 .i64)).mn
 have s6:Sat w0 ([aj g 264 [bv_2,(.bool true)],aj b1 245 [(.int .i64 l.length),(.int .i64 (0:Nat)),(.slice none 0 0),(.slice none 0 0),(.int .i64 (0:Nat)),(.slice none 0 0)],cL (Value.slice none 0 0) 3 (a8 .i64) (l.take (64*0))]++cs) w4:=by
  have hq:[]=l.take (64*0):=rfl
  rw [<-hq];exact s5
 refine .lq [0,4] rfl (α:=Nat×Value×Value) (λ (k,bv2,ov)=>[(7,ov),(8,(.int .i64 k))]) (λ (k,bv2,ov) w'=>Sat w0 (s6.V [(0,aj g 264 [bv2,(.bool true)]),(2,cL ov 3 (a8 .i64) (l.take (64*k)))]++cs) w'/\(k<=dE l.length)/\(RdL w0 bv2 (a8 .u8) (er 0 ((mj l (dE l.length)).drop k)))) (λ (k,bv2,ov)=>dE l.length-k) (0,bv_2,(.slice none 0 0)) ⟨s6,Nat.zero_le _,hbv2⟩ ?_
 rintro ⟨k,bv2,ov⟩ w5 ⟨s7,hk,hbv⟩
 refine .seq<| .h<| .ld 3 s7 0 rfl<| .ld 4 s7 1 rfl<| .Z rfl<| .ab rfl (λ c1=> ?_) λ c1=> ?_
 ·refine .skip<| .seq<| .block<| .Z rfl<| .Z rfl<| .seq<| .h<| .ld 1 s7 1 rfl<| .Z rfl<| .dD rfl (rfl) ?_
  have hkN:k<dE l.length:=by unfold dE;omega
  have hd:=ym (kind:=0) (Jt (l:=l) hkN)
  rw [if_pos rfl] at hd
  have hdl:=mH 0 k (mj l (dE l.length))
  have hdl1:=congrArg List.length hd
  simp only [length_append] at hdl1
  have hcl:=cr l k
  refine .region<| .ld 5 s7 0 rfl<| .ln 0 (hbv.ext s7.ext) rfl ?_
  have A3:=s7.oc [0,1,2] 1
  refine .c 0 (iZ _ _ _ _ _ (er 0 ((mj l (dE l.length)).drop k)) (bS (ez l k)++er 0 ((mj l (dE l.length)).drop (k+1))) ((bS (ez l k)).length) ((er 0 ((mj l (dE l.length)).drop k)).length) A3 hbv (hd) (λ y hy=>hlt y (by rw [hP];exact mem_append_right _ (mem_append_right _ (mG hy)))) (by omega) (by omega) (by omega)) rfl λ r3 _ h3=> ?_
  obtain ⟨rfl,bv3,hbv3,p3⟩:=h3
  have s8:=p3.join.od [0,1,2]
  have A4:=s8.oc [0,1,2] 1
  refine .c 0 (oN _ _ _ _ _ (bS (ez l k)++er 0 ((mj l (dE l.length)).drop (k+1))) (bS (ez l k)) (er 0 ((mj l (dE l.length)).drop (k+1))) ((bS (ez l k)).length) A4 hbv3 (rfl) (rfl) (by simp only [length_append];omega)) rfl λ r4 _ h4=> ?_
  obtain ⟨hbr1,bv4,hbv4,p4⟩:=h4
  have s9:=p4.join.od [0,1,2]
  refine .c 0 (vB _ (bS (ez l k)) (ez l k) _ (hbr1.ext s9.ext) (ka _ _) (by omega) (wz (by omega) (λ y hy=>by have:=hl.lt y (kS hy);omega))) rfl λ r5 _ h5=> ?_
  obtain ⟨uv1,rfl,p5⟩:=h5
  have s10:=(s9.aD p5).mn
  refine .Z rfl<| .seq<| .h<| .ld 3 s10 0 rfl<| .ln 7 (s10.ah 3 rfl) rfl<| .cm 1 s10 (mE _ (l.length) (k) _ (s10.cell (i:=1) (j:=0) rfl rfl) (by omega) (by omega)) rfl λ _ s11=> .Z rfl<| .ak rfl (decide_eq_false (λ h=>h (by rw [cr];omega)))<| .skip<| .trim [0,4,7,8,9,10] rfl<| .region<| .ap 2 s11 2 (s11.ah 3 rfl) rfl λ v1 w10 s12 _=> ?_
  have s12d:=s12.sn
  refine .Z rfl<| .U rfl ?_
  have s13:=s12d.pt [0,1,2]
  have s14:Sat w0 ([aj g 264 [bv4,(.bool true)],aj b1 245 [(.int .i64 l.length),(.int .i64 (0:Nat)),(.slice none 0 0),(.slice none 0 0),(.int .i64 (0:Nat)),(.slice none 0 0)],cL v1 3 (a8 .i64) (l.take (64*(k+1)))]++cs) w10:=by
   have hq:l.take (64*k)++ez l k=l.take (64*(k+1)):=yn l k
   rw [<-hq];exact s13
  exact bc (k+1,bv4,v1) ⟨s14,by omega,hbv4⟩
 refine .ao<| .seq<| .dt [0,1,2] s7 rfl (pl [0,1,2,3,4,5,6] .fin) λ s15 S1=> .ld 4 S1 0 rfl<| .Z S1 rfl<| .bG rfl rfl rfl ?_
 have s16:=s15.pt [0,2]
 have s17:Sat w0 ([aj g 264 [bv2,(.bool true)],cL ov 3 (a8 .i64) (l)]++cs) w5.drew:=by
  have hq:l.take (64*k)=l:=by rw [take_of_length_le (by omega)]
  rw [<-hq];exact s16
 exact ⟨_,rfl,_,s17⟩
set_option maxHeartbeats 2000000 in
theorem Fe (w0 w:World) (cs:List Chunk) (g:Nat) (bv:Value) (l:List Nat) (hs:Sat w0 ([aj g 264 [bv,.bool true]]++cs) w) (hl:OkN l) (hb:RdL w0 bv (a8 .u8) (om l 1)):
  CallsV prog 210 [(.pointer (some ⟨g,0,none⟩))] w λ r w'=>∃ v',r= .tuple #[v',.bool true]/\∃ bv',Sat w0 ([aj g 264 [bv',.bool true],cL v' 3 (a8 .i64) l]++cs) w':=by
 have hnl:=hl.len
 have hmx:=hl.mx
 have hsl:=eB l
 have hs8:(bh l).map (· %2^8)=bh l:=vD (λ x hx=>by have:=iM (iK (gZ l hl.mx)) x hx;omega)
 have hP:om l 1=uv l.length++(uv 1++(uv (bh l).length++(bh l++er 1 (k9 l (dE l.length))))):=by rw [Js,u7,if_pos rfl,hs8];simp
 have hlt:∀ y∈om l 1,y<256:=oM (by decide)
 have hPl:=rF hl (k:=1) (by decide)
 have hPl2:=congrArg List.length hP
 simp only [length_append] at hPl2
 have hnb:dE l.length<=64:=by unfold dE;omega
 refine ae func210 rfl rfl ?_
 refine .Z rfl<| .h<| .z 1 rfl ?_
 have A1:=hs.oc [0] 1
 refine .c 0 (iZ _ _ _ _ _ (om l 1) (uv 1++(uv (bh l).length++(bh l++er 1 (k9 l (dE l.length))))) (l.length) 4096 A1 hb (hP) (hlt) (by omega) (hnl) (by omega)) rfl λ r1 _ h_1=> ?_
 obtain ⟨rfl,bv1,hbv1,p1⟩:=h_1
 have s1:=p1.join.od [0]
 refine .z 1 rfl ?_
 have A2:=s1.oc [0] 1
 refine .c 0 (iZ _ _ _ _ _ (uv 1++(uv (bh l).length++(bh l++er 1 (k9 l (dE l.length))))) (uv (bh l).length++(bh l++er 1 (k9 l (dE l.length)))) (1) 1 A2 hbv1 (rfl) (λ y hy=>hlt y (by rw [hP];exact mem_append_right _ hy)) (by simp only [length_append];omega) (by omega) (by omega)) rfl λ r2 _ h2=> ?_
 obtain ⟨rfl,bv_2,hbv2,p2⟩:=h2
 have s2:=p2.join.od [0]
 refine .e rfl (.build D5 rfl ⟨rfl,rfl,trivial⟩ rfl)<| .al 0 s2 rfl λ b1 _ s3 _ _=> ?_
 have s3d:=s3.mn
 refine .sa 0 s3d 1 (vs:=[(.int .i64 l.length),(.int .i64 (1:Nat)),(.slice none 0 0),(.slice none 0 0),(.int .i64 (0:Nat)),(.slice none 0 0)]) rfl (λ v h=>by simp only [mem_cons,not_mem_nil,or_false] at h;rcases h with rfl|rfl|rfl|rfl|rfl|rfl;exact rfl;exact rfl;exact rfl;exact rfl;exact rfl;exact rfl) λ _ s4 _=> ?_
 have s4d:=s4.sn
 refine .nil<| .seq<| .h<| .ld 1 s4d 1 rfl<| .Z rfl<| .dD rfl (rfl)<| .h<| .z 2 rfl ?_
 have A3:=s4d.oc [0,1] 1
 refine .c 0 (iZ _ _ _ _ _ (uv (bh l).length++(bh l++er 1 (k9 l (dE l.length)))) (bh l++er 1 (k9 l (dE l.length))) ((bh l).length) 1024 A3 hbv2 (rfl) (λ y hy=>hlt y (by rw [hP];exact mem_append_right _ (mem_append_right _ hy))) (by simp only [length_append];omega) (by omega) (by omega)) rfl λ r3 _ h3=> ?_
 obtain ⟨rfl,bv3,hbv3,p3⟩:=h3
 have s5:=p3.join.od [0,1]
 have A4:=s5.oc [0,1] 1
 refine .c 0 (oN _ _ _ _ _ (bh l++er 1 (k9 l (dE l.length))) (bh l) (er 1 (k9 l (dE l.length))) ((bh l).length) A4 hbv3 (rfl) (rfl) (by simp only [length_append];omega)) rfl λ r4 w6 h4=> ?_
 obtain ⟨hbr1,bv4,hbv4,p4⟩:=h4
 have s6:=p4.join.od [0,1]
 refine .ln 0 (hbr1.ext s6.ext) rfl<| .Z rfl<| .block ?_
 have s7:Sat w0 ([aj g 264 [bv4,(.bool true)],aj b1 245 [(.int .i64 l.length),(.int .i64 (1:Nat)),(.slice none 0 0),(.slice none 0 0),(.int .i64 (0:Nat)),(.slice none 0 0)],cL (Value.slice none 0 0) 3 (a8 .i64) ([])]++cs) _:=(s6.aH 3 (a8 .i64)).dm
 have s8:Sat w0 ([aj g 264 [bv4,(.bool true)],aj b1 245 [(.int .i64 l.length),(.int .i64 (1:Nat)),(.slice none 0 0),(.slice none 0 0),(.int .i64 (0:Nat)),(.slice none 0 0)],cL (Value.slice none 0 0) 3 (a8 .i64) ((bh l).take 0)]++cs) w6:=by
  have hq:[]=(bh l).take 0:=rfl
  rw [<-hq];exact s7
 refine .lq [0,4,23,24] rfl (α:=Nat×Value) (λ (k,lv)=>[(25,(.int .i64 k))]) (λ (k,lv) w'=>Sat w0 (s8.V [(1,aj b1 245 [(.int .i64 l.length),(.int .i64 (1:Nat)),lv,(.slice none 0 0),(.int .i64 (0:Nat)),(.slice none 0 0)]),(2,cL lv 3 (a8 .i64) ((bh l).take k))]++cs) w'/\(k<=(bh l).length)) (λ (k,lv)=>(bh l).length-k) (0,(.slice none 0 0)) ⟨s8,Nat.zero_le _⟩ ?_
 rintro ⟨k,lv⟩ w7 ⟨s9,hk⟩
 refine .Z rfl<| .seq<| .ab rfl (λ c1=> ?_) λ c1=> ?_
 ·refine .skip<| .seq<| .block<| .seq ?_
  obtain ⟨x,hx⟩:∃ x,(bh l)[k]? =some x:=⟨_,getElem?_eq_getElem c1⟩
  refine .region<| .ix 0 (hbr1.ext s9.ext) rfl<| .le 0 (hbr1.ext s9.ext) hx rfl<| .Z rfl ?_
  have hx15:=iM (iK (gZ l hl.mx)) x (aa hx)
  refine .region<| .ld 1 s9 1 rfl<| .b 2 rfl (.cM (a8 .i64) x bj rfl s9 rfl λ v1 _ s10 _=> ?_)
  have s10d:=s10.mn
  refine .ap 0 s10d 2 (s10d.ah 3 rfl) rfl λ v2 _ s11 _=> ?_
  have s11d:=(s11.sn).pt [0,1,2]
  refine .st 1 s11d 1 rfl (h1:=(s11d.ah 2 rfl).a7) λ w10 s12 _=> ?_
  have s12d:=s12.sn
  refine .nil<| .U rfl ?_
  have s13:=s12d.pt [0,1,2]
  have s14:Sat w0 ([aj g 264 [bv4,(.bool true)],aj b1 245 [(.int .i64 l.length),(.int .i64 (1:Nat)),v2,(.slice none 0 0),(.int .i64 (0:Nat)),(.slice none 0 0)],cL v2 3 (a8 .i64) ((bh l).take (k+1))]++cs) w10:=by
   have hq:(bh l).take k++[x]=(bh l).take (k+1):=by rw [au hx]
   rw [<-hq];exact s13
  exact bc (k+1,v2) ⟨s14,by omega⟩
 refine .ao<| .Z rfl<| .seq<| .Z rfl<| .block ?_
 have s15:Sat w0 ([aj g 264 [bv4,(.bool true)],aj b1 245 [(.int .i64 l.length),(.int .i64 (1:Nat)),lv,(.slice none 0 0),(.int .i64 (0:Nat)),(.slice none 0 0)],cL lv 3 (a8 .i64) (bh l)]++cs) w7:=by
  have hq:(bh l).take k=bh l:=by rw [show k=(bh l).length by omega,take_length]
  rw [<-hq];exact s9
 have s16:=(s15.aH 3 (a8 .i64)).mn
 have s17:Sat w0 ([aj g 264 [bv4,(.bool true)],aj b1 245 [(.int .i64 l.length),(.int .i64 (1:Nat)),lv,(.slice none 0 0),(.int .i64 (0:Nat)),(.slice none 0 0)],cL lv 3 (a8 .i64) (bh l),cL (Value.slice none 0 0) 3 (a8 .i64) (l.take (64*0))]++cs) w7:=by
  have hq:[]=l.take (64*0):=rfl
  rw [<-hq];exact s16
 refine .lq [0,4] rfl (α:=Nat×Value×Value) (λ (k,bv2,ov)=>[(7,ov),(8,(.int .i64 k))]) (λ (k,bv2,ov) w'=>Sat w0 (s17.V [(0,aj g 264 [bv2,(.bool true)]),(3,cL ov 3 (a8 .i64) (l.take (64*k)))]++cs) w'/\(k<=dE l.length)/\(RdL w0 bv2 (a8 .u8) (er 1 ((k9 l (dE l.length)).drop k)))) (λ (k,bv2,ov)=>dE l.length-k) (0,bv4,(.slice none 0 0)) ⟨s17,Nat.zero_le _,hbv4⟩ ?_
 rintro ⟨k,bv2,ov⟩ w11 ⟨s18,hk,hbv⟩
 refine .seq<| .h<| .ld 3 s18 0 rfl<| .ld 4 s18 1 rfl<| .Z rfl<| .ab rfl (λ c2=> ?_) λ c2=> ?_
 ·refine .skip<| .seq<| .block<| .Z rfl<| .Z rfl<| .seq<| .h<| .ld 1 s18 1 rfl<| .Z rfl<| .ak rfl (rfl)<| .seq ?_
  have hkN:k<dE l.length:=by unfold dE;omega
  have hd:=ym (kind:=1) (Ju (l:=l) hkN)
  rw [if_neg (by decide)] at hd
  have hdl:=mH 1 k (k9 l (dE l.length))
  have hdl1:=congrArg List.length hd
  simp only [length_append,aR] at hdl1
  have hcl:=cr l k
  have hok:=gZ l hl.mx
  have hhl:=fC (GoodLens.wC hok) (ez l k)
  refine .region<| .ld 4 s18 0 rfl<| .ln 0 (hbv.ext s18.ext) rfl<| .z 1 rfl ?_
  have A5:=s18.oc [0,1,2,3] 1
  refine .c 0 (iZ _ _ _ _ _ (er 1 ((k9 l (dE l.length)).drop k)) (aJ (cy (bh l) (ez l k))++er 1 ((k9 l (dE l.length)).drop (k+1))) ((cy (bh l) (ez l k)).length) (8*(er 1 ((k9 l (dE l.length)).drop k)).length) A5 hbv (hd) (λ y hy=>hlt y (by rw [hP];exact mem_append_right _ (mem_append_right _ (mem_append_right _ (mem_append_right _ (mG hy)))))) (by omega) (by omega) (by omega)) rfl λ r5 _ h5=> ?_
  obtain ⟨rfl,bv5,hbv5,p5⟩:=h5
  have s19:=p5.join.od [0,1,2,3]
  refine .Z rfl<| .dt [1,2,3] s19 rfl (pl [0,1,2,3,4,5,7,8,1006,1009,1010,11,12,13,14,15] .fin) λ s20 S1=> .ld 1 S1 0 rfl<| .z 3 S1 rfl<| .e rfl (λ _ s=> .quo (b:=8) rfl rfl (by omega) (by unfold bo;omega)) S1<| .z 2 S1 rfl ?_
  have A6:=s20.oc [0,1,2,3] 1
  refine .c 0 S1 (oN _ _ _ _ _ (aJ (cy (bh l) (ez l k))++er 1 ((k9 l (dE l.length)).drop (k+1))) (aJ (cy (bh l) (ez l k))) (er 1 ((k9 l (dE l.length)).drop (k+1))) (((cy (bh l) (ez l k)).length+7)/8) A6 hbv5 (rfl) (by rw [aR]) (by simp only [length_append,aR];omega)) rfl λ r6 _ h6=> ?_
  obtain ⟨hbr2,bv6,hbv6,p6⟩:=h6
  have s21:=p6.join.od [0,1,2,3]
  have S2:=s21.pt [1,2,3]
  refine ⟨S2,?_⟩
  refine .c 0 S2 (mE _ (l.length) (k) _ (s21.cell (i:=1) (j:=0) rfl rfl) (by omega) (by omega)) rfl λ r7 _ h7=> ?_
  obtain ⟨rfl,p7⟩:=h7
  have s22:=(s21.aD p7).mn
  have S3:=s22.pt [1,2,3]
  refine ⟨S3,?_⟩
  refine .c 0 S3 (sB _ _ (bh l) (aJ (cy (bh l) (ez l k))) (ez l k) ((cy (bh l) (ez l k)).length) ((min 64 (l.length-k*64))) _ (s22.ah 2 rfl) (hbr2.ext s22.ext) (by omega) (iK hok) (gA _) (by rw [aR];omega) (by rw [aR];omega) (by omega) (by rw [show min 64 (l.length-k*64)=(ez l k).length by rw [hcl];omega];exact CY (GoodLens.wC hok) _ (λ y hy=>(u5 hl.mx y (kS hy)).2))) rfl λ r8 _ h8=> ?_
  obtain ⟨dv1,rfl,p8⟩:=h8
  have s23:=(s22.aD p8).mn
  have S4:=s23.pt [1,2,3]
  refine ⟨S4,?_⟩
  refine .Z S4 rfl<| .seq<| .seq<| .trim [0,4,7,8,9,10,11] rfl<| .region<| .ld 3 s23 0 rfl<| .ln 7 (s23.ah 4 rfl) rfl<| .cm 1 s23 (mE _ (l.length) (k) _ (s23.cell (i:=1) (j:=0) rfl rfl) (by omega) (by omega)) rfl λ _ s24=> .Z rfl<| .ak rfl (decide_eq_false (λ h=>h (by rw [cr];omega)))<| .skip<| .region<| .ap 2 s24 3 (s24.ah 4 rfl) rfl λ v3 w17 s25 _=> ?_
  have s25d:=s25.sn
  refine .Z rfl<| .U rfl ?_
  have s26:=s25d.pt [0,1,2,3]
  have s27:Sat w0 ([aj g 264 [bv6,(.bool true)],aj b1 245 [(.int .i64 l.length),(.int .i64 (1:Nat)),lv,(.slice none 0 0),(.int .i64 (0:Nat)),(.slice none 0 0)],cL lv 3 (a8 .i64) (bh l),cL v3 3 (a8 .i64) (l.take (64*(k+1)))]++cs) w17:=by
   have hq:l.take (64*k)++ez l k=l.take (64*(k+1)):=yn l k
   rw [<-hq];exact s26
  exact bc (k+1,bv6,v3) ⟨s27,by omega,hbv6⟩
 refine .ao<| .seq<| .dt [0,1,2,3] s18 rfl (pl [0,1,2,3,4,5,6] .fin) λ s28 S5=> .ld 4 S5 0 rfl<| .Z S5 rfl<| .bG rfl rfl rfl ?_
 have s29:=s28.pt [0,3]
 have s30:Sat w0 ([aj g 264 [bv2,(.bool true)],cL ov 3 (a8 .i64) (l)]++cs) w11.drew:=by
  have hq:l.take (64*k)=l:=by rw [take_of_length_le (by omega)]
  rw [<-hq];exact s29
 exact ⟨_,rfl,_,s30⟩
theorem DL (w0 w:World) (cs:List Chunk) (g:Nat) (bv:Value) (l:List Nat) (hs:Sat w0 ([aj g 264 [bv,.bool true]]++cs) w) (hl:OkN l) (hb:RdL w0 bv (a8 .u8) (om l (bW l))):
  CallsV prog 210 [.pointer (some ⟨g,0,none⟩)] w λ r w'=>∃ v',r= .tuple #[v',.bool true]/\∃ bv',Sat w0 ([aj g 264 [bv',.bool true],cL v' 3 (a8 .i64) l]++cs) w':=by
 by_cases h:bW l=1
 ·rw [h] at hb;exact Fe w0 w cs g bv l hs hl hb
 have h0:bW l=0:=by have:=ed l;omega
 rw [h0] at hb;exact Fc w0 w cs g bv l hs hl hb
theorem gi {b p:List Nat} (he:b=aE p) (hp:∀ x∈p,x<256):∀ x∈b,x<256:=λ x hx=>by
 rw [he] at hx
 rcases mem_append.1 hx with hx|hx
 ·exact hp x hx
 exact ot _ x hx
theorem AP (v:Value) (b l:List Nat) (w:World) (hv:RdL w v (a8 .u8) b) (hl:OkN l) (he:b=aE (om l (bW l))):
  CallsV prog 153 [v] w λ r w'=>∃ g lv bv ps,r= .tuple #[.pointer (some ⟨g,0,none⟩),.int .i64 0]/\bB ps=l6 l/\Sat w [aj g 245 [(.int .i64 l.length),(.int .i64 (bW l)),lv,bv,(.int .i64 (0:Nat)),(.slice none 0 0)],cL lv 3 (a8 .i64) (du l),cL bv 248 (cO) (ps),cz (ps),cL (Value.slice none 0 0) 3 (a8 .i64) ([])] w':=by
 refine cc func153 rfl λ hs0=> .Z rfl<| .h<| .c 1 (sF _ (b) (om l (bW l)) _ (hv.ext hs0.ext) (he) (oM (ed l)) (by have:=rF hl (ed l);omega)) rfl λ r1 w1 h1=> ?_
 obtain ⟨uv1,rfl,p1⟩:=h1
 have s1:=hs0.aD p1
 refine .Z rfl<| .seq<| .Z rfl<| .ak rfl (rfl)<| .skip<| .seq ?_
 have hpay:=s1.ah 0 rfl
 have hv1:=hv.ext s1.ext
 have hsb:Sat w1 [] w1:=Sat.start _
 refine .region<| .a 1 rfl (.build Ov rfl ⟨(hpay.ext hsb.ext).a7,rfl,trivial⟩ rfl)<| .al 0 hsb rfl λ b1 _ s2 _ _=> .sa 0 s2 0 (vs:=[uv1,(.bool true)]) rfl (λ v h=>by simp only [mem_cons,not_mem_nil,or_false] at h;rcases h with rfl|rfl;exact (hpay.ext s2.ext).a7;exact rfl) λ _ s3 _=> ?_
 have s3:=s3.nn
 refine .nil<| .h ?_
 have A1:=s3.tail.oc [0] 1
 refine .c 0 (DL _ _ _ _ _ (l) A1 (hl) hpay) rfl λ r2 _ h2=> ?_
 obtain ⟨nv1,rfl,bv1,p2⟩:=h2
 have s4:=(Sat.order [0,1] (by decide) p2.join).aF.nn
 refine .Z rfl<| .seq<| .Z rfl<| .ak rfl (rfl)<| .skip<| .h<| .c 1 (yj _ (l) _ (s4.ah 1 rfl) (hl)) rfl λ r3 _ h3=> ?_
 obtain ⟨g1,lv1,bv2,ps1,rfl,hps1,p3⟩:=h3
 have s5:=s4.aD p3
 refine .Z rfl<| .seq<| .seq ?_
 have hbb:∀ x∈b,x<256:=λ x hx=>gi he (oM (ed l)) x hx
 have hsb2:∀ x∈aE (jy l.length (bW l) (du l) (bB ps1)),x<256:=λ x hx=>hbb x (by rw [he,<-xx,<-hps1];exact hx)
 refine .region<| .c 4 (sD g1 ((l).length) (bW l) lv1 bv2 (du l) ps1 _ (s5.cell (i:=2) (j:=0) rfl rfl) (s5.cell (i:=2) (j:=1) rfl rfl) (s5.cell (i:=2) (j:=2) rfl rfl) (s5.cell (i:=2) (j:=3) rfl rfl) (s5.ah 3 rfl) (s5.ah 4 rfl) (s5.kW 5 rfl) (hl.len) (ed _) (pH hl) ((xw hps1 hl).1) ((xw hps1 hl).2) (by rw [hps1];exact CO _)) rfl λ r4 _ h4=> ?_
 have s6:=s5.aD h4
 refine .cq 1 s6 (wT _ _ (aE (jy ((l).length) (bW l) (du l) (bB ps1))) (b) _ (s6.ah 7 rfl) (hv1.ext s6.ext) (hsb2) (hbb)) rfl λ _ s7=> .a 0 rfl (.jz rfl)<| .Z rfl<| .ak rfl (decide_eq_false (λ hne=>hne (by rw [hps1,xx,he])))<| .skip<| .Z rfl<| .bG rfl rfl rfl ?_
 exact ⟨g1,lv1,bv2,ps1,rfl,hps1,(s1.aD (s7.pk [2,3,4,5,6])).sub (.cons _ (.refl _))⟩
def dX (p:ByteArray):List ByteArray->List Nat->List Nat
 |x::W,c::C=>qB p x c++dX x W C
 |_,_=>[]
theorem ei {W:List ByteArray} {k:Nat} {x:ByteArray} (hx:W[k]? =some x):dW W (k+1)=x:=by
 unfold dW;rw [if_neg (by omega),Nat.add_sub_cancel,cx hx]
theorem C3 {W:List ByteArray} {C:List Nat} {k c:Nat} {x:ByteArray} (hx:W[k]? =some x) (hc:C[k]? =some c):dX (dW W k) (W.drop k) (C.drop k)=uv (cd (dW W k) x)++(uv (x.size-cd (dW W k) x)++(aV (x.extract (cd (dW W k) x) x.size)++(uv (c-1)++dX x (W.drop (k+1)) (C.drop (k+1))))):=by
 rw [fk hx,fk hc,dX,qB]
 simp only [append_assoc]
theorem kz {W:List ByteArray} {C:List Nat} (h:C.length=W.length):∀ k,k<=W.length->dF W C k++dX (dW W k) (W.drop k) (C.drop k)=uv W.length++dX (dW W 0) W C
 |0,_=>rfl
 |k+1,hk=>by
  rw [<-kz h k (by omega)]
  have hx:W[k]? =some W[k]:=getElem?_eq_getElem (by omega)
  have hc:C[k]? =some C[k]:=getElem?_eq_getElem (by omega)
  rw [C3 hx hc,dF,cx hx,cx hc,ei hx,qB]
  simp only [append_assoc]
theorem Ff {W:List ByteArray} {C:List Nat} (h:C.length=W.length):dF W C W.length=uv W.length++dX (dW W 0) W C:=by
 have:=kz h W.length (Nat.le_refl _)
 rw [drop_of_length_le (Nat.le_refl _)] at this
 simpa [dX] using this
theorem vE:∀ (a b:List UInt8),a.take (eY a b)=b.take (eY a b)
 |x::a,y::b=>by
  unfold eY
  split
  ·rename_i h;rw [take_succ_cons,take_succ_cons,h,vE a b]
  simp
 |[],_=>by simp [eY]
 |_::_,[]=>by simp [eY]
theorem yo:∀ (a b:List UInt8),eY a b<=a.length
 |x::a,y::b=>by
  have:=yo a b
  unfold eY
  split
  ·simp;omega
  omega
 |[],_=>by simp [eY]
 |_::_,[]=>by simp [eY]
theorem Fg (a b:ByteArray):cd a b<=a.size:=by have:=yo a.data.toList b.data.toList;rw [xY] at this;exact this
theorem gq (s:ByteArray):strOf (aV s)=s:=by unfold aV;rw [qg]
theorem wU (p x:ByteArray):p.extract 0 (cd p x)++strOf (aV (x.extract (cd p x) x.size))=x:=by
 rw [gq]
 refine iJ ?_
 have e:(p.extract 0 (cd p x)++x.extract (cd p x) x.size).data.toList=(p.extract 0 (cd p x)).data.toList++(x.extract (cd p x) x.size).data.toList:=by simp
 rw [e,nu,nu,drop_zero,Nat.sub_zero]
 have h:=vE p.data.toList x.data.toList
 show p.data.toList.take (eY p.data.toList x.data.toList)++_=_
 have h2:(x.data.toList.drop (cd p x)).take (x.size-cd p x)=x.data.toList.drop (cd p x):=take_of_length_le (by rw [length_drop,xY];exact Nat.le_refl _)
 rw [h,h2]
 exact take_append_drop _ _
theorem Fh {W:List ByteArray} {C:List Nat} {k c:Nat} {p x:ByteArray} (hx:W[k]? =some x) (hc:C[k]? =some c) (hp:p=dW W k):dX p (W.drop k) (C.drop k)=uv (cd p x)++(uv (x.size-cd p x)++(aV (x.extract (cd p x) x.size)++(uv (c-1)++dX x (W.drop (k+1)) (C.drop (k+1))))):=by
 subst hp;exact C3 hx hc
theorem dU {a b:List Nat} (ha:∀ y∈a,y<256) (hb:∀ y∈b,y<256):∀ y∈a++b,y<256:=λ y hy=>(mem_append.1 hy).elim (ha y) (hb y)
theorem IZ (p x:ByteArray) (c:Nat):∀ y∈qB p x c,y<256:=dU (dU (dU (cN _) (cN _)) (fQ _)) (cN _)
theorem kA:∀ (p:ByteArray) (W:List ByteArray) (C:List Nat),∀ y∈dX p W C,y<256
 |p,x::W,c::C=>dU (IZ p x c) (kA x W C)
 |_,[],_=>λ y h=>by simp [dX] at h
 |_,_::_,[]=>λ y h=>by simp [dX] at h
theorem jB:∀ (p:ByteArray) (W:List ByteArray) (C:List Nat),(∀ x∈W,x.size<=120)->(dX p W C).length<=W.length*150
 |p,x::W,c::C,h=>by
  have h1:=pZ p x c
  have h2:=h x (mem_cons_self ..)
  have h3:=jB x W C λ y hy=>h y (mem_cons_of_mem _ hy)
  simp only [dX,length_append,length_cons]
  omega
 |_,[],_,_=>by simp [dX]
 |_,_::_,[],_=>by simp [dX]
theorem DM {W:List ByteArray} (C:List Nat) (p:ByteArray) (k:Nat) (h:∀ x∈W,x.size<=120) (hn:W.length<=1024):(dX p (W.drop k) (C.drop k)).length<=153600:=by
 have h1:=jB p (W.drop k) (C.drop k) λ x hx=>h x (mem_of_mem_drop hx)
 rw [length_drop] at h1
 omega
theorem C4 {p:List Nat} (hp:∀ x∈p,x<256):∀ x∈aE p,x<256:=dU hp (ot _)
theorem ru (w0 w:World) (cs:List Chunk) (g:Nat) (bv:Value) (x lim:Nat) (rest:List Nat) (hs:Sat w0 ([aj g 261 [bv,.bool true]]++cs) w) (hb:RdL w0 bv (a8 .u8) (uv x++rest)) (hbb:∀ y∈uv x++rest,y<256) (hn:(uv x++rest).length<=1000000000) (hx64:x<2^64) (hxl:x<=lim) (hlim:lim<=1000000000000):
  CallsV prog 207 [(.pointer (some ⟨g,0,none⟩)),(.int .i64 lim)] w λ r w'=>r= .int .i64 ((x:Nat):Int)/\∃ bv',RdL w0 bv' (a8 .u8) rest/\Sat w0 ([aj g 261 [bv',.bool true]]++cs) w':=by
 refine ae func207 rfl rfl ?_
 refine .Z rfl<| .h<| .ld 3 hs 0 rfl<| .cm 0 hs (eZ _ (uv x++rest) _ (hb.ext hs.ext) (hbb)) rfl λ _ s1=> .Z rfl<| .seq<| .seq ?_
 have hu:=pM hx64 rest
 refine .weaken [(0,_),(1,_),(4,_),(5,(.int .u64 x)),(6,_),(7,_),(8,_),(9,_),(10,_),(11,_),(12,_),(13,_),(14,_),(15,_),(16,_)] ⟨rfl,rfl,rfl,congrArg some (congrArg (λ q:Nat×Nat×Nat=>Value.int .u64 ((q.1:Nat):Int)) hu),rfl,rfl,rfl,rfl,rfl,rfl,rfl,rfl,rfl,rfl,rfl,trivial⟩<| .weaken [(0,_),(1,_),(4,_),(5,_),(6,(.int .i64 ((uv x).length:Nat))),(7,_),(8,_),(9,_),(10,_),(11,_),(12,_),(13,_),(14,_),(15,_),(16,_)] ⟨rfl,rfl,rfl,rfl,congrArg some (congrArg (λ q:Nat×Nat×Nat=>Value.int .i64 ((q.2.1:Nat):Int)) hu),rfl,rfl,rfl,rfl,rfl,rfl,rfl,rfl,rfl,rfl,trivial⟩<| .weaken [(0,_),(1,_),(4,_),(5,_),(6,_),(7,(.int .i64 (0:Nat))),(8,_),(9,_),(10,_),(11,_),(12,_),(13,_),(14,_),(15,_),(16,_)] ⟨rfl,rfl,rfl,rfl,rfl,congrArg some (congrArg (λ q:Nat×Nat×Nat=>Value.int .i64 ((q.2.2:Nat):Int)) hu),rfl,rfl,rfl,rfl,rfl,rfl,rfl,rfl,rfl,trivial⟩<| .region<| .ld 3 s1 0 rfl<| .Z rfl<| .ak rfl (decide_eq_false (Nat.not_lt.2 hxl))<| .skip<| .h<| .ld 4 s1 0 rfl<| .a 1 rfl (.bk (E:=a8 .u8) (a:=(uv x).length) (c:=(uv x++rest).length) cg rfl (hb.ext s1.ext) ⟨_,rfl⟩ rfl (by rw [length_append];omega) (Nat.le_refl _))<| .st 2 s1 0 rfl (h1:=(((hb.ext s1.ext)).sub (a:=(uv x).length) (b:=(uv x++rest).length) (by rw [length_append];omega) (Nat.le_refl _)).a7) λ _ s2 _=> ?_
 have s2d:=s2.sn
 refine .nil<| .Z rfl<| .aC rfl rfl ?_
 have s3:=s2d.pt [0]
 refine ⟨rfl,_,?_,s3⟩
 have hsub:=hb.sub (a:=(uv x).length) (b:=(uv x++rest).length) (by rw [length_append];omega) (Nat.le_refl _)
 rw [take_length,drop_left] at hsub
 exact hsub
theorem Fi (w0 w:World) (cs:List Chunk) (g:Nat) (bv:Value) (n:Nat) (s rest:List Nat) (hs:Sat w0 ([aj g 261 [bv,.bool true]]++cs) w) (hb:RdL w0 bv (a8 .u8) (s++rest)) (hbb:∀ y∈s++rest,y<256) (hn:(s++rest).length<=1000000000) (hns:n=s.length):
  CallsV prog 208 [(.pointer (some ⟨g,0,none⟩)),(.int .i64 n)] w λ r w'=>r= .string (strOf s)/\∃ bv',RdL w0 bv' (a8 .u8) rest/\Sat w0 ([aj g 261 [bv',.bool true]]++cs) w':=by
 refine ae func208 rfl rfl ?_
 refine .Z rfl<| .seq<| .h<| .ld 3 hs 0 rfl<| .ld 6 hs 0 rfl<| .ln 0 (hb.ext hs.ext) rfl<| .Z rfl<| .ak rfl (decide_eq_false (by rw [length_append];omega))<| .skip<| .h<| .ld 3 hs 0 rfl<| .a 1 rfl (.bk (E:=a8 .u8) (a:=0) (c:=n) cg rfl (hb.ext hs.ext) rfl ⟨_,rfl⟩ (by omega) (by rw [length_append];omega))<| .e rfl (.dw underlying45 underlying9 underlying5 rfl (((hb.ext hs.ext)).sub (a:=0) (b:=n) (by omega) (by rw [length_append];omega)))<| .Z rfl<| .h<| .ld 4 hs 0 rfl<| .a 1 rfl (.bk (E:=a8 .u8) (a:=n) (c:=(s++rest).length) cg rfl (hb.ext hs.ext) ⟨_,rfl⟩ rfl (by rw [length_append];omega) (Nat.le_refl _))<| .st 2 hs 0 rfl (h1:=(((hb.ext hs.ext)).sub (a:=n) (b:=(s++rest).length) (by rw [length_append];omega) (Nat.le_refl _)).a7) λ _ s1 _=> ?_
 have s1d:=s1.sn
 refine .nil<| .Z rfl<| .aC rfl rfl ?_
 have s2:=s1d.pt [0]
 refine ⟨by rw [hns,take_left,drop_zero],_,?_,s2⟩
 have hsub:=hb.sub (a:=n) (b:=(s++rest).length) (by rw [length_append];omega) (Nat.le_refl _)
 rw [take_length,show List.drop n (s++rest)=rest by rw [hns,drop_left]] at hsub
 exact hsub
theorem J0 (v:Value) (b:List Nat) (W:List ByteArray) (C:List Nat) (w:World) (hv:RdL w v (a8 .u8) b) (he:b=aE (dF W C W.length)) (hok:okW W) (hCl:C.length=W.length) (hsz:∀ x∈W,x.size<=120) (hC:∀ c∈C,1<=c/\c<=4096) (hsum:C.sum<=4096) (hn:W.length<=1024):
  CallsV prog 152 [v] w λ r w'=>∃ g vw vc vo,r= .tuple #[.pointer (some ⟨g,0,none⟩),.int .i64 0]/\Sat w [aj g 166 [vw,vc,vo],cL vw 9 aB W,cL vc 3 (a8 .i64) C,cL vo 3 (a8 .i64) (ordN W)] w':=by
 refine cc func152 rfl λ hs0=> .Z rfl<| .seq ?_
 have hal:=fx C hsz W.length (Nat.le_refl _)
 refine .region<| .c 1 (sF _ (b) (dF W C W.length) _ (hv.ext hs0.ext) (he) (iX W C _) (by omega)) rfl λ r1 w1 h1=> ?_
 obtain ⟨uv1,rfl,p1⟩:=h1
 have s1:=hs0.aD p1
 refine .Z rfl<| .seq<| .Z rfl<| .ak rfl (rfl)<| .skip<| .seq ?_
 have hpay:=s1.ah 0 rfl
 rw [Ff hCl] at hpay
 have hv1:=hv.ext s1.ext
 have hsb:Sat w1 [] w1:=Sat.start _
 have hel0:=jB (dW W 0) W C hsz
 have huw:=aN W.length
 refine .region<| .a 1 rfl (.build Ou rfl ⟨(hpay.ext hsb.ext).a7,rfl,trivial⟩ rfl)<| .al 0 hsb rfl λ b1 _ s2 _ _=> .sa 0 s2 0 (vs:=[uv1,(.bool true)]) rfl (λ v h=>by simp only [mem_cons,not_mem_nil,or_false] at h;rcases h with rfl|rfl;exact (hpay.ext s2.ext).a7;exact rfl) λ _ s3 _=> ?_
 have s3:=s3.nn
 refine .nil<| .h<| .e rfl (.build Ly rfl trivial rfl)<| .bx 0 s3 rfl λ b2 _ s4 _ _=> .Z rfl<| .Z rfl<| .seq<| .h ?_
 have A1:=s4.tail.oc [0,1] 1
 refine .c 0 (ru _ _ _ _ _ (W.length) (1024) (dX (dW W 0) W C) A1 hpay (dU (cN _) (kA _ _ _)) (by simp only [length_append,az,ByteArray.size_extract];omega) (by omega) (by omega) (by omega)) rfl λ r2 _ h2=> ?_
 obtain ⟨rfl,bv1,hbv1,p2⟩:=h2
 have s5:=(Sat.order [0,1] (by decide) p2.join).aF.nn
 refine .Z rfl<| .block ?_
 have s6:=s5.aH 9 (aB)
 have s7:=s6.aH 3 (a8 .i64)
 have s8:=s7.cF 2 rfl (show []=W.take 0 from rfl)
 have s9:=s8.cF 3 rfl (show []=C.take 0 from rfl)
 refine .lq [0,6,7] rfl (α:=Nat×Value×ByteArray×Nat×Value×Value) (λ (k,bv,p,z,vw,vc)=>[(8,(.string p)),(9,(.int .i64 z)),(10,(.int .i64 ((W.length-k):Nat)))]) (λ (k,bv,p,z,vw,vc) w'=>Sat w1 [aj b1 261 [bv,(.bool true)],aj b2 166 [vw,vc,(.slice none 0 0)],cL vw 9 (aB) (W.take k),cL vc 3 (a8 .i64) (C.take k)] w'/\(k<=W.length)/\(RdL w1 bv (a8 .u8) (dX p (W.drop k) (C.drop k)))/\(p=dW W k)/\(p.size<=120)/\(z=(C.take k).sum)) (λ (k,bv,p,z,vw,vc)=>W.length-k) (0,bv1,(ByteArray.mk #[]),0,(.slice none 0 0),(.slice none 0 0)) ⟨s9,Nat.zero_le _,by rw [drop_zero,drop_zero];exact hbv1,rfl,by decide,rfl⟩ ?_
 rintro ⟨k,bv,p,z,vw,vc⟩ w6 ⟨s10,hk,hbv,hp,hpl,hz⟩
 refine .seq<| .h<| .z 3 rfl<| .B 28 rfl (λ g1=> ?_) λ g1=> ?_
 ·refine .ld 1 s10 0 rfl<| .Z rfl<| .dD rfl (rfl)<| .skip<| .seq<| .block<| .seq ?_
  obtain ⟨x,hx⟩:∃ x,W[k]? =some x:=⟨_,getElem?_eq_getElem (by omega)⟩
  obtain ⟨c,hcc⟩:∃ c,C[k]? =some c:=⟨_,getElem?_eq_getElem (by omega)⟩
  have hxs:=hsz x (mem_of_getElem? hx)
  have hcb:=hC c (mem_of_getElem? hcc)
  have hcm:=rp p x
  have hcm1:=Fg p x
  have hel:=DM C x (k+1) hsz hn
  have hu1:=aN (cd p x)
  have hu2:=aN (x.size-cd p x)
  have hu3:=aN (c-1)
  have hsl:=ye C (k+1)
  rw [cK hcc] at hsl
  have hb1:=hbv
  rw [Fh hx hcc hp] at hb1
  refine .region<| .a 1 rfl (.bP underlying9 rfl) ?_
  have A2:=s10.tail.oc [0,1,2,3] 1
  refine .c 0 (ru _ _ _ _ _ (cd p x) (p.size) (uv (x.size-cd p x)++(aV (x.extract (cd p x) x.size)++(uv (c-1)++dX x (W.drop (k+1)) (C.drop (k+1))))) A2 hb1 (dU (cN _) (dU (cN _) (dU (fQ _) (dU (cN _) (kA _ _ _))))) (by simp only [length_append,az,ByteArray.size_extract];omega) (by omega) (by omega) (by omega)) rfl λ r3 _ h3=> ?_
  obtain ⟨rfl,bv2,hbv2,p3⟩:=h3
  have s11:=(Sat.order [0,1,2,3] (by decide) p3.join).aF.nn
  refine .Z rfl<| .seq<| .dk [1,2,3] s11 rfl (pl [0,1,2,1003,1004,5,6] .fin) λ s12 S1=> .z 2 S1 rfl<| .e rfl (λ _ s=> .gI (l:=0) (h:=(cd p x)) underlying9 rfl rfl ⟨_,rfl⟩ (by omega) (by omega)) S1 ?_
  have A3:=s12.tail.oc [0,1,2,3] 1
  refine .c 0 S1 (ru _ _ _ _ _ (x.size-cd p x) (120) (aV (x.extract (cd p x) x.size)++(uv (c-1)++dX x (W.drop (k+1)) (C.drop (k+1)))) A3 hbv2 (dU (cN _) (dU (fQ _) (dU (cN _) (kA _ _ _)))) (by simp only [length_append,az,ByteArray.size_extract];omega) (by omega) (by omega) (by omega)) rfl λ r4 _ h4=> ?_
  obtain ⟨rfl,bv3,hbv3,p4⟩:=h4
  have s13:=(Sat.order [0,1,2,3] (by decide) p4.join).aF.nn
  have S2:=s13.pk [1,2,3]
  refine ⟨S2,?_⟩
  have A4:=s13.tail.oc [0,1,2,3] 1
  refine .c 0 S2 (Fi _ _ _ _ _ ((x.size-cd p x)) (aV (x.extract (cd p x) x.size)) (uv (c-1)++dX x (W.drop (k+1)) (C.drop (k+1))) A4 hbv3 (dU (fQ _) (dU (cN _) (kA _ _ _))) (by simp only [length_append,az,ByteArray.size_extract];omega) (by rw [az,ByteArray.size_extract];omega)) rfl λ r5 _ h5=> ?_
  obtain ⟨rfl,bv4,hbv4,p5⟩:=h5
  have s14:=(Sat.order [0,1,2,3] (by decide) p5.join).aF.nn
  have S3:=s14.pk [1,2,3]
  refine ⟨S3,?_⟩
  refine .e rfl (λ _ s=> .I9 rfl rfl (by rw [gq,ByteArray.size_extract,ByteArray.size_extract];omega)) S3<| .Z S3 rfl<| .seq<| .weaken [(0,_),(6,_),(7,_),(8,_),(9,_),(10,_),(11,_),(12,(.string x)),(26,_),(27,_),(28,_),(29,_),(30,_),(34,_),(35,_),(36,_),(37,_),(38,_),(39,_),(40,_),(41,_),(42,_)] ⟨rfl,rfl,rfl,rfl,rfl,rfl,rfl,congrArg some (congrArg Value.string (wU p x)),rfl,rfl,rfl,rfl,rfl,rfl,rfl,rfl,rfl,rfl,rfl,rfl,rfl,rfl,trivial⟩<| .region ?_
  have A5:=s14.tail.oc [0,1,2,3] 1
  refine .c 0 (ru _ _ _ _ _ (c-1) (4095) (dX x (W.drop (k+1)) (C.drop (k+1))) A5 hbv4 (dU (cN _) (kA _ _ _)) (by simp only [length_append,az,ByteArray.size_extract];omega) (by omega) (by omega) (by omega)) rfl λ r6 _ h6=> ?_
  obtain ⟨rfl,bv5,hbv5,p6⟩:=h6
  have s15:=(Sat.order [0,1,2,3] (by decide) p6.join).aF.nn
  refine .Z rfl<| .seq<| .weaken [(0,_),(6,_),(7,_),(8,_),(9,_),(10,_),(11,_),(12,_),(13,(.int .i64 c)),(26,_),(27,_),(28,_),(29,_),(30,_),(34,_),(35,_),(36,_),(37,_),(38,_),(39,_),(40,_),(41,_),(42,_),(43,_),(44,_)] ⟨rfl,rfl,rfl,rfl,rfl,rfl,rfl,rfl,congrArg some (congrArg (λ q:Nat=>Value.int .i64 (q:Int)) (show c-1+1=c by omega)),rfl,rfl,rfl,rfl,rfl,rfl,rfl,rfl,rfl,rfl,rfl,rfl,rfl,rfl,rfl,rfl,trivial⟩<| .U rfl<| .seq<| .seq ?_
  rcases Nat.eq_zero_or_pos k with hk0|hk0
  ·refine .region<| .ld 3 s15 1 rfl<| .ln 0 (s15.ah 2 rfl) rfl<| .z 2 rfl<| .Gf 54 rfl (decide_eq_false (by rw [length_take];omega))<| .a 6 rfl (.bP underlying9 rfl)<| .z 3 rfl<| .Gf 64 rfl (decide_eq_false (by omega))<| .cp 1 s15 (gO x _ (by omega)) rfl λ _ s16=> .a 0 rfl (.cB rfl)<| .z 2 rfl<| .Gf 69 rfl (by rw [hok.2 x (mem_of_getElem? hx)]<;>rfl)<| .Z rfl<| .ak rfl (decide_eq_false (by omega))<| .skip<| .seq<| .trim [0,6,7,8,9,10,11,12,13] rfl ?_
   have hshp1:=(s16.ah (E:=aB) 2 rfl).iR (by decide)
   have hshp2:=(s16.ah (E:=a8 .i64) 3 rfl).iR (by decide)
   refine .jj [0,1] [0] s16 rfl rfl 18 (pl [0] (.loose 1 (pl [2,3,4,5,6] (.loose 9 (.loose 10 (.loose 11 (pl [12] (.loose 13 (.two 7 14 (.two 8 14 (pl [1014,1015] (.loose 16 (pl [17] (.bar 18 (pl [19,20,1021] .fin))))) (pl [1008,1015] (.loose 16 (pl [17] (.bar 18 (pl [19,20,1021] .fin)))))) (pl [1007,1008,1015] (.loose 16 (pl [17] (.bar 18 (pl [19,20,1021] .fin)))))))))))))) mixed (by kernel_rfl) ?_
   have s17:=s16.drew
   have S4:=s17.pk [0,1]
   refine .z 1 S4 rfl<| .loose rfl rfl rfl (λ _ s=> .move rfl) S4<| .ld 3 S4 1 rfl<| .z 1 S4 rfl<| .loose rfl rfl rfl (λ _ s=> .move rfl) S4<| .loose rfl rfl rfl (λ _ s=> .nilCheck rfl) S4<| .loose rfl rfl rfl (λ _ s=> .fieldAddr zZ rfl rfl) S4<| .ld 0 S4 1 rfl<| .loose rfl rfl rfl (λ _ s=> .move rfl) S4<| .two rfl rfl rfl rfl rfl rfl (OpE.cM (aB) x cE rfl s17 rfl λ v1 _ s18 _=> ?_) (OpE.cM (a8 .i64) c bj rfl s17 rfl λ v2 _ s19 _=> ?_)
   ·have S5:=s18.pk [0,1]
    refine ⟨S5,?_⟩
    refine .two rfl rfl rfl rfl rfl rfl (OpE.aL 2 cE s18 rfl rfl rfl underlying28 (s18.ah 4 rfl) (by simp only [length_append,length_take,length_cons,length_nil];omega) (by simp only [length_append,length_take,length_cons,length_nil];omega) λ v3 _ s20 _=> ?_) (OpE.cM (a8 .i64) c bj rfl s18 rfl λ v_4 _ s21 _=> ?_)
    ·have s20:=s20.pk [0,1,2,3]
     have S6:=s20.pk [0,1]
     refine ⟨S6,?_⟩
     refine .f rfl (.cM (a8 .i64) c bj rfl s20 rfl λ v5 _ s22 _=> ?_)
     have S7:=s22.pk [0,1]
     refine ⟨S7,?_⟩
     refine .f rfl (.aL 3 bj s22 rfl rfl rfl underlying22 (s22.ah 4 rfl) (by simp only [length_append,length_take,length_cons,length_nil];omega) (by simp only [length_append,length_take,length_cons,length_nil];omega) λ v6 _ s23 _=> ?_)
     have s23:=s23.pk [0,1,2,3]
     have S8:=s23.pk [0,1]
     refine ⟨S8,?_⟩
     refine .loose rfl rfl rfl (λ _ s=> .nilCheck rfl) S8<| .z 1 S8 rfl<| .bar rfl rfl rfl (OpE.aM qz s23 (i:=1) rfl rfl rfl ((s23.ah 2 rfl).a7) rfl λ _ s24 _=> ?_)
     have S9:=s24.pk [0]
     refine ⟨S9,?_⟩
     refine .z 2 S9 rfl<| .f rfl (.aM kf s24 (i:=1) rfl rfl rfl ((s24.ah 3 rfl).a7) rfl λ _ s25 _=> ?_)
     have S10:=s25.pk [0]
     refine ⟨S10,?_⟩
     refine .fin<| .U rfl<| .U rfl ?_
     have s26:=s25.cF 2 rfl (show W.take k++[x]=W.take (k+1) from (bC hx).symm)
     have s27:=s26.cF 3 rfl (show C.take k++[c]=C.take (k+1) from (bC hcc).symm)
     exact ⟨(k+1,bv5,x,(z+c),v3,v6),⟨rfl,rfl,congrArg some (congrArg (λ q:Nat=>Value.int .i64 (q:Int)) (show W.length-k-1=W.length-(k+1) by omega)),rfl,rfl,rfl,trivial⟩,⟨s27.pk [0,1,2,3],by omega,hbv5,(ei hx).symm,by omega,by rw [cK hcc,hz]⟩,by dsimp only;omega⟩
    have s21:=s21.nn
    have S11:=s21.pk [0,1]
    refine ⟨S11,?_⟩
    refine .f rfl (.aL 2 cE s21 rfl rfl rfl underlying28 (s21.ah 4 rfl) (by simp only [length_append,length_take,length_cons,length_nil];omega) (by simp only [length_append,length_take,length_cons,length_nil];omega) λ v7 _ s29 _=> ?_)
    have s29:=s29.pk [0,1,2,3,5]
    have S12:=s29.pk [0,1]
    refine ⟨S12,?_⟩
    refine .f rfl (.aL 3 bj s29 rfl rfl rfl underlying22 (s29.ah 4 rfl) (by simp only [length_append,length_take,length_cons,length_nil];omega) (by simp only [length_append,length_take,length_cons,length_nil];omega) λ v8 _ s30 _=> ?_)
    have s30:=s30.pk [0,1,2,3]
    have S13:=s30.pk [0,1]
    refine ⟨S13,?_⟩
    refine .loose rfl rfl rfl (λ _ s=> .nilCheck rfl) S13<| .z 1 S13 rfl<| .bar rfl rfl rfl (OpE.aM qz s30 (i:=1) rfl rfl rfl ((s30.ah 2 rfl).a7) rfl λ _ s31 _=> ?_)
    have S14:=s31.pk [0]
    refine ⟨S14,?_⟩
    refine .z 2 S14 rfl<| .f rfl (.aM kf s31 (i:=1) rfl rfl rfl ((s31.ah 3 rfl).a7) rfl λ _ s32 _=> ?_)
    have S15:=s32.pk [0]
    refine ⟨S15,?_⟩
    refine .fin<| .U rfl<| .U rfl ?_
    have s33:=s32.cF 2 rfl (show W.take k++[x]=W.take (k+1) from (bC hx).symm)
    have s34:=s33.cF 3 rfl (show C.take k++[c]=C.take (k+1) from (bC hcc).symm)
    exact ⟨(k+1,bv5,x,(z+c),v7,v8),⟨rfl,rfl,congrArg some (congrArg (λ q:Nat=>Value.int .i64 (q:Int)) (show W.length-k-1=W.length-(k+1) by omega)),rfl,rfl,rfl,trivial⟩,⟨s34.pk [0,1,2,3],by omega,hbv5,(ei hx).symm,by omega,by rw [cK hcc,hz]⟩,by dsimp only;omega⟩
   have S16:=s19.pk [0,1]
   refine ⟨S16,?_⟩
   refine .f rfl (.cM (aB) x cE rfl s19 rfl λ v9 _ s36 _=> ?_)
   have s36:=s36.nn
   have S17:=s36.pk [0,1]
   refine ⟨S17,?_⟩
   refine .f rfl (.aL 2 cE s36 rfl rfl rfl underlying28 (s36.ah 5 rfl) (by simp only [length_append,length_take,length_cons,length_nil];omega) (by simp only [length_append,length_take,length_cons,length_nil];omega) λ v10 _ s37 _=> ?_)
   have s37:=s37.pk [0,1,2,3,4]
   have S18:=s37.pk [0,1]
   refine ⟨S18,?_⟩
   refine .f rfl (.aL 3 bj s37 rfl rfl rfl underlying22 (s37.ah 4 rfl) (by simp only [length_append,length_take,length_cons,length_nil];omega) (by simp only [length_append,length_take,length_cons,length_nil];omega) λ v11 _ s38 _=> ?_)
   have s38:=s38.pk [0,1,2,3]
   have S19:=s38.pk [0,1]
   refine ⟨S19,?_⟩
   refine .loose rfl rfl rfl (λ _ s=> .nilCheck rfl) S19<| .z 1 S19 rfl<| .bar rfl rfl rfl (OpE.aM qz s38 (i:=1) rfl rfl rfl ((s38.ah 2 rfl).a7) rfl λ _ s39 _=> ?_)
   have S20:=s39.pk [0]
   refine ⟨S20,?_⟩
   refine .z 2 S20 rfl<| .f rfl (.aM kf s39 (i:=1) rfl rfl rfl ((s39.ah 3 rfl).a7) rfl λ _ s40 _=> ?_)
   have S21:=s40.pk [0]
   refine ⟨S21,?_⟩
   refine .fin<| .U rfl<| .U rfl ?_
   have s41:=s40.cF 2 rfl (show W.take k++[x]=W.take (k+1) from (bC hx).symm)
   have s42:=s41.cF 3 rfl (show C.take k++[c]=C.take (k+1) from (bC hcc).symm)
   exact ⟨(k+1,bv5,x,(z+c),v10,v11),⟨rfl,rfl,congrArg some (congrArg (λ q:Nat=>Value.int .i64 (q:Int)) (show W.length-k-1=W.length-(k+1) by omega)),rfl,rfl,rfl,trivial⟩,⟨s42.pk [0,1,2,3],by omega,hbv5,(ei hx).symm,by omega,by rw [cK hcc,hz]⟩,by dsimp only;omega⟩
  obtain ⟨y,hy⟩:∃ y,W[k-1]? =some y:=⟨_,getElem?_eq_getElem (by omega)⟩
  have hpy:p=y:=by rw [hp];unfold dW;rw [if_neg (by omega),cx hy]
  have hlt:=hok.1.lt hy hx (by omega)
  rw [<-hpy] at hlt
  refine .region<| .ld 3 s15 1 rfl<| .ln 0 (s15.ah 2 rfl) rfl<| .z 2 rfl<| .Gt 54 rfl (decide_eq_true (by rw [length_take];omega))<| .a 2 rfl (.Nv rfl rfl)<| .z 2 rfl<| .Gf 59 rfl (decide_eq_false (λ h9=>h9 hlt))<| .a 1 rfl (.bP underlying9 rfl)<| .z 3 rfl<| .Gf 64 rfl (decide_eq_false (by omega))<| .cp 1 s15 (gO x _ (by omega)) rfl λ _ s44=> .a 0 rfl (.cB rfl)<| .z 2 rfl<| .Gf 69 rfl (by rw [hok.2 x (mem_of_getElem? hx)]<;>rfl)<| .Z rfl<| .ak rfl (decide_eq_false (by omega))<| .skip<| .seq<| .trim [0,6,7,8,9,10,11,12,13] rfl ?_
  have hshp3:=(s44.ah (E:=aB) 2 rfl).iR (by decide)
  have hshp4:=(s44.ah (E:=a8 .i64) 3 rfl).iR (by decide)
  refine .jj [0,1] [0] s44 rfl rfl 18 (pl [0] (.loose 1 (pl [2,3,4,5,6] (.loose 9 (.loose 10 (.loose 11 (pl [12] (.loose 13 (.two 7 14 (.two 8 14 (pl [1014,1015] (.loose 16 (pl [17] (.bar 18 (pl [19,20,1021] .fin))))) (pl [1008,1015] (.loose 16 (pl [17] (.bar 18 (pl [19,20,1021] .fin)))))) (pl [1007,1008,1015] (.loose 16 (pl [17] (.bar 18 (pl [19,20,1021] .fin)))))))))))))) mixed (by kernel_rfl) ?_
  have s45:=s44.drew
  have S22:=s45.pk [0,1]
  refine .z 1 S22 rfl<| .loose rfl rfl rfl (λ _ s=> .move rfl) S22<| .ld 3 S22 1 rfl<| .z 1 S22 rfl<| .loose rfl rfl rfl (λ _ s=> .move rfl) S22<| .loose rfl rfl rfl (λ _ s=> .nilCheck rfl) S22<| .loose rfl rfl rfl (λ _ s=> .fieldAddr zZ rfl rfl) S22<| .ld 0 S22 1 rfl<| .loose rfl rfl rfl (λ _ s=> .move rfl) S22<| .two rfl rfl rfl rfl rfl rfl (OpE.cM (aB) x cE rfl s45 rfl λ v12 _ s46 _=> ?_) (OpE.cM (a8 .i64) c bj rfl s45 rfl λ v13 _ s47 _=> ?_)
  ·have S23:=s46.pk [0,1]
   refine ⟨S23,?_⟩
   refine .two rfl rfl rfl rfl rfl rfl (OpE.aL 2 cE s46 rfl rfl rfl underlying28 (s46.ah 4 rfl) (by simp only [length_append,length_take,length_cons,length_nil];omega) (by simp only [length_append,length_take,length_cons,length_nil];omega) λ v14 _ s48 _=> ?_) (OpE.cM (a8 .i64) c bj rfl s46 rfl λ v15 _ s49 _=> ?_)
   ·have s48:=s48.pk [0,1,2,3]
    have S24:=s48.pk [0,1]
    refine ⟨S24,?_⟩
    refine .f rfl (.cM (a8 .i64) c bj rfl s48 rfl λ v16 _ s50 _=> ?_)
    have S25:=s50.pk [0,1]
    refine ⟨S25,?_⟩
    refine .f rfl (.aL 3 bj s50 rfl rfl rfl underlying22 (s50.ah 4 rfl) (by simp only [length_append,length_take,length_cons,length_nil];omega) (by simp only [length_append,length_take,length_cons,length_nil];omega) λ v17 _ s51 _=> ?_)
    have s51:=s51.pk [0,1,2,3]
    have S26:=s51.pk [0,1]
    refine ⟨S26,?_⟩
    refine .loose rfl rfl rfl (λ _ s=> .nilCheck rfl) S26<| .z 1 S26 rfl<| .bar rfl rfl rfl (OpE.aM qz s51 (i:=1) rfl rfl rfl ((s51.ah 2 rfl).a7) rfl λ _ s52 _=> ?_)
    have S27:=s52.pk [0]
    refine ⟨S27,?_⟩
    refine .z 2 S27 rfl<| .f rfl (.aM kf s52 (i:=1) rfl rfl rfl ((s52.ah 3 rfl).a7) rfl λ _ s53 _=> ?_)
    have S28:=s53.pk [0]
    refine ⟨S28,?_⟩
    refine .fin<| .U rfl<| .U rfl ?_
    have s54:=s53.cF 2 rfl (show W.take k++[x]=W.take (k+1) from (bC hx).symm)
    have s55:=s54.cF 3 rfl (show C.take k++[c]=C.take (k+1) from (bC hcc).symm)
    exact ⟨(k+1,bv5,x,(z+c),v14,v17),⟨rfl,rfl,congrArg some (congrArg (λ q:Nat=>Value.int .i64 (q:Int)) (show W.length-k-1=W.length-(k+1) by omega)),rfl,rfl,rfl,trivial⟩,⟨s55.pk [0,1,2,3],by omega,hbv5,(ei hx).symm,by omega,by rw [cK hcc,hz]⟩,by dsimp only;omega⟩
   have s49:=s49.nn
   have S29:=s49.pk [0,1]
   refine ⟨S29,?_⟩
   refine .f rfl (.aL 2 cE s49 rfl rfl rfl underlying28 (s49.ah 4 rfl) (by simp only [length_append,length_take,length_cons,length_nil];omega) (by simp only [length_append,length_take,length_cons,length_nil];omega) λ v18 _ s57 _=> ?_)
   have s57:=s57.pk [0,1,2,3,5]
   have S30:=s57.pk [0,1]
   refine ⟨S30,?_⟩
   refine .f rfl (.aL 3 bj s57 rfl rfl rfl underlying22 (s57.ah 4 rfl) (by simp only [length_append,length_take,length_cons,length_nil];omega) (by simp only [length_append,length_take,length_cons,length_nil];omega) λ v19 _ s58 _=> ?_)
   have s58:=s58.pk [0,1,2,3]
   have S31:=s58.pk [0,1]
   refine ⟨S31,?_⟩
   refine .loose rfl rfl rfl (λ _ s=> .nilCheck rfl) S31<| .z 1 S31 rfl<| .bar rfl rfl rfl (OpE.aM qz s58 (i:=1) rfl rfl rfl ((s58.ah 2 rfl).a7) rfl λ _ s59 _=> ?_)
   have S32:=s59.pk [0]
   refine ⟨S32,?_⟩
   refine .z 2 S32 rfl<| .f rfl (.aM kf s59 (i:=1) rfl rfl rfl ((s59.ah 3 rfl).a7) rfl λ _ s60 _=> ?_)
   have S33:=s60.pk [0]
   refine ⟨S33,?_⟩
   refine .fin<| .U rfl<| .U rfl ?_
   have s61:=s60.cF 2 rfl (show W.take k++[x]=W.take (k+1) from (bC hx).symm)
   have s62:=s61.cF 3 rfl (show C.take k++[c]=C.take (k+1) from (bC hcc).symm)
   exact ⟨(k+1,bv5,x,(z+c),v18,v19),⟨rfl,rfl,congrArg some (congrArg (λ q:Nat=>Value.int .i64 (q:Int)) (show W.length-k-1=W.length-(k+1) by omega)),rfl,rfl,rfl,trivial⟩,⟨s62.pk [0,1,2,3],by omega,hbv5,(ei hx).symm,by omega,by rw [cK hcc,hz]⟩,by dsimp only;omega⟩
  have S34:=s47.pk [0,1]
  refine ⟨S34,?_⟩
  refine .f rfl (.cM (aB) x cE rfl s47 rfl λ v20 _ s64 _=> ?_)
  have s64:=s64.nn
  have S35:=s64.pk [0,1]
  refine ⟨S35,?_⟩
  refine .f rfl (.aL 2 cE s64 rfl rfl rfl underlying28 (s64.ah 5 rfl) (by simp only [length_append,length_take,length_cons,length_nil];omega) (by simp only [length_append,length_take,length_cons,length_nil];omega) λ v21 _ s65 _=> ?_)
  have s65:=s65.pk [0,1,2,3,4]
  have S36:=s65.pk [0,1]
  refine ⟨S36,?_⟩
  refine .f rfl (.aL 3 bj s65 rfl rfl rfl underlying22 (s65.ah 4 rfl) (by simp only [length_append,length_take,length_cons,length_nil];omega) (by simp only [length_append,length_take,length_cons,length_nil];omega) λ v22 _ s66 _=> ?_)
  have s66:=s66.pk [0,1,2,3]
  have S37:=s66.pk [0,1]
  refine ⟨S37,?_⟩
  refine .loose rfl rfl rfl (λ _ s=> .nilCheck rfl) S37<| .z 1 S37 rfl<| .bar rfl rfl rfl (OpE.aM qz s66 (i:=1) rfl rfl rfl ((s66.ah 2 rfl).a7) rfl λ _ s67 _=> ?_)
  have S38:=s67.pk [0]
  refine ⟨S38,?_⟩
  refine .z 2 S38 rfl<| .f rfl (.aM kf s67 (i:=1) rfl rfl rfl ((s67.ah 3 rfl).a7) rfl λ _ s68 _=> ?_)
  have S39:=s68.pk [0]
  refine ⟨S39,?_⟩
  refine .fin<| .U rfl<| .U rfl ?_
  have s69:=s68.cF 2 rfl (show W.take k++[x]=W.take (k+1) from (bC hx).symm)
  have s70:=s69.cF 3 rfl (show C.take k++[c]=C.take (k+1) from (bC hcc).symm)
  exact ⟨(k+1,bv5,x,(z+c),v21,v22),⟨rfl,rfl,congrArg some (congrArg (λ q:Nat=>Value.int .i64 (q:Int)) (show W.length-k-1=W.length-(k+1) by omega)),rfl,rfl,rfl,trivial⟩,⟨s70.pk [0,1,2,3],by omega,hbv5,(ei hx).symm,by omega,by rw [cK hcc,hz]⟩,by dsimp only;omega⟩
 refine .Z rfl<| .ak rfl (rfl)<| .ao<| .seq<| .seq ?_
 have s72:=s10.cF 2 rfl (show W.take k=W from by rw [show k=W.length by omega,take_length])
 have s73:=s72.cF 3 rfl (show C.take k=C from by rw [show k=C.length by omega,take_length])
 have s74:=s73.aH 3 (a8 .i64)
 refine .region<| .ld 1 s74 0 rfl<| .c 3 (vA _ _ _ _ _ _ _ _ (s74.wH 1 2 3 4 rfl rfl rfl rfl) hCl hsz (λ c hc=>⟨(hC c hc).1,by have:=(hC c hc).2;omega⟩) (by omega)) rfl λ r9 _ h_9=> ?_
 have s75:=(s74.aD h_9).nn
 refine .cp 1 s75 (wT _ _ (aE (dF W C W.length)) (b) _ (s75.ah 5 rfl) (hv1.ext s75.ext) (C4 (iX W C _)) (by rw [he];exact C4 (iX W C _))) rfl λ _ s76=> .a 0 rfl (.jz rfl)<| .Z rfl<| .ak rfl (decide_eq_false (λ h9=>h9 he.symm))<| .skip<| .h<| .z 1 rfl ?_
 have A6:=s76.tail.oc [1,2,0,3,4,5] 2
 refine .c 0 (vz _ _ _ _ _ _ (W) A6 (hok) (λ x hx=>Nat.le_trans (hsz x hx) (by decide)) (by omega) ((s76.ah 3 rfl).a7)) rfl λ r11 _ h11=> ?_
 obtain ⟨rfl,vo1,p11⟩:=h11
 have s77:=(Sat.order [3,0,1,4,5,6,2] (by decide) p11.join).aF.nn
 refine .nil<| .Z rfl<| .bG rfl rfl rfl ?_
 exact ⟨_,_,_,_,rfl,(s1.aD (s77.pk [1,2,3,6])).sub (.cons _ (.refl _))⟩
theorem Fj {p x y:ByteArray} {c d:Nat} {r s:List Nat} (hp:p.size<2^32) (hx:x.size<=120) (hy:y.size<=120) (hc:c<2^32) (hd:d<2^32) (h:qB p x c++r=qB p y d++s):x=y/\r=s:=by
 have b1:=rp p x;have b2:=rp p y
 unfold qB at h
 simp only [append_assoc] at h
 obtain ⟨e1,h⟩:=cC (by omega) (by omega) h
 obtain ⟨e2,h⟩:=cC (by omega) (by omega) h
 obtain ⟨e3,h⟩:=append_inj h (by rw [az,az,ByteArray.size_extract,ByteArray.size_extract];omega)
 obtain ⟨_,h⟩:=cC (by omega) (by omega) h
 refine ⟨?_,h⟩
 rw [<-wU p x,<-wU p y,e3,e1]
theorem yp:∀ (W W':List ByteArray) (C C':List Nat) (p:ByteArray) (r s:List Nat),W.length=W'.length->C.length=W.length->C'.length=W'.length->p.size<2^32->(∀ x∈W,x.size<=120)->(∀ x∈W',x.size<=120)->(∀ c∈C,c<2^32)->(∀ c∈C',c<2^32)->dX p W C++r=dX p W' C'++s->W=W'
 |[],[],_,_,_,_,_,_,_,_,_,_,_,_,_,_=>rfl
 |[],_::_,_,_,_,_,_,h,_,_,_,_,_,_,_,_=>by cases h
 |_::_,[],_,_,_,_,_,h,_,_,_,_,_,_,_,_=>by cases h
 |_::_,_::_,[],_,_,_,_,_,h,_,_,_,_,_,_,_=>by cases h
 |_::_,_::_,_::_,[],_,_,_,_,_,h,_,_,_,_,_,_=>by cases h
 |x::W,y::W',c::C,d::C',p,r,s,h1,h2,h3,hp,hW,hW',hC,hC',h=>by
  rw [dX,dX,append_assoc,append_assoc] at h
  have hx:=hW x (by simp)
  obtain ⟨e,h4⟩:=Fj hp hx (hW' y (by simp)) (hC c (by simp)) (hC' d (by simp)) h
  subst e
  rw [yp W W' C C' x r s (by simpa using h1) (by simpa using h2) (by simpa using h3) (by omega) (λ z hz=>hW z (by simp [hz])) (λ z hz=>hW' z (by simp [hz])) (λ z hz=>hC z (by simp [hz])) (λ z hz=>hC' z (by simp [hz])) h4]
theorem Fk {W W':List ByteArray} {C C':List Nat} (h2:C.length=W.length) (h3:C'.length=W'.length) (hn:W.length<2^32) (hn':W'.length<2^32) (hW:∀ x∈W,x.size<=120) (hW':∀ x∈W',x.size<=120) (hC:∀ c∈C,c<2^32) (hC':∀ c∈C',c<2^32) (h:dF W C W.length=dF W' C' W'.length):W=W':=by
 have e1:=kz h2 W.length (Nat.le_refl _)
 have e2:=kz h3 W'.length (Nat.le_refl _)
 rw [drop_of_length_le (Nat.le_refl _),show dX (dW W W.length) [] (C.drop W.length)=[] by simp [dX],append_nil] at e1
 rw [drop_of_length_le (Nat.le_refl _),show dX (dW W' W'.length) [] (C'.drop W'.length)=[] by simp [dX],append_nil] at e2
 rw [e1,e2] at h
 obtain ⟨a1,a2⟩:=cC (by omega) (by omega) h
 exact yp W W' C C' (ByteArray.mk #[]) [] [] a1 h2 h3 (by decide) hW hW' hC hC' (by rw [append_nil,append_nil];exact a2)
def lexB (us:List ByteArray):List Nat:=aE (dF (aw us) (ba us) (aw us).length)
def bQ (l:List Nat):List Nat:=aE (om l (bW l))
theorem oO (us:List ByteArray):∀ c∈ba us,c<=us.length:=λ c hc=>by
 unfold ba at hc
 obtain ⟨w,_,rfl⟩:=mem_map.1 hc
 unfold mB
 exact countP_le_length
theorem AQ {us:List ByteArray} (h:us.length<=1024):OkN (cZ us):=by
 have h2:=bZ us
 refine ⟨by unfold cZ;rw [length_map];omega,λ x hx=> ?_⟩
 have:=rV x hx
 omega
theorem mI {us:List ByteArray} (h:xI us):(lexB us).length<=160000:=by
 have h1:=bZ us
 have h0:=h.1
 have h2:=fx (W:=aw us) (ba us) (λ x hx=>h.2 x (ck.1 hx)) _ (Nat.le_refl _)
 unfold lexB
 rw [aY];omega
theorem mJ {us:List ByteArray} (h:us.length<=1024):(bQ (cZ us)).length<=2000004:=by
 have:=rF (AQ h) (ed (cZ us))
 unfold bQ
 rw [aY];omega
theorem NS:XT lexB bQ where
 xl us h:=by have:=mI h;omega
 tl us h:=by have:=mJ h.1;omega
 xi us vs hu hv h:=by
  have h1:=bZ us
  have h2:=bZ vs
  have h3:=hu.1
  have h4:=hv.1
  exact Fk (eM us) (eM vs) (by omega) (by omega) (λ x hx=>hu.2 x (ck.1 hx)) (λ x hx=>hv.2 x (ck.1 hx)) (λ c hc=>by have:=oO us c hc;omega) (λ c hc=>by have:=oO vs c hc;omega) (pP h)
theorem J1 {j k:Nat} {a b:Co} (ha:OkC j a) (hb:OkC k b) (hj:j<=80) (hk:k<=80) (h:aE (di lexB bQ a.v)=aE (di lexB bQ b.v)):a.v=b.v:=
 (K6 NS (ha.Pb hj) (hb.Pb hk) (r:=[]) (s:=[]) (by rw [pP h])).1
def sG:Enc (Nat×Nat):=⟨2,λ x=>[.int .i64 (x.1:Int),.int .i64 (x.2:Int)],λ _=>rfl,λ x u h=>by simp at h;rcases h with rfl|rfl<;>rfl⟩
theorem J2 {l:List Nat} {k x:Nat} (hx:l[k]? =some x) (h:k%16=0):jA l (k+1)=jA l k++[(x,(dn 0 (l.take k)).length)]:=by
 rw [jA,if_pos h,getD_some hx]
theorem J3 {l:List Nat} {k:Nat} (h:¬ k%16=0):jA l (k+1)=jA l k:=by rw [jA,if_neg h]
theorem wV {l:List Nat} {k x:Nat} (hx:l[k]? =some x):dn 0 (l.take (k+1))=dn 0 (l.take k)++ff (x+1-zQ l k):=by rw [au hx,zP]<;>rfl
theorem vF (v:Value) (l:List Nat) (w:World) (hv:RdL w v (a8 .i64) l) (hl:OkP l):
  CallsV prog 81 [v] w λ r w'=>∃ g bv sv,r= .tuple #[.pointer (some ⟨g,0,none⟩),.int .i64 ((0:Nat):Int)]/\Sat w [aj g 173 [.int .i64 (l.length:Int),.int .i64 ((dn 0 l).length:Int),bv,sv],cL bv 5 (a8 .u8) (aJ (dn 0 l)),cL sv 192 sG (jA l l.length)] w':=by
 refine cc func81 rfl λ hs0=> .Z rfl<| .seq<| .seq ?_
 have hln:=hl.len
 refine .region<| .ln 1 (hv.ext hs0.ext) rfl<| .Z rfl<| .ak rfl (decide_eq_false (by have:=hl.len;omega))<| .skip<| .h<| .ln 1 (hv.ext hs0.ext) rfl<| .e rfl (.build On rfl ⟨rfl,trivial⟩ rfl)<| .bx 0 hs0 rfl λ b1 _ s1 _ _=> .Z rfl<| .h<| .c 0 (iW _) rfl λ r1 _ h_1=> ?_
 obtain ⟨b2,rfl,p1⟩:=h_1
 have s2:=s1.aD p1
 refine .Z rfl<| .Z rfl<| .seq<| .h<| .ln 1 (hv.ext s2.ext) rfl<| .Z rfl<| .block ?_
 have s3:=s2.aH 192 (sG)
 refine .lq [0,4,5,17,18] rfl (α:=Nat×Value×List Bool×Value×List (Nat×Nat)) (λ (k,wv,bits,sv,sk)=>[(6,(.int .i64 ((((zQ l k:Nat):Int)-1)))),(19,(.int .i64 k))]) (λ (k,wv,bits,sv,sk) w'=>Sat w [aj b1 173 [(.int .i64 l.length),(.int .i64 (0:Nat)),(.slice none 0 0),sv],aj b2 256 [wv,(.int .i64 ((bits).length:Nat))],cL wv 5 (a8 .u8) (aJ (bits)),cL sv 192 (sG) (sk)] w'/\(k<=l.length)/\(bits=dn 0 (l.take k))/\(sk=jA l k)/\(bits.length<=42*k)) (λ (k,wv,bits,sv,sk)=>l.length-k) (0,(.slice none 0 0),[],(.slice none 0 0),[]) ⟨s3,Nat.zero_le _,rfl,rfl,Nat.zero_le _⟩ ?_
 rintro ⟨k,wv,bits,sv,sk⟩ w3 ⟨s4,hk,hbits,hsk,hbl⟩
 refine .Z rfl<| .seq<| .ab rfl (λ c1=> ?_) λ c1=> ?_
 ·refine .skip<| .seq<| .block<| .seq ?_
  obtain ⟨x,hx⟩:∃ x,(l)[k]? =some x:=⟨_,getElem?_eq_getElem c1⟩
  have hx4:=hl.lt x (aa hx)
  have hbf:=BG hl hx
  have hdl:=CQ (v:=x+1-zQ l k) (by omega)
  refine .region<| .ix 1 (hv.ext s4.ext) rfl<| .le 0 (hv.ext s4.ext) hx rfl<| .Z rfl<| .seq<| .block<| .seq<| .bH 24 ((x<0)\/(2147483647<x)) ?_ ?_
  ·refine .z 3 rfl<| .B 27 rfl (λ g1=> ?_) λ g1=> ?_
   ·refine .M rfl (by simp [g1])
   refine .M rfl (by simp [g1])
  refine .ak rfl (decide_eq_false (by omega))<| .h<| .a 2 rfl (.leq rfl rfl)<| .Z rfl<| .ak rfl (decide_eq_false (by omega))<| .skip<| .seq<| .h<| .a 1 rfl (.rem (b:=16) rfl rfl (by omega))<| .Z rfl<| .ab rfl (λ c2=> ?_) λ c2=> ?_
  ·have hskl:sk.length=(k+15)/16:=by rw [hsk,ox]
   have hshp1:=(s4.ah (E:=sG) 3 rfl).iR (by decide)
   refine .jj [0,1,2] [1,2] s4 rfl rfl 13 (pl [0,1,2,3,4,5,6,1007,8,1009,1010] (.loose 11 (pl [12] (.bar 13 .fin)))) mixed (by kernel_rfl) ?_
   have s5:=s4.drew
   have S1:=s5.pk [0,1,2]
   refine .ld 4 S1 0 rfl<| .c 2 S1 (wS _ ((bits).length) _ (s5.cell (i:=1) (j:=1) rfl rfl)) rfl λ r2 _ h2=> ?_
   obtain ⟨rfl,p2⟩:=h2
   have s6:=(s5.aD p2).nn
   have S2:=s6.pk [0,1,2]
   refine ⟨S2,?_⟩
   refine .e rfl (λ _ s=> .build Oo rfl ⟨rfl,rfl,trivial⟩ rfl) S2<| .f rfl (.cD (sG) (x,bits.length) HN (by decide) (by decide) s6 rfl λ v1 _ s7 _=> ?_)
   have S3:=s7.pk [0,1,2]
   refine ⟨S3,?_⟩
   refine .f rfl (.aL 3 HN s7 rfl rfl rfl underlying171 (s7.ah 4 rfl) (by simp;omega) (by simp;omega) λ v2 _ s8 _=> ?_)
   have s8:=s8.pk [0,1,2,3]
   have S4:=s8.pk [0,1,2]
   refine ⟨S4,?_⟩
   refine .loose rfl rfl rfl (λ _ s=> .nilCheck rfl) S4<| .z 1 S4 rfl<| .bar rfl rfl rfl (OpE.aM N2 s8 (i:=0) rfl rfl rfl ((s8.ah 3 rfl).a7) rfl λ _ s9 _=> ?_)
   have S5:=s9.pk [1,2]
   refine ⟨S5,?_⟩
   refine .fin<| .h<| .a 3 rfl (.rZ rfl rfl (by omega) (by omega))<| .z 1 rfl ?_
   have A1:=s9.tail.oc [1,2,0,3] 2
   refine .c 0 (C2 _ _ _ _ _ (bits) ((x+1-zQ l k)) A1 (by omega) (by omega) (by omega)) rfl λ r3 _ h3=> ?_
   obtain ⟨rfl,wv1,p3⟩:=h3
   have s10:=(Sat.order [2,0,1,3] (by decide) p3.join).aF.nn
   refine .nil<| .U rfl<| .U rfl ?_
   exact ⟨(k+1,wv1,bits++ff ((x+1-zQ l k)),v2,sk++[(x,bits.length)]),⟨congrArg some (congrArg (Value.int .i64) (by rw [ow hx];omega)),rfl,rfl,rfl,rfl,rfl,rfl,trivial⟩,⟨s10,by omega,by rw [wV hx,hbits],by rw [J2 hx c2,hsk,hbits],by rw [length_append];omega⟩,by dsimp only;omega⟩
  refine .skip<| .h<| .a 3 rfl (.rZ rfl rfl (by omega) (by omega))<| .z 1 rfl ?_
  have A2:=s4.tail.oc [1,2,0,3] 2
  refine .c 0 (C2 _ _ _ _ _ (bits) ((x+1-zQ l k)) A2 (by omega) (by omega) (by omega)) rfl λ r4 _ h4=> ?_
  obtain ⟨rfl,wv2,p4⟩:=h4
  have s11:=(Sat.order [2,0,1,3] (by decide) p4.join).aF.nn
  refine .nil<| .U rfl<| .U rfl ?_
  exact ⟨(k+1,wv2,bits++ff ((x+1-zQ l k)),sv,sk),⟨congrArg some (congrArg (Value.int .i64) (by rw [ow hx];omega)),rfl,rfl,rfl,rfl,rfl,rfl,trivial⟩,⟨s11,by omega,by rw [wV hx,hbits],by rw [J3 c2,hsk],by rw [length_append];omega⟩,by dsimp only;omega⟩
 refine .ao<| .h<| .c 3 (oL _ _ (aJ (bits)) _ (s4.cell (i:=1) (j:=0) rfl rfl) (s4.ah 2 rfl) (by rw [aR];omega)) rfl λ r5 _ h5=> ?_
 have s12:=(s4.aD h5).nn
 refine .cp 1 s12 (wS _ ((bits).length) _ (s12.cell (i:=1) (j:=1) rfl rfl)) rfl λ _ s13=> .st 2 s13 0 rfl (h1:=(s13.ah 4 rfl).a7) λ _ s14 _=> .st 2 s14 0 rfl λ _ s15 _=> ?_
 have s15:=s15.nn
 refine .nil<| .Z rfl<| .bG rfl rfl rfl ?_
 have s16:=(Sat.order [0,4,3,1,2] (by decide) s15.tail).aF.pk [0,1,2]
 rw [show k=l.length by omega,take_length] at hbits
 rw [show k=l.length by omega] at hsk
 subst hbits hsk
 exact ⟨_,_,_,rfl,s16⟩
theorem yq (l:List Nat) {a b:Nat} (h:a<=b):(dn 0 (l.take a)).length<=(dn 0 (l.take b)).length:=by
 have e:l.take b=l.take a++(l.take b).drop a:=by
  have h9:=take_append_drop a (l.take b)
  rw [take_take,Nat.min_eq_left h] at h9
  exact h9.symm
 rw [e,xE,length_append];omega
theorem Fl {l:List Nat} (h:OkP l) {k:Nat} {x y:Nat×Nat} (hk:1<=k) (hx:(jA l l.length)[k]? =some x) (hy:(jA l l.length)[k-1]? =some y):y.1<=x.1/\y.2<=x.2/\x.1<4096/\x.2<=200000:=by
 obtain ⟨rfl,h1⟩:=rT l _ _ _ hx
 obtain ⟨rfl,h2⟩:=rT l _ _ _ hy
 have g1:l.getD (16*k) 0=l[16*k]:=getD_some (getElem?_eq_getElem h1)
 have g2:l.getD (16*(k-1)) 0=l[16*(k-1)]:=getD_some (getElem?_eq_getElem h2)
 have a1:=pairwise_iff_getElem.1 h.asc (16*(k-1)) (16*k) h2 h1 (by omega)
 have a2:=h.lt _ (getElem_mem h1)
 have a3:=kb (l.take (16*k)) 0 λ p hp=>h.lt p (mem_of_mem_take hp)
 have a4:=h.len
 rw [length_take] at a3
 exact ⟨by rw [g1,g2];omega,yq l (by omega),by rw [g1];exact a2,by simp only;omega⟩
def LV (l:List Nat):List Nat:=uv l.length++uv (dn 0 l).length++aJ (dn 0 l)
theorem Fm {s:List (Nat×Nat)} {k:Nat} {x y:Nat×Nat} (hk:1<=k) (hx:s[k]? =some x) (hy:s[k-1]? =some y):ED s (k+1)=ED s k++uv (x.1-y.1)++uv (x.2-y.2):=by
 rw [ED,if_neg (by omega),getD_eq_getElem?_getD,getD_eq_getElem?_getD,hx,hy]<;>rfl
theorem sI (g:Nat) (bv sv:Value) (l:List Nat) (w:World) (h0:w.cell? ⟨g,0,none⟩=some (.int .i64 (l.length:Int))) (h1:w.cell? ⟨g,1,none⟩=some (.int .i64 ((dn 0 l).length:Int))) (h2:w.cell? ⟨g,2,none⟩=some bv) (h3:w.cell? ⟨g,3,none⟩=some sv) (hbr:RdL w bv (a8 .u8) (aJ (dn 0 l))) (hsr:RdL w sv sG (jA l l.length)) (hl:OkP l):
  CallsV prog 82 [(.pointer (some ⟨g,0,none⟩))] w λ r w'=>Sat w [cL r 5 (a8 .u8) (aE (oy l))] w':=by
 refine cc func82 rfl λ hs0=> .Z rfl<| .seq ?_
 have hln:=hl.len
 have hgl:=kb l 0 hl.lt
 have hpl:=aR (dn 0 l)
 have hskl:=ox l l.length
 have hu1:=aN l.length
 have hu2:=aN (dn 0 l).length
 refine .region<| .a 3 rfl (.load fN rfl (hs0.ext _ _ h0))<| .c 1 (cS (Value.slice none 0 0) ([]) (l.length) _ (RdL.nil _ _) (by simp) (by omega)) rfl λ r1 _ h_1=> ?_
 have s1:=hs0.aD h_1
 refine .Z rfl<| .h<| .a 4 rfl (.load fN rfl (s1.ext _ _ h1))<| .c 1 (cS r1 (uv (l.length)) ((dn 0 l).length) _ (s1.ah 0 rfl) (by omega) (by omega)) rfl λ r2 _ h_2=> ?_
 have s2:=s1.aD h_2
 refine .Z rfl<| .h<| .a 4 rfl (.load BM rfl (s2.ext _ _ h2))<| .ap 0 s2 1 (hbr.ext s2.ext) rfl (h1:=by rw [length_append];omega) (h2:=by rw [length_append];omega) λ v1 _ s3 _=> .Z rfl<| .seq<| .Z rfl<| .block ?_
 refine .lq [0] rfl (α:=Nat×Value×List Nat) (λ (k,ov,acc)=>[(3,ov),(4,(.int .i64 k))]) (λ (k,ov,acc) w'=>Sat w [cL ov 5 (a8 .u8) (acc)] w'/\(1<=k)/\(k<=(jA l l.length).length\/k=1)/\(acc=LV l++ED (jA l l.length) k)/\(acc.length<=40000+20*k)) (λ (k,ov,acc)=>(jA l l.length).length+1-k) (1,v1,uv (l.length)++uv ((dn 0 l).length)++aJ (dn 0 l)) ⟨s3.pick [1] rfl,Nat.le_refl _,by omega,by simp [LV,ED],by simp only [length_append];omega⟩ ?_
 rintro ⟨k,ov,acc⟩ w4 ⟨s5,hk,hkl,hacc,hal⟩
 refine .seq<| .h<| .a 4 rfl (.load oG rfl (s5.ext _ _ h3))<| .ln 0 (hsr.ext s5.ext) rfl<| .Z rfl<| .ab rfl (λ c1=> ?_) λ c1=> ?_
 ·refine .skip<| .seq<| .block<| .seq ?_
  obtain ⟨x,hx⟩:∃ x,(jA l l.length)[k]? =some x:=⟨_,getElem?_eq_getElem c1⟩
  obtain ⟨y,hy⟩:∃ y,(jA l l.length)[k-1]? =some y:=⟨_,getElem?_eq_getElem (by omega)⟩
  obtain ⟨hs1,hs2,hs3,hs4⟩:=Fl hl hk hx hy
  refine .dk [0] s5 rfl (pl [0,1,2,3,4,5,6,7,8,9,10,11,12,13,14,15,16,17,18,19,1020,21] .fin) λ s6 S1=> .z 4 S1 rfl<| .e rfl (λ _ s=> .load oG rfl (s.ext _ _ h3)) S1<| .ix 1 S1 (hsr.ext ·.ext) rfl<| .fl 0 S1 (hsr.ext ·.ext) rfl<| .lf 0 S1 (hsr.ext ·.ext) hx rfl<| .z 3 S1 rfl<| .e rfl (λ _ s=> .load oG rfl (s.ext _ _ h3)) S1<| .ix 2 S1 (hsr.ext ·.ext) rfl<| .fl 0 S1 (hsr.ext ·.ext) rfl<| .lf 0 S1 (hsr.ext ·.ext) hy rfl<| .c 2 S1 (cS ov (acc) ((x.1-y.1)) _ (s6.ah 0 rfl) (by omega) (by omega)) rfl λ r3 _ h_3=> ?_
  have s7:=s6.aD h_3
  have S2:=s7.pk [0]
  refine ⟨S2,?_⟩
  refine .Z S2 rfl<| .dk [0,1] s7 rfl (pl [0,1,2,3,4,5,6,7,8,9,10,11,12,13,14,15,16,17,18,19,1020,21] .fin) λ s8 S3=> .z 4 S3 rfl<| .e rfl (λ _ s=> .load oG rfl (s.ext _ _ h3)) S3<| .ix 1 S3 (hsr.ext ·.ext) rfl<| .fl 0 S3 (hsr.ext ·.ext) rfl<| .lf 0 S3 (hsr.ext ·.ext) hx rfl<| .z 3 S3 rfl<| .e rfl (λ _ s=> .load oG rfl (s.ext _ _ h3)) S3<| .ix 2 S3 (hsr.ext ·.ext) rfl<| .fl 0 S3 (hsr.ext ·.ext) rfl<| .lf 0 S3 (hsr.ext ·.ext) hy rfl<| .c 2 S3 (cS r3 (acc++uv ((x.1-y.1))) ((x.2-y.2)) _ (s8.ah 1 rfl) (by have h8:=aN (x.1-y.1);rw [length_append];omega) (by omega)) rfl λ r4 _ h4=> ?_
  have s9:=s8.aD h4
  have S4:=s9.pk [0,1]
  refine ⟨S4,?_⟩
  refine .Z S4 rfl<| .trim [0,3,4] rfl<| .U rfl ?_
  exact bc (k+1,r4,acc++uv ((x.1-y.1))++uv ((x.2-y.2))) ⟨s9.pk [2],by omega,by omega,by rw [Fm hk hx hy,hacc];simp only [append_assoc],by have h8:=aN (x.1-y.1);have h9:=aN (x.2-y.2);simp only [length_append];omega⟩
 refine .ao<| .seq ?_
 have hfin:acc=oy l:=by
  rw [hacc];unfold oy LV
  rcases Nat.eq_zero_or_pos (jA l l.length).length with e|e
  ·rw [e,show k=1 by omega]<;>rfl
  rw [show k=(jA l l.length).length by omega]
 refine .region<| .c 1 (rq _ (acc) _ (s5.ah 0 rfl) (λ x hx=>kc l x (by rw [<-hfin];exact hx)) (by rw [hfin];have:=jh hl;omega)) rfl λ r5 _ h5=> ?_
 have s11:=s5.aD h5
 refine .Z rfl<| .aC rfl rfl ?_
 have s12:=s11.pk [1]
 rw [hfin] at s12
 exact s12
theorem NT {l:List Nat} (h:OkP l) {k x:Nat} (hx:l[k]? =some x):Hg (aJ (dn 0 l)) (dn 0 (l.take k)).length (x+1-zQ l k)/\(dn 0 (l.take k)).length+(ff (x+1-zQ l k)).length=(dn 0 (l.take (k+1))).length/\(dn 0 (l.take (k+1))).length<=(dn 0 l).length:=by
 have h1:=BG h hx
 have h2:=h.lt x (aa hx)
 have e:=wV hx
 have h3:=yq l (show k+1<=l.length from ch hx)
 rw [take_length] at h3
 have e2:dn 0 l=dn 0 (l.take k)++(ff (x+1-zQ l k)++dn (MA 0 (l.take (k+1))) (l.drop (k+1))):=by
  rw [<-append_assoc,<-e,<-xE,take_append_drop]
 refine ⟨?_,by rw [e,length_append],h3⟩
 rw [e2]
 exact Hi _ _ (by omega) (by omega)
theorem J4 (v:Value) (b l:List Nat) (w:World) (hv:RdL w v (a8 .u8) b) (hbn:b.length<=1000000) (hp:b.take (((dn 0 l).length+7)/8)=aJ (dn 0 l)) (hle:(dn 0 l).length<=8*b.length) (hl:OkP l):
  CallsV prog 212 [v,(.int .i64 ((dn 0 l).length:Nat)),(.int .i64 l.length)] w λ r w'=>∃ v',r= .tuple #[v',.bool true]/\Sat w [cL v' 3 (a8 .i64) l] w':=by
 refine cc func212 rfl λ hs0=> .Z rfl<| .seq ?_
 have hln:=hl.len
 have hgl:=kb l 0 hl.lt
 have hpl:=aR (dn 0 l)
 have hpb:=gA (dn 0 l)
 refine .region<| .c 2 (iY _ (b) ((dn 0 l).length) _ (hv.ext hs0.ext) (hle) (by omega)) rfl λ r1 _ h_1=> ?_
 obtain ⟨rg_1,rv1,rfl,p1⟩:=h_1
 have s1:=hs0.aD p1
 refine .Z rfl<| .seq<| .Z rfl<| .ak rfl (decide_eq_false (by simp))<| .skip<| .Z rfl<| .Z rfl<| .seq<| .Z rfl<| .block ?_
 have s2:=s1.aH 3 (a8 .i64)
 refine .lq [8,22] rfl (α:=Nat×Nat×Value×List Nat) (λ (k,ps,ov,ol)=>[(10,ov),(11,(.int .i64 ((((zQ l k:Nat):Int)-1)))),(23,(.int .i64 k))]) (λ (k,ps,ov,ol) w'=>Sat w (s2.U [(0,aj rg_1 274 [rv1,(.int .i64 ((dn 0 l).length:Nat)),(.int .i64 ps)]),(2,cL ov 3 (a8 .i64) (ol))]) w'/\(k<=l.length)/\(ps=(dn 0 (l.take k)).length)/\(ol=l.take k)) (λ (k,ps,ov,ol)=>l.length-k) (0,0,(.slice none 0 0),[]) ⟨s2,Nat.zero_le _,rfl,rfl⟩ ?_
 rintro ⟨k,ps,ov,ol⟩ w2 ⟨s3,hk,hps,hol⟩
 refine .Z rfl<| .seq<| .ab rfl (λ c1=> ?_) λ c1=> ?_
 ·refine .skip<| .seq<| .block<| .seq ?_
  obtain ⟨x,hx⟩:∃ x,l[k]? =some x:=⟨_,getElem?_eq_getElem c1⟩
  obtain ⟨hq1,hq2,hq3⟩:=NT hl hx
  have hx4:=hl.lt x (aa hx)
  have hbf:=BG hl hx
  refine .region<| .z 1 rfl ?_
  have A1:=s3.tail.oc [0,1,2] 2
  refine .c 0 (IY _ _ _ _ _ (b.take (((dn 0 l).length+7)/8)) ((dn 0 l).length) (ps) (x+1-zQ l k) A1 (by rw [hp];exact hpb) (by rw [hp,hpl];omega) (by rw [hp,hpl];omega) (by omega) (by omega) (by rw [hps];omega) (by rw [hp,hps];exact hq1)) rfl λ r2 _ h_2=> ?_
  obtain ⟨rfl,p2⟩:=h_2
  have s4:=(Sat.order [0,1,2] (by decide) p2.join).aF.nn
  refine .Z rfl<| .seq<| .seq<| .bH 35 ((0≠0)\/(2147483648<(x+1-zQ l k))) ?_ ?_
  ·refine .M rfl (by simp [])
  refine .ak rfl (decide_eq_false (by simp;omega))<| .skip<| .h<| .a 3 rfl (.add rfl rfl (by unfold bo;omega))<| .Z rfl<| .weaken [(8,_),(10,_),(11,(.int .i64 x)),(12,_),(13,_),(22,_),(23,_),(25,_),(26,_),(27,_),(28,_),(29,_),(36,_),(37,_),(38,_),(39,_)] ⟨rfl,rfl,congrArg some (congrArg (Value.int .i64) (by omega)),rfl,rfl,rfl,rfl,rfl,rfl,rfl,rfl,rfl,rfl,rfl,rfl,rfl,trivial⟩<| .region<| .b 2 rfl (.cM (a8 .i64) x bj rfl s4 rfl λ v1 _ s5 _=> ?_)
  refine .ap 0 s5 2 (s5.ah 3 rfl) rfl (h1:=by rw [hol];simp;omega) (h2:=by rw [hol];simp;omega) λ v2 _ s6 _=> ?_
  refine .Z rfl<| .U rfl ?_
  exact ⟨(k+1,(ps+(ff (x+1-zQ l k)).length),v2,ol++[x]),⟨rfl,congrArg some (congrArg (Value.int .i64) (by rw [ow hx];omega)),rfl,rfl,rfl,trivial⟩,⟨s6.pk [0,1,2],by omega,by rw [hps];exact hq2,by rw [au hx,hol]⟩,by dsimp only;omega⟩
 refine .ao<| .Z rfl<| .bG rfl rfl rfl ?_
 rw [show k=l.length by omega,take_length] at hol
 subst hol
 exact ⟨_,rfl,s3.pk [2]⟩
end Go.Proofs.YthffkcnbdehceaaGreat
