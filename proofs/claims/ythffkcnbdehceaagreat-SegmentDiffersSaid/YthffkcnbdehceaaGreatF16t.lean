/-The walks of the functions of F16t,printed by our own program (kwgen.py) out of our descriptions (base.py). -/
import Derived.Test.YthffkcnbdehceaaGreatF16p
import Derived.Test.YthffkcnbdehceaaGreatF15u
import Derived.Test.YthffkcnbdehceaaGreatKv
import Derived.Test.YthffkcnbdehceaaGreatTab
import Derived.Test.YthffkcnbdehceaaGreatF13
import Derived.Test.YthffkcnbdehceaaGreatM14d
import Derived.Test.YthffkcnbdehceaaGreatM02s
import Derived.Test.YthffkcnbdehceaaGreatF16c
import Derived.Test.YthffkcnbdehceaaGreatKm
import Derived.Test.YthffkcnbdehceaaGreatF16
set_option linter.unusedVariables false
set_option linter.unusedSimpArgs false
set_option linter.unusedSectionVars false
namespace Go.Proofs.YthffkcnbdehceaaGreat
open Go.RowKit Go.Kw
set_option maxRecDepth 100000
theorem qj:E7 Tryz.prog 142=true:=by kernel_rfl
theorem sN (v:Value) (b:List Nat) (w:World) (hv:RdL w v (a7 .u8) b) (hb:∀ x∈b,x<256) (hn:b.length<=1000000000) (h4:4<=b.length) (hsum:o3 (oY (b.take (b.length-4)))=b.drop (b.length-4)):
  CallsV Tryz.prog 96 [v] w λ r w'=>∃ v',r= .tuple #[v',.int .i64 ((0:Nat):Int)]/\Sat w [cL v' 5 (a7 .u8) (b.take (b.length-4))] w':=by
 refine cn Tryz.func96 rfl λ hs0=> .Z rfl<| .seq<| .h<| .ln 1 (hv.ext hs0.ext) rfl<| .Z rfl<| .ak rfl (decide_eq_false (by omega))<| .skip<| .h<| .ln 1 (hv.ext hs0.ext) rfl<| .Z rfl<| .seq<| .seq<| .dk [] hs0 rfl (pl [0,1,2,5,6,7] (.two 3 8 (.two 4 8 (pl [1008,9,10] .fin) (pl [9,1004,10] .fin)) (pl [9,1003,1004,10] .fin))) λ s1 S1=> .z 2 S1 rfl<| .e rfl (λ _ s=> .bo (E:=a7 .u8) (a:=0) (c:=(b.length-4)) cE rfl (hv.ext s.ext) rfl ⟨_,rfl⟩ (Nat.zero_le _) (by omega)) S1<| .z 2 S1 rfl<| .e rfl (λ _ s=> .bo (E:=a7 .u8) (a:=(b.length-4)) (c:=(b).length) cE rfl (hv.ext s.ext) ⟨_,rfl⟩ rfl (by omega) (Nat.le_refl _)) S1<| .two rfl rfl rfl rfl rfl rfl (OpE.call Mn rfl ((yC _ (((b).take (b.length-4)).drop 0) _ (((hv.ext s1.ext)).sub (a:=0) (b:=(b.length-4)) (Nat.zero_le _) (by omega)) (λ x hx=>hb x (List.mem_of_mem_take (List.mem_of_mem_drop hx))) (by simp;omega)).mono λ r1 _ h1=> ?_)) (OpE.ev (Ev.G7 (E:=a7 .u8) Tryz.underlying142 rfl (((hv.ext s1.ext)).sub (a:=(b.length-4)) (b:=(b).length) (by omega) (Nat.le_refl _)) (by simp;omega)) ⟨S1,?_⟩)
 ·obtain ⟨rfl,p1⟩:=h1
  have s2:=s1.aD p1
  have S2:=s2.pk []
  refine ⟨S2,?_⟩
  refine .two rfl rfl rfl rfl rfl rfl (OpE.call Mm rfl ((iE ((oY (((b).take (b.length-4)).drop 0))) _ (pJ (λ x hx=>hb x (List.mem_of_mem_take (List.mem_of_mem_drop hx))))).mono λ r2 _ h2=> ?_)) (OpE.ev (Ev.G7 (E:=a7 .u8) Tryz.underlying142 rfl (((hv.ext s2.ext)).sub (a:=(b.length-4)) (b:=(b).length) (by omega) (Nat.le_refl _)) (by simp;omega)) ⟨S2,?_⟩)
  ·obtain ⟨rfl,p2⟩:=h2
   have s3:=s2.aD p2
   have S3:=s3.pk []
   refine ⟨S3,?_⟩
   refine .f rfl (.ev (Ev.G7 (E:=a7 .u8) Tryz.underlying142 rfl (((hv.ext s3.ext)).sub (a:=(b.length-4)) (b:=(b).length) (by omega) (Nat.le_refl _)) (by simp;omega)) ⟨S3,?_⟩)
   refine .e rfl (λ _ s=> .G5 (E:=a7 .u8) vd rfl (((hv.ext s.ext)).sub (a:=(b.length-4)) (b:=(b).length) (by omega) (Nat.le_refl _)) (by show _*1=_;simp;omega) (by decide)) S3<| .e rfl (λ _ s=> .vz qj (rfl) (by simp;omega) rfl rfl) S3<| .fin<| .ak rfl (decide_eq_false (λ h=>h (by rw [List.drop_zero,List.take_length];exact hsum)))<| .skip<| .h<| .f rfl (.xZ (a7 .u8) cE s3 λ v1 _ s4 _=> ?_)
   have s4:=s4.nn
   refine .a 2 rfl (.bo (E:=a7 .u8) (a:=0) (c:=(b.length-4)) cE rfl (hv.ext s4.ext) rfl ⟨_,rfl⟩ (Nat.zero_le _) (by omega))<| .ap 0 s4 0 (((hv.ext s4.ext)).sub (a:=0) (b:=(b.length-4)) (Nat.zero_le _) (by omega)) rfl λ v2 _ s5 _=> .Z rfl<| .bL rfl rfl rfl ?_
   have s7:=(s5.pk [0]).cB 0 rfl (show ((b).take (b.length-4)).drop 0=b.take (b.length-4) from by simp)
   exact ⟨_,rfl,s7⟩
  refine .e rfl (λ _ s=> .G5 (E:=a7 .u8) vd rfl (((hv.ext s.ext)).sub (a:=(b.length-4)) (b:=(b).length) (by omega) (Nat.le_refl _)) (by show _*1=_;simp;omega) (by decide)) S2<| .c 0 S2 (iE ((oY (((b).take (b.length-4)).drop 0))) _ (pJ (λ x hx=>hb x (List.mem_of_mem_take (List.mem_of_mem_drop hx))))) rfl λ r3 _ h3=> ?_
  obtain ⟨rfl,p3⟩:=h3
  have s8:=s2.aD p3
  have S4:=s8.pk []
  refine ⟨S4,?_⟩
  refine .e rfl (λ _ s=> .vz qj (rfl) (by simp;omega) rfl rfl) S4<| .fin<| .ak rfl (decide_eq_false (λ h=>h (by rw [List.drop_zero,List.take_length];exact hsum)))<| .skip<| .h<| .f rfl (.xZ (a7 .u8) cE s8 λ v3 _ s9 _=> ?_)
  have s9:=s9.nn
  refine .a 2 rfl (.bo (E:=a7 .u8) (a:=0) (c:=(b.length-4)) cE rfl (hv.ext s9.ext) rfl ⟨_,rfl⟩ (Nat.zero_le _) (by omega))<| .ap 0 s9 0 (((hv.ext s9.ext)).sub (a:=0) (b:=(b.length-4)) (Nat.zero_le _) (by omega)) rfl λ v_4 _ s10 _=> .Z rfl<| .bL rfl rfl rfl ?_
  have s12:=(s10.pk [0]).cB 0 rfl (show ((b).take (b.length-4)).drop 0=b.take (b.length-4) from by simp)
  exact ⟨_,rfl,s12⟩
 refine .e rfl (λ _ s=> .G5 (E:=a7 .u8) vd rfl (((hv.ext s.ext)).sub (a:=(b.length-4)) (b:=(b).length) (by omega) (Nat.le_refl _)) (by show _*1=_;simp;omega) (by decide)) S1<| .c 0 S1 (yC _ (((b).take (b.length-4)).drop 0) _ (((hv.ext s1.ext)).sub (a:=0) (b:=(b.length-4)) (Nat.zero_le _) (by omega)) (λ x hx=>hb x (List.mem_of_mem_take (List.mem_of_mem_drop hx))) (by simp;omega)) rfl λ r4 _ h_4=> ?_
 obtain ⟨rfl,p4⟩:=h_4
 have s13:=s1.aD p4
 have S5:=s13.pk []
 refine ⟨S5,?_⟩
 refine .c 0 S5 (iE ((oY (((b).take (b.length-4)).drop 0))) _ (pJ (λ x hx=>hb x (List.mem_of_mem_take (List.mem_of_mem_drop hx))))) rfl λ r5 _ h5=> ?_
 obtain ⟨rfl,p5⟩:=h5
 have s14:=s13.aD p5
 have S6:=s14.pk []
 refine ⟨S6,?_⟩
 refine .e rfl (λ _ s=> .vz qj (rfl) (by simp;omega) rfl rfl) S6<| .fin<| .ak rfl (decide_eq_false (λ h=>h (by rw [List.drop_zero,List.take_length];exact hsum)))<| .skip<| .h<| .f rfl (.xZ (a7 .u8) cE s14 λ v5 _ s15 _=> ?_)
 have s15:=s15.nn
 refine .a 2 rfl (.bo (E:=a7 .u8) (a:=0) (c:=(b.length-4)) cE rfl (hv.ext s15.ext) rfl ⟨_,rfl⟩ (Nat.zero_le _) (by omega))<| .ap 0 s15 0 (((hv.ext s15.ext)).sub (a:=0) (b:=(b.length-4)) (Nat.zero_le _) (by omega)) rfl λ v6 _ s16 _=> ?_
 have s16d:Sat w [cL v6 5 (a7 .u8) (((b).take (b.length-4)).drop 0)] _:=s16
 refine .Z rfl<| .bL rfl rfl rfl ?_
 have s18:=(s16d.pk [0]).cB 0 rfl (show ((b).take (b.length-4)).drop 0=b.take (b.length-4) from by simp)
 exact ⟨_,rfl,s18⟩
theorem qk (v:Value) (b p:List Nat) (w:World) (hv:RdL w v (a7 .u8) b) (he:b=aN p) (hb:∀ x∈p,x<256) (hn:p.length<=10000000):
  CallsV Tryz.prog 96 [v] w λ r w'=>∃ v',r= .tuple #[v',.int .i64 ((0:Nat):Int)]/\Sat w [cL v' 5 (a7 .u8) p] w':=by
 subst he
 have hl:=bJ p
 have ht:(aN p).take ((aN p).length-4)=p:=by rw [hl,Nat.add_sub_cancel,aN,List.take_left']<;>rfl
 have hd:(aN p).drop ((aN p).length-4)=o3 (oY p):=by rw [hl,Nat.add_sub_cancel,aN,List.drop_left']<;>rfl
 have h:=sN v (aN p) w hv (λ x hx=>by
  rcases List.mem_append.1 hx with hx|hx
  ·exact hb x hx
  ·exact nc _ x hx) (by omega) (by omega) (by rw [ht,hd])
 rw [ht] at h;exact h
theorem BO (w0 w:World) (cs:List Chunk) (g:Nat) (bv:Value) (bl:List Nat) (m:Nat) (hs:Sat w0 ([aj g 264 [bv,.bool true]]++cs) w) (hb:RdL w0 bv (a7 .u8) bl) (hm:m<=bl.length) (hn:bl.length<=1000000000):
  CallsV Tryz.prog 243 [(.pointer (some ⟨g,0,none⟩)),(.int .i64 m)] w λ r w'=>RdL w0 r (a7 .u8) ((bl.take m).drop 0)/\∃ bv',RdL w0 bv' (a7 .u8) (bl.drop m)/\Sat w0 ([aj g 264 [bv',.bool true]]++cs) w':=by
 refine ae Tryz.func243 rfl rfl ?_
 refine .Z rfl<| .seq<| .h<| .ld 3 hs 0 rfl<| .ld 6 hs 0 rfl<| .ln 0 (hb.ext hs.ext) rfl<| .Z rfl<| .ak rfl (decide_eq_false (by omega))<| .skip<| .h<| .ld 3 hs 0 rfl<| .a 1 rfl (.bo (E:=a7 .u8) (a:=0) (c:=m) cE rfl (hb.ext hs.ext) rfl ⟨_,rfl⟩ (Nat.zero_le _) (hm))<| .Z rfl<| .h<| .ld 4 hs 0 rfl<| .a 1 rfl (.bo (E:=a7 .u8) (a:=m) (c:=(bl).length) cE rfl (hb.ext hs.ext) ⟨_,rfl⟩ rfl (hm) (Nat.le_refl _))<| .st 2 hs 0 rfl (h1:=(((hb.ext hs.ext)).sub (a:=m) (b:=(bl).length) (hm) (Nat.le_refl _)).aa) λ _ s1 _=> ?_
 have s1d:=s1.sn
 refine .nil<| .Z rfl<| .az rfl rfl ?_
 have hr1:=hb.sub (a:=0) (b:=m) (Nat.zero_le _) hm
 have hr2:=hb.sub (a:=m) (b:=bl.length) hm (Nat.le_refl _)
 rw [List.take_length] at hr2
 exact ⟨hr1,_,hr2,s1d⟩
theorem iG (w0 w:World) (cs:List Chunk) (g:Nat) (bv:Value) (bl rest:List Nat) (x lim:Nat) (hs:Sat w0 ([aj g 264 [bv,.bool true]]++cs) w) (hb:RdL w0 bv (a7 .u8) bl) (he:bl=uv x++rest) (hbb:∀ y∈bl,y<256) (hn:bl.length<=1000000000) (hl:x<=lim) (hlim:lim<=1000000000000):
  CallsV Tryz.prog 242 [.pointer (some ⟨g,0,none⟩),.int .i64 (lim:Int)] w λ r w'=>r= .int .i64 (x:Int)/\∃ bv',RdL w0 bv' (a7 .u8) rest/\Sat w0 ([aj g 264 [bv',.bool true]]++cs) w':=by
 subst he
 have h:=GL w0 w cs g bv true (uv x++rest) lim hs hb hbb hn hlim
 rw [fK (by omega) hl] at h
 exact h
theorem nB (w0 w:World) (cs:List Chunk) (g:Nat) (bv:Value) (bl a rest:List Nat) (m:Nat) (hs:Sat w0 ([aj g 264 [bv,.bool true]]++cs) w) (hb:RdL w0 bv (a7 .u8) bl) (he:bl=a++rest) (hm:a.length=m) (hn:bl.length<=1000000000):
  CallsV Tryz.prog 243 [.pointer (some ⟨g,0,none⟩),.int .i64 (m:Int)] w λ r w'=>RdL w0 r (a7 .u8) a/\∃ bv',RdL w0 bv' (a7 .u8) rest/\Sat w0 ([aj g 264 [bv',.bool true]]++cs) w':=by
 subst he
 have h:=BO w0 w cs g bv (a++rest) m hs hb (by simp;omega) hn
 rw [List.drop_zero,List.take_left' hm,List.drop_left' hm] at h
 exact h
theorem lS {kind k:Nat} {ps:List (List Nat×Nat)} {y:Nat} (h:y∈ec kind (ps.drop k)):y∈ec kind ps:=by
 obtain ⟨p,hp,hy⟩:=List.mem_flatMap.1 h
 exact List.mem_flatMap.2 ⟨p,List.mem_of_mem_drop hp,hy⟩
theorem lT (kind k:Nat) (ps:List (List Nat×Nat)):(ec kind (ps.drop k)).length<=(ec kind ps).length:=by
 have e:ec kind ps=ec kind (ps.take k)++ec kind (ps.drop k):=by
  unfold ec;rw [<-List.flatMap_append,List.take_append_drop]
 rw [e,List.length_append];omega
theorem vT {kind k:Nat} {ps:List (List Nat×Nat)} {p:List Nat×Nat} (h:ps[k]? =some p):ec kind (ps.drop k)=uv (if kind=0 then p.1.length else p.2)++(p.1++ec kind (ps.drop (k+1))):=by
 rw [oP h];simp [ec,rp]
theorem sO:∀ {l:List Nat},(∀ x∈l,x<2^8)->l.map (· %2^8)=l
 |[],_=>rfl
 |x::r,h=>by rw [List.map_cons,sO λ y hy=>h y (by simp [hy]),Nat.mod_eq_of_lt (h x (by simp))]
theorem vU (l:List Nat) (k:Nat):l.take (64*k)++ei l k=l.take (64*(k+1)):=by
 rw [show 64*(k+1)=64*k+64 by omega,List.take_add]<;>rfl
set_option maxHeartbeats 1000000 in
theorem Df (w0 w:World) (cs:List Chunk) (g:Nat) (bv:Value) (l:List Nat) (hs:Sat w0 ([aj g 264 [bv,.bool true]]++cs) w) (hl:OkN l) (hb:RdL w0 bv (a7 .u8) (na l 0)):
  CallsV Tryz.prog 210 [(.pointer (some ⟨g,0,none⟩))] w λ r w'=>∃ v',r= .tuple #[v',.bool true]/\∃ bv',Sat w0 ([aj g 264 [bv',.bool true],cL v' 3 (a7 .i64) l]++cs) w':=by
 have hnl:=hl.len
 have hP:na l 0=uv l.length++(uv 0++ec 0 (lE l (dn l.length))):=by rw [Eg,rq];simp
 have hlt:∀ y∈na l 0,y<256:=nA (by decide)
 have hPl:=pq hl (k:=0) (by decide)
 have hPl2:=congrArg List.length hP
 simp only [List.length_append] at hPl2
 have hnb:dn l.length<=64:=by unfold dn;omega
 refine ae Tryz.func210 rfl rfl ?_
 refine .Z rfl<| .h<| .z 1 rfl ?_
 have A1:=hs.oc [0] 1
 refine .c 0 (iG _ _ _ _ _ (na l 0) (uv 0++ec 0 (lE l (dn l.length))) (l.length) 4096 A1 hb (hP) (hlt) (by omega) (hnl) (by omega)) rfl λ r1 _ h1=> ?_
 obtain ⟨rfl,bv1,hbv1,p1⟩:=h1
 have s1:=p1.join.od [0]
 refine .z 1 rfl ?_
 have A2:=s1.oc [0] 1
 refine .c 0 (iG _ _ _ _ _ (uv 0++ec 0 (lE l (dn l.length))) (ec 0 (lE l (dn l.length))) (0) 1 A2 hbv1 (rfl) (λ y hy=>hlt y (by rw [hP];exact List.mem_append_right _ hy)) (by simp only [List.length_append];omega) (by omega) (by omega)) rfl λ r2 _ h2=> ?_
 obtain ⟨rfl,bv_2,hbv2,p2⟩:=h2
 have s2:=p2.join.od [0]
 refine .e rfl (.build Bb rfl ⟨rfl,rfl,trivial⟩ rfl)<| .al 0 s2 rfl λ b1 _ s3 _ _=> ?_
 have s3d:=s3.mn
 refine .sa 0 s3d 1 (vs:=[(.int .i64 l.length),(.int .i64 (0:Nat)),(.slice none 0 0),(.slice none 0 0),(.int .i64 (0:Nat)),(.slice none 0 0)]) rfl (λ v h=>by simp only [List.mem_cons,List.not_mem_nil,or_false] at h;rcases h with rfl|rfl|rfl|rfl|rfl|rfl;exact rfl;exact rfl;exact rfl;exact rfl;exact rfl;exact rfl) λ w4 s4 _=> ?_
 have s4d:=s4.sn
 refine .nil<| .seq<| .h<| .ld 1 s4d 1 rfl<| .Z rfl<| .ak rfl (rfl)<| .skip<| .Z rfl<| .seq<| .Z rfl<| .block ?_
 have s5:=(s4d.aE 3 (a7 .i64)).mn
 have s6:Sat w0 ([aj g 264 [bv_2,(.bool true)],aj b1 245 [(.int .i64 l.length),(.int .i64 (0:Nat)),(.slice none 0 0),(.slice none 0 0),(.int .i64 (0:Nat)),(.slice none 0 0)],cL (Value.slice none 0 0) 3 (a7 .i64) (l.take (64*0))]++cs) w4:=by
  have hq:[]=l.take (64*0):=rfl
  rw [<-hq];exact s5
 refine .lq [0,4] rfl (α:=Nat×Value×Value) (λ (k,bv2,ov)=>[(7,ov),(8,(.int .i64 k))]) (λ (k,bv2,ov) w'=>Sat w0 (s6.V [(0,aj g 264 [bv2,(.bool true)]),(2,cL ov 3 (a7 .i64) (l.take (64*k)))]++cs) w'/\(k<=dn l.length)/\(RdL w0 bv2 (a7 .u8) (ec 0 ((lE l (dn l.length)).drop k)))) (λ (k,bv2,ov)=>dn l.length-k) (0,bv_2,(.slice none 0 0)) ⟨s6,Nat.zero_le _,hbv2⟩ ?_
 rintro ⟨k,bv2,ov⟩ w5 ⟨s7,hk,hbv⟩
 refine .seq<| .h<| .ld 3 s7 0 rfl<| .ld 4 s7 1 rfl<| .Z rfl<| .ab rfl (λ c1=> ?_) λ c1=> ?_
 ·refine .skip<| .seq<| .block<| .Z rfl<| .Z rfl<| .seq<| .h<| .ld 1 s7 1 rfl<| .Z rfl<| .dA rfl (rfl) ?_
  have hkN:k<dn l.length:=by unfold dn;omega
  have hd:=vT (kind:=0) (Hl (l:=l) hkN)
  rw [if_pos rfl] at hd
  have hdl:=lT 0 k (lE l (dn l.length))
  have hdl1:=congrArg List.length hd
  simp only [List.length_append] at hdl1
  have hcl:=bY l k
  refine .region<| .ld 5 s7 0 rfl<| .ln 0 (hbv.ext s7.ext) rfl ?_
  have A3:=s7.oc [0,1,2] 1
  refine .c 0 (iG _ _ _ _ _ (ec 0 ((lE l (dn l.length)).drop k)) (bI (ei l k)++ec 0 ((lE l (dn l.length)).drop (k+1))) ((bI (ei l k)).length) ((ec 0 ((lE l (dn l.length)).drop k)).length) A3 hbv (hd) (λ y hy=>hlt y (by rw [hP];exact List.mem_append_right _ (List.mem_append_right _ (lS hy)))) (by omega) (by omega) (by omega)) rfl λ r3 _ h3=> ?_
  obtain ⟨rfl,bv3,hbv3,p3⟩:=h3
  have s8:=p3.join.od [0,1,2]
  have A4:=s8.oc [0,1,2] 1
  refine .c 0 (nB _ _ _ _ _ (bI (ei l k)++ec 0 ((lE l (dn l.length)).drop (k+1))) (bI (ei l k)) (ec 0 ((lE l (dn l.length)).drop (k+1))) ((bI (ei l k)).length) A4 hbv3 (rfl) (rfl) (by simp only [List.length_append];omega)) rfl λ r4 _ h4=> ?_
  obtain ⟨hbr1,bv4,hbv4,p4⟩:=h4
  have s9:=p4.join.od [0,1,2]
  refine .c 0 (sM _ (bI (ei l k)) (ei l k) _ (hbr1.ext s9.ext) (jH _ _) (by omega) (tM (by omega) (λ y hy=>by have:=hl.lt y (kq hy);omega))) rfl λ r5 _ h5=> ?_
  obtain ⟨uv1,rfl,p5⟩:=h5
  have s10:=(s9.aD p5).mn
  refine .Z rfl<| .seq<| .h<| .ld 3 s10 0 rfl<| .ln 7 (s10.ah 3 rfl) rfl<| .cm 1 s10 (lQ _ (l.length) (k) _ (s10.cell (i:=1) (j:=0) rfl rfl) (by omega) (by omega)) rfl λ _ s11=> .Z rfl<| .ak rfl (decide_eq_false (λ h=>h (by rw [bY];omega)))<| .skip<| .trim [0,4,7,8,9,10] rfl<| .region<| .ap 2 s11 2 (s11.ah 3 rfl) rfl λ v1 w10 s12 _=> ?_
  have s12d:=s12.sn
  refine .Z rfl<| .U rfl ?_
  have s13:=s12d.pt [0,1,2]
  have s14:Sat w0 ([aj g 264 [bv4,(.bool true)],aj b1 245 [(.int .i64 l.length),(.int .i64 (0:Nat)),(.slice none 0 0),(.slice none 0 0),(.int .i64 (0:Nat)),(.slice none 0 0)],cL v1 3 (a7 .i64) (l.take (64*(k+1)))]++cs) w10:=by
   have hq:l.take (64*k)++ei l k=l.take (64*(k+1)):=vU l k
   rw [<-hq];exact s13
  exact aX (k+1,bv4,v1) ⟨s14,by omega,hbv4⟩
 refine .ao<| .seq<| .dt [0,1,2] s7 rfl (pl [0,1,2,3,4,5,6] .fin) λ s15 S1=> .ld 4 S1 0 rfl<| .Z S1 rfl<| .bL rfl rfl rfl ?_
 have s16:=s15.pt [0,2]
 have s17:Sat w0 ([aj g 264 [bv2,(.bool true)],cL ov 3 (a7 .i64) (l)]++cs) w5.drew:=by
  have hq:l.take (64*k)=l:=by rw [List.take_of_length_le (by omega)]
  rw [<-hq];exact s16
 exact ⟨_,rfl,_,s17⟩
set_option maxHeartbeats 2000000 in
theorem Dg (w0 w:World) (cs:List Chunk) (g:Nat) (bv:Value) (l:List Nat) (hs:Sat w0 ([aj g 264 [bv,.bool true]]++cs) w) (hl:OkN l) (hb:RdL w0 bv (a7 .u8) (na l 1)):
  CallsV Tryz.prog 210 [(.pointer (some ⟨g,0,none⟩))] w λ r w'=>∃ v',r= .tuple #[v',.bool true]/\∃ bv',Sat w0 ([aj g 264 [bv',.bool true],cL v' 3 (a7 .i64) l]++cs) w':=by
 have hnl:=hl.len
 have hmx:=hl.mx
 have hsl:=ej l
 have hs8:(aY l).map (· %2^8)=aY l:=sO (λ x hx=>by have:=iq (il (gG l hl.mx)) x hx;omega)
 have hP:na l 1=uv l.length++(uv 1++(uv (aY l).length++(aY l++ec 1 (jF l (dn l.length))))):=by rw [Hk,rq,if_pos rfl,hs8];simp
 have hlt:∀ y∈na l 1,y<256:=nA (by decide)
 have hPl:=pq hl (k:=1) (by decide)
 have hPl2:=congrArg List.length hP
 simp only [List.length_append] at hPl2
 have hnb:dn l.length<=64:=by unfold dn;omega
 refine ae Tryz.func210 rfl rfl ?_
 refine .Z rfl<| .h<| .z 1 rfl ?_
 have A1:=hs.oc [0] 1
 refine .c 0 (iG _ _ _ _ _ (na l 1) (uv 1++(uv (aY l).length++(aY l++ec 1 (jF l (dn l.length))))) (l.length) 4096 A1 hb (hP) (hlt) (by omega) (hnl) (by omega)) rfl λ r1 _ h_1=> ?_
 obtain ⟨rfl,bv1,hbv1,p1⟩:=h_1
 have s1:=p1.join.od [0]
 refine .z 1 rfl ?_
 have A2:=s1.oc [0] 1
 refine .c 0 (iG _ _ _ _ _ (uv 1++(uv (aY l).length++(aY l++ec 1 (jF l (dn l.length))))) (uv (aY l).length++(aY l++ec 1 (jF l (dn l.length)))) (1) 1 A2 hbv1 (rfl) (λ y hy=>hlt y (by rw [hP];exact List.mem_append_right _ hy)) (by simp only [List.length_append];omega) (by omega) (by omega)) rfl λ r2 _ h2=> ?_
 obtain ⟨rfl,bv_2,hbv2,p2⟩:=h2
 have s2:=p2.join.od [0]
 refine .e rfl (.build Bb rfl ⟨rfl,rfl,trivial⟩ rfl)<| .al 0 s2 rfl λ b1 _ s3 _ _=> ?_
 have s3d:=s3.mn
 refine .sa 0 s3d 1 (vs:=[(.int .i64 l.length),(.int .i64 (1:Nat)),(.slice none 0 0),(.slice none 0 0),(.int .i64 (0:Nat)),(.slice none 0 0)]) rfl (λ v h=>by simp only [List.mem_cons,List.not_mem_nil,or_false] at h;rcases h with rfl|rfl|rfl|rfl|rfl|rfl;exact rfl;exact rfl;exact rfl;exact rfl;exact rfl;exact rfl) λ _ s4 _=> ?_
 have s4d:=s4.sn
 refine .nil<| .seq<| .h<| .ld 1 s4d 1 rfl<| .Z rfl<| .dA rfl (rfl)<| .h<| .z 2 rfl ?_
 have A3:=s4d.oc [0,1] 1
 refine .c 0 (iG _ _ _ _ _ (uv (aY l).length++(aY l++ec 1 (jF l (dn l.length)))) (aY l++ec 1 (jF l (dn l.length))) ((aY l).length) 1024 A3 hbv2 (rfl) (λ y hy=>hlt y (by rw [hP];exact List.mem_append_right _ (List.mem_append_right _ hy))) (by simp only [List.length_append];omega) (by omega) (by omega)) rfl λ r3 _ h3=> ?_
 obtain ⟨rfl,bv3,hbv3,p3⟩:=h3
 have s5:=p3.join.od [0,1]
 have A4:=s5.oc [0,1] 1
 refine .c 0 (nB _ _ _ _ _ (aY l++ec 1 (jF l (dn l.length))) (aY l) (ec 1 (jF l (dn l.length))) ((aY l).length) A4 hbv3 (rfl) (rfl) (by simp only [List.length_append];omega)) rfl λ r4 w6 h4=> ?_
 obtain ⟨hbr1,bv4,hbv4,p4⟩:=h4
 have s6:=p4.join.od [0,1]
 refine .ln 0 (hbr1.ext s6.ext) rfl<| .Z rfl<| .block ?_
 have s7:Sat w0 ([aj g 264 [bv4,(.bool true)],aj b1 245 [(.int .i64 l.length),(.int .i64 (1:Nat)),(.slice none 0 0),(.slice none 0 0),(.int .i64 (0:Nat)),(.slice none 0 0)],cL (Value.slice none 0 0) 3 (a7 .i64) ([])]++cs) _:=(s6.aE 3 (a7 .i64)).dd
 have s8:Sat w0 ([aj g 264 [bv4,(.bool true)],aj b1 245 [(.int .i64 l.length),(.int .i64 (1:Nat)),(.slice none 0 0),(.slice none 0 0),(.int .i64 (0:Nat)),(.slice none 0 0)],cL (Value.slice none 0 0) 3 (a7 .i64) ((aY l).take 0)]++cs) w6:=by
  have hq:[]=(aY l).take 0:=rfl
  rw [<-hq];exact s7
 refine .lq [0,4,23,24] rfl (α:=Nat×Value) (λ (k,lv)=>[(25,(.int .i64 k))]) (λ (k,lv) w'=>Sat w0 (s8.V [(1,aj b1 245 [(.int .i64 l.length),(.int .i64 (1:Nat)),lv,(.slice none 0 0),(.int .i64 (0:Nat)),(.slice none 0 0)]),(2,cL lv 3 (a7 .i64) ((aY l).take k))]++cs) w'/\(k<=(aY l).length)) (λ (k,lv)=>(aY l).length-k) (0,(.slice none 0 0)) ⟨s8,Nat.zero_le _⟩ ?_
 rintro ⟨k,lv⟩ w7 ⟨s9,hk⟩
 refine .Z rfl<| .seq<| .ab rfl (λ c1=> ?_) λ c1=> ?_
 ·refine .skip<| .seq<| .block<| .seq ?_
  obtain ⟨x,hx⟩:∃ x,(aY l)[k]? =some x:=⟨_,List.getElem?_eq_getElem c1⟩
  refine .region<| .ix 0 (hbr1.ext s9.ext) rfl<| .le 0 (hbr1.ext s9.ext) hx rfl<| .Z rfl ?_
  have hx15:=iq (il (gG l hl.mx)) x (a8 hx)
  refine .region<| .ld 1 s9 1 rfl<| .b 2 rfl (.cR (a7 .i64) x aZ rfl s9 rfl λ v1 _ s10 _=> ?_)
  have s10d:=s10.mn
  refine .ap 0 s10d 2 (s10d.ah 3 rfl) rfl λ v2 _ s11 _=> ?_
  have s11d:=(s11.sn).pt [0,1,2]
  refine .st 1 s11d 1 rfl (h1:=(s11d.ah 2 rfl).aa) λ w10 s12 _=> ?_
  have s12d:=s12.sn
  refine .nil<| .U rfl ?_
  have s13:=s12d.pt [0,1,2]
  have s14:Sat w0 ([aj g 264 [bv4,(.bool true)],aj b1 245 [(.int .i64 l.length),(.int .i64 (1:Nat)),v2,(.slice none 0 0),(.int .i64 (0:Nat)),(.slice none 0 0)],cL v2 3 (a7 .i64) ((aY l).take (k+1))]++cs) w10:=by
   have hq:(aY l).take k++[x]=(aY l).take (k+1):=by rw [ar hx]
   rw [<-hq];exact s13
  exact aX (k+1,v2) ⟨s14,by omega⟩
 refine .ao<| .Z rfl<| .seq<| .Z rfl<| .block ?_
 have s15:Sat w0 ([aj g 264 [bv4,(.bool true)],aj b1 245 [(.int .i64 l.length),(.int .i64 (1:Nat)),lv,(.slice none 0 0),(.int .i64 (0:Nat)),(.slice none 0 0)],cL lv 3 (a7 .i64) (aY l)]++cs) w7:=by
  have hq:(aY l).take k=aY l:=by rw [show k=(aY l).length by omega,List.take_length]
  rw [<-hq];exact s9
 have s16:=(s15.aE 3 (a7 .i64)).mn
 have s17:Sat w0 ([aj g 264 [bv4,(.bool true)],aj b1 245 [(.int .i64 l.length),(.int .i64 (1:Nat)),lv,(.slice none 0 0),(.int .i64 (0:Nat)),(.slice none 0 0)],cL lv 3 (a7 .i64) (aY l),cL (Value.slice none 0 0) 3 (a7 .i64) (l.take (64*0))]++cs) w7:=by
  have hq:[]=l.take (64*0):=rfl
  rw [<-hq];exact s16
 refine .lq [0,4] rfl (α:=Nat×Value×Value) (λ (k,bv2,ov)=>[(7,ov),(8,(.int .i64 k))]) (λ (k,bv2,ov) w'=>Sat w0 (s17.V [(0,aj g 264 [bv2,(.bool true)]),(3,cL ov 3 (a7 .i64) (l.take (64*k)))]++cs) w'/\(k<=dn l.length)/\(RdL w0 bv2 (a7 .u8) (ec 1 ((jF l (dn l.length)).drop k)))) (λ (k,bv2,ov)=>dn l.length-k) (0,bv4,(.slice none 0 0)) ⟨s17,Nat.zero_le _,hbv4⟩ ?_
 rintro ⟨k,bv2,ov⟩ w11 ⟨s18,hk,hbv⟩
 refine .seq<| .h<| .ld 3 s18 0 rfl<| .ld 4 s18 1 rfl<| .Z rfl<| .ab rfl (λ c2=> ?_) λ c2=> ?_
 ·refine .skip<| .seq<| .block<| .Z rfl<| .Z rfl<| .seq<| .h<| .ld 1 s18 1 rfl<| .Z rfl<| .ak rfl (rfl)<| .seq ?_
  have hkN:k<dn l.length:=by unfold dn;omega
  have hd:=vT (kind:=1) (Hm (l:=l) hkN)
  rw [if_neg (by decide)] at hd
  have hdl:=lT 1 k (jF l (dn l.length))
  have hdl1:=congrArg List.length hd
  simp only [List.length_append,aM] at hdl1
  have hcl:=bY l k
  have hok:=gG l hl.mx
  have hhl:=ff (GoodLens.tP hok) (ei l k)
  refine .region<| .ld 4 s18 0 rfl<| .ln 0 (hbv.ext s18.ext) rfl<| .z 1 rfl ?_
  have A5:=s18.oc [0,1,2,3] 1
  refine .c 0 (iG _ _ _ _ _ (ec 1 ((jF l (dn l.length)).drop k)) (aB (ch (aY l) (ei l k))++ec 1 ((jF l (dn l.length)).drop (k+1))) ((ch (aY l) (ei l k)).length) (8*(ec 1 ((jF l (dn l.length)).drop k)).length) A5 hbv (hd) (λ y hy=>hlt y (by rw [hP];exact List.mem_append_right _ (List.mem_append_right _ (List.mem_append_right _ (List.mem_append_right _ (lS hy)))))) (by omega) (by omega) (by omega)) rfl λ r5 _ h5=> ?_
  obtain ⟨rfl,bv5,hbv5,p5⟩:=h5
  have s19:=p5.join.od [0,1,2,3]
  refine .Z rfl<| .dt [1,2,3] s19 rfl (pl [0,1,2,3,4,5,7,8,1006,1009,1010,11,12,13,14,15] .fin) λ s20 S1=> .ld 1 S1 0 rfl<| .z 3 S1 rfl<| .e rfl (λ _ s=> .quo (b:=8) rfl rfl (by omega) (by unfold ba;omega)) S1<| .z 2 S1 rfl ?_
  have A6:=s20.oc [0,1,2,3] 1
  refine .c 0 S1 (nB _ _ _ _ _ (aB (ch (aY l) (ei l k))++ec 1 ((jF l (dn l.length)).drop (k+1))) (aB (ch (aY l) (ei l k))) (ec 1 ((jF l (dn l.length)).drop (k+1))) (((ch (aY l) (ei l k)).length+7)/8) A6 hbv5 (rfl) (by rw [aM]) (by simp only [List.length_append,aM];omega)) rfl λ r6 _ h6=> ?_
  obtain ⟨hbr2,bv6,hbv6,p6⟩:=h6
  have s21:=p6.join.od [0,1,2,3]
  have S2:=s21.pt [1,2,3]
  refine ⟨S2,?_⟩
  refine .c 0 S2 (lQ _ (l.length) (k) _ (s21.cell (i:=1) (j:=0) rfl rfl) (by omega) (by omega)) rfl λ r7 _ h7=> ?_
  obtain ⟨rfl,p7⟩:=h7
  have s22:=(s21.aD p7).mn
  have S3:=s22.pt [1,2,3]
  refine ⟨S3,?_⟩
  refine .c 0 S3 (qg _ _ (aY l) (aB (ch (aY l) (ei l k))) (ei l k) ((ch (aY l) (ei l k)).length) ((min 64 (l.length-k*64))) _ (s22.ah 2 rfl) (hbr2.ext s22.ext) (by omega) (il hok) (gd _) (by rw [aM];omega) (by rw [aM];omega) (by omega) (by rw [show min 64 (l.length-k*64)=(ei l k).length by rw [hcl];omega];exact AY (GoodLens.tP hok) _ (λ y hy=>(rn hl.mx y (kq hy)).2))) rfl λ r8 _ h8=> ?_
  obtain ⟨dv1,rfl,p8⟩:=h8
  have s23:=(s22.aD p8).mn
  have S4:=s23.pt [1,2,3]
  refine ⟨S4,?_⟩
  refine .Z S4 rfl<| .seq<| .seq<| .trim [0,4,7,8,9,10,11] rfl<| .region<| .ld 3 s23 0 rfl<| .ln 7 (s23.ah 4 rfl) rfl<| .cm 1 s23 (lQ _ (l.length) (k) _ (s23.cell (i:=1) (j:=0) rfl rfl) (by omega) (by omega)) rfl λ _ s24=> .Z rfl<| .ak rfl (decide_eq_false (λ h=>h (by rw [bY];omega)))<| .skip<| .region<| .ap 2 s24 3 (s24.ah 4 rfl) rfl λ v3 w17 s25 _=> ?_
  have s25d:=s25.sn
  refine .Z rfl<| .U rfl ?_
  have s26:=s25d.pt [0,1,2,3]
  have s27:Sat w0 ([aj g 264 [bv6,(.bool true)],aj b1 245 [(.int .i64 l.length),(.int .i64 (1:Nat)),lv,(.slice none 0 0),(.int .i64 (0:Nat)),(.slice none 0 0)],cL lv 3 (a7 .i64) (aY l),cL v3 3 (a7 .i64) (l.take (64*(k+1)))]++cs) w17:=by
   have hq:l.take (64*k)++ei l k=l.take (64*(k+1)):=vU l k
   rw [<-hq];exact s26
  exact aX (k+1,bv6,v3) ⟨s27,by omega,hbv6⟩
 refine .ao<| .seq<| .dt [0,1,2,3] s18 rfl (pl [0,1,2,3,4,5,6] .fin) λ s28 S5=> .ld 4 S5 0 rfl<| .Z S5 rfl<| .bL rfl rfl rfl ?_
 have s29:=s28.pt [0,3]
 have s30:Sat w0 ([aj g 264 [bv2,(.bool true)],cL ov 3 (a7 .i64) (l)]++cs) w11.drew:=by
  have hq:l.take (64*k)=l:=by rw [List.take_of_length_le (by omega)]
  rw [<-hq];exact s29
 exact ⟨_,rfl,_,s30⟩
theorem BP (w0 w:World) (cs:List Chunk) (g:Nat) (bv:Value) (l:List Nat) (hs:Sat w0 ([aj g 264 [bv,.bool true]]++cs) w) (hl:OkN l) (hb:RdL w0 bv (a7 .u8) (na l (bO l))):
  CallsV Tryz.prog 210 [.pointer (some ⟨g,0,none⟩)] w λ r w'=>∃ v',r= .tuple #[v',.bool true]/\∃ bv',Sat w0 ([aj g 264 [bv',.bool true],cL v' 3 (a7 .i64) l]++cs) w':=by
 by_cases h:bO l=1
 ·rw [h] at hb;exact Dg w0 w cs g bv l hs hl hb
 have h0:bO l=0:=by have:=dV l;omega
 rw [h0] at hb;exact Df w0 w cs g bv l hs hl hb
theorem fN {b p:List Nat} (he:b=aN p) (hp:∀ x∈p,x<256):∀ x∈b,x<256:=λ x hx=>by
 rw [he] at hx
 rcases List.mem_append.1 hx with hx|hx
 ·exact hp x hx
 exact nc _ x hx
theorem yD (v:Value) (b l:List Nat) (w:World) (hv:RdL w v (a7 .u8) b) (hl:OkN l) (he:b=aN (na l (bO l))):
  CallsV Tryz.prog 153 [v] w λ r w'=>∃ g lv bv ps,r= .tuple #[.pointer (some ⟨g,0,none⟩),.int .i64 0]/\bm ps=kG l/\Sat w [aj g 245 [(.int .i64 l.length),(.int .i64 (bO l)),lv,bv,(.int .i64 (0:Nat)),(.slice none 0 0)],cL lv 3 (a7 .i64) (df l),cL bv 248 (cG) (ps),cj (ps),cL (Value.slice none 0 0) 3 (a7 .i64) ([])] w':=by
 refine cn Tryz.func153 rfl λ hs0=> .Z rfl<| .h<| .c 1 (qk _ (b) (na l (bO l)) _ (hv.ext hs0.ext) (he) (nA (dV l)) (by have:=pq hl (dV l);omega)) rfl λ r1 w1 h1=> ?_
 obtain ⟨uv1,rfl,p1⟩:=h1
 have s1:=hs0.aD p1
 refine .Z rfl<| .seq<| .Z rfl<| .ak rfl (rfl)<| .skip<| .seq ?_
 have hpay:=s1.ah 0 rfl
 have hv1:=hv.ext s1.ext
 have hsb:Sat w1 [] w1:=Sat.start _
 refine .region<| .a 1 rfl (.build Ma rfl ⟨(hpay.ext hsb.ext).aa,rfl,trivial⟩ rfl)<| .al 0 hsb rfl λ b1 _ s2 _ _=> .sa 0 s2 0 (vs:=[uv1,(.bool true)]) rfl (λ v h=>by simp only [List.mem_cons,List.not_mem_nil,or_false] at h;rcases h with rfl|rfl;exact (hpay.ext s2.ext).aa;exact rfl) λ _ s3 _=> ?_
 have s3:=s3.nn
 refine .nil<| .h ?_
 have A1:=s3.tail.oc [0] 1
 refine .c 0 (BP _ _ _ _ _ (l) A1 (hl) hpay) rfl λ r2 _ h2=> ?_
 obtain ⟨nv1,rfl,bv1,p2⟩:=h2
 have s4:=(Sat.order [0,1] (by decide) p2.join).aJ.nn
 refine .Z rfl<| .seq<| .Z rfl<| .ak rfl (rfl)<| .skip<| .h<| .c 1 (vR _ (l) _ (s4.ah 1 rfl) (hl)) rfl λ r3 _ h3=> ?_
 obtain ⟨g1,lv1,bv2,ps1,rfl,hps1,p3⟩:=h3
 have s5:=s4.aD p3
 refine .Z rfl<| .seq<| .seq ?_
 have hbb:∀ x∈b,x<256:=λ x hx=>fN he (nA (dV l)) x hx
 have hsb2:∀ x∈aN (jc l.length (bO l) (df l) (bm ps1)),x<256:=λ x hx=>hbb x (by rw [he,<-uD,<-hps1];exact hx)
 refine .region<| .c 4 (qh g1 ((l).length) (bO l) lv1 bv2 (df l) ps1 _ (s5.cell (i:=2) (j:=0) rfl rfl) (s5.cell (i:=2) (j:=1) rfl rfl) (s5.cell (i:=2) (j:=2) rfl rfl) (s5.cell (i:=2) (j:=3) rfl rfl) (s5.ah 3 rfl) (s5.ah 4 rfl) (s5.kz 5 rfl) (hl.len) (dV _) (o0 hl) ((uC hps1 hl).1) ((uC hps1 hl).2) (by rw [hps1];exact AP _)) rfl λ r4 _ h4=> ?_
 have s6:=s5.aD h4
 refine .cq 1 s6 (u5 _ _ (aN (jc ((l).length) (bO l) (df l) (bm ps1))) (b) _ (s6.ah 7 rfl) (hv1.ext s6.ext) (hsb2) (hbb)) rfl λ _ s7=> .a 0 rfl (.jd rfl)<| .Z rfl<| .ak rfl (decide_eq_false (λ hne=>hne (by rw [hps1,uD,he])))<| .skip<| .Z rfl<| .bL rfl rfl rfl ?_
 exact ⟨g1,lv1,bv2,ps1,rfl,hps1,(s1.aD (s7.pk [2,3,4,5,6])).sub (.cons _ (.refl _))⟩
end Go.Proofs.YthffkcnbdehceaaGreat
namespace Go.Proofs.YthffkcnbdehceaaGreat
open Go.RowKit Go.Kw
set_option maxRecDepth 100000
def dN (p:ByteArray):List ByteArray->List Nat->List Nat
 |x::W,c::C=>oT p x c++dN x W C
 |_,_=>[]
theorem dY {W:List ByteArray} {k:Nat} {x:ByteArray} (hx:W[k]? =some x):dM W (k+1)=x:=by
 unfold dM;rw [if_neg (by omega),Nat.add_sub_cancel,cg hx]
theorem zV {W:List ByteArray} {C:List Nat} {k c:Nat} {x:ByteArray} (hx:W[k]? =some x) (hc:C[k]? =some c):dN (dM W k) (W.drop k) (C.drop k)=uv (bT (dM W k) x)++(uv (x.size-bT (dM W k) x)++(bD (x.extract (bT (dM W k) x) x.size)++(uv (c-1)++dN x (W.drop (k+1)) (C.drop (k+1))))):=by
 rw [eV hx,eV hc,dN,oT]
 simp only [List.append_assoc]
theorem jW {W:List ByteArray} {C:List Nat} (h:C.length=W.length):∀ k,k<=W.length->dq W C k++dN (dM W k) (W.drop k) (C.drop k)=uv W.length++dN (dM W 0) W C
 |0,_=>rfl
 |k+1,hk=>by
  rw [<-jW h k (by omega)]
  have hx:W[k]? =some W[k]:=List.getElem?_eq_getElem (by omega)
  have hc:C[k]? =some C[k]:=List.getElem?_eq_getElem (by omega)
  rw [zV hx hc,dq,cg hx,cg hc,dY hx,oT]
  simp only [List.append_assoc]
theorem Dh {W:List ByteArray} {C:List Nat} (h:C.length=W.length):dq W C W.length=uv W.length++dN (dM W 0) W C:=by
 have:=jW h W.length (Nat.le_refl _)
 rw [List.drop_of_length_le (Nat.le_refl _)] at this
 simpa [dN] using this
theorem sP:∀ (a b:List UInt8),a.take (eI a b)=b.take (eI a b)
 |x::a,y::b=>by
  unfold eI
  split
  ·rename_i h;rw [List.take_succ_cons,List.take_succ_cons,h,sP a b]
  simp
 |[],_=>by simp [eI]
 |_::_,[]=>by simp [eI]
theorem vV:∀ (a b:List UInt8),eI a b<=a.length
 |x::a,y::b=>by
  have:=vV a b
  unfold eI
  split
  ·simp;omega
  omega
 |[],_=>by simp [eI]
 |_::_,[]=>by simp [eI]
theorem Di (a b:ByteArray):bT a b<=a.size:=by have:=vV a.data.toList b.data.toList;rw [vA] at this;exact this
theorem fS (s:ByteArray):strOf (bD s)=s:=by unfold bD;rw [oA]
theorem u6 (p x:ByteArray):p.extract 0 (bT p x)++strOf (bD (x.extract (bT p x) x.size))=x:=by
 rw [fS]
 refine ik ?_
 have e:(p.extract 0 (bT p x)++x.extract (bT p x) x.size).data.toList=(p.extract 0 (bT p x)).data.toList++(x.extract (bT p x) x.size).data.toList:=by simp
 rw [e,qy,qy,List.drop_zero,Nat.sub_zero]
 have h:=sP p.data.toList x.data.toList
 show p.data.toList.take (eI p.data.toList x.data.toList)++_=_
 have h2:(x.data.toList.drop (bT p x)).take (x.size-bT p x)=x.data.toList.drop (bT p x):=List.take_of_length_le (by rw [List.length_drop,vA];exact Nat.le_refl _)
 rw [h,h2]
 exact List.take_append_drop _ _
theorem Dj {W:List ByteArray} {C:List Nat} {k c:Nat} {p x:ByteArray} (hx:W[k]? =some x) (hc:C[k]? =some c) (hp:p=dM W k):dN p (W.drop k) (C.drop k)=uv (bT p x)++(uv (x.size-bT p x)++(bD (x.extract (bT p x) x.size)++(uv (c-1)++dN x (W.drop (k+1)) (C.drop (k+1))))):=by
 subst hp;exact zV hx hc
theorem dK {a b:List Nat} (ha:∀ y∈a,y<256) (hb:∀ y∈b,y<256):∀ y∈a++b,y<256:=λ y hy=>(List.mem_append.1 hy).elim (ha y) (hb y)
theorem GQ (p x:ByteArray) (c:Nat):∀ y∈oT p x c,y<256:=dK (dK (dK (cF _) (cF _)) (k7 _)) (cF _)
theorem jX:∀ (p:ByteArray) (W:List ByteArray) (C:List Nat),∀ y∈dN p W C,y<256
 |p,x::W,c::C=>dK (GQ p x c) (jX x W C)
 |_,[],_=>λ y h=>by simp [dN] at h
 |_,_::_,[]=>λ y h=>by simp [dN] at h
theorem jf:∀ (p:ByteArray) (W:List ByteArray) (C:List Nat),(∀ x∈W,x.size<=120)->(dN p W C).length<=W.length*150
 |p,x::W,c::C,h=>by
  have h1:=ox p x c
  have h2:=h x (List.mem_cons_self ..)
  have h3:=jf x W C λ y hy=>h y (List.mem_cons_of_mem _ hy)
  simp only [dN,List.length_append,List.length_cons]
  omega
 |_,[],_,_=>by simp [dN]
 |_,_::_,[],_=>by simp [dN]
theorem BQ {W:List ByteArray} (C:List Nat) (p:ByteArray) (k:Nat) (h:∀ x∈W,x.size<=120) (hn:W.length<=1024):(dN p (W.drop k) (C.drop k)).length<=153600:=by
 have h1:=jf p (W.drop k) (C.drop k) λ x hx=>h x (List.mem_of_mem_drop hx)
 rw [List.length_drop] at h1
 omega
theorem zW {p:List Nat} (hp:∀ x∈p,x<256):∀ x∈aN p,x<256:=dK hp (nc _)
theorem pf (w0 w:World) (cs:List Chunk) (g:Nat) (bv:Value) (x lim:Nat) (rest:List Nat) (hs:Sat w0 ([aj g 261 [bv,.bool true]]++cs) w) (hb:RdL w0 bv (a7 .u8) (uv x++rest)) (hbb:∀ y∈uv x++rest,y<256) (hn:(uv x++rest).length<=1000000000) (hx64:x<2^64) (hxl:x<=lim) (hlim:lim<=1000000000000):
  CallsV Tryz.prog 207 [(.pointer (some ⟨g,0,none⟩)),(.int .i64 lim)] w λ r w'=>r= .int .i64 ((x:Nat):Int)/\∃ bv',RdL w0 bv' (a7 .u8) rest/\Sat w0 ([aj g 261 [bv',.bool true]]++cs) w':=by
 refine ae Tryz.func207 rfl rfl ?_
 refine .Z rfl<| .h<| .ld 3 hs 0 rfl<| .cm 0 hs (eJ _ (uv x++rest) _ (hb.ext hs.ext) (hbb)) rfl λ _ s1=> .Z rfl<| .seq<| .seq ?_
 have hu:=o7 hx64 rest
 refine .weaken [(0,_),(1,_),(4,_),(5,(.int .u64 x)),(6,_),(7,_),(8,_),(9,_),(10,_),(11,_),(12,_),(13,_),(14,_),(15,_),(16,_)] ⟨rfl,rfl,rfl,congrArg some (congrArg (λ q:Nat×Nat×Nat=>Value.int .u64 ((q.1:Nat):Int)) hu),rfl,rfl,rfl,rfl,rfl,rfl,rfl,rfl,rfl,rfl,rfl,trivial⟩<| .weaken [(0,_),(1,_),(4,_),(5,_),(6,(.int .i64 ((uv x).length:Nat))),(7,_),(8,_),(9,_),(10,_),(11,_),(12,_),(13,_),(14,_),(15,_),(16,_)] ⟨rfl,rfl,rfl,rfl,congrArg some (congrArg (λ q:Nat×Nat×Nat=>Value.int .i64 ((q.2.1:Nat):Int)) hu),rfl,rfl,rfl,rfl,rfl,rfl,rfl,rfl,rfl,rfl,trivial⟩<| .weaken [(0,_),(1,_),(4,_),(5,_),(6,_),(7,(.int .i64 (0:Nat))),(8,_),(9,_),(10,_),(11,_),(12,_),(13,_),(14,_),(15,_),(16,_)] ⟨rfl,rfl,rfl,rfl,rfl,congrArg some (congrArg (λ q:Nat×Nat×Nat=>Value.int .i64 ((q.2.2:Nat):Int)) hu),rfl,rfl,rfl,rfl,rfl,rfl,rfl,rfl,rfl,trivial⟩<| .region<| .ld 3 s1 0 rfl<| .Z rfl<| .ak rfl (decide_eq_false (Nat.not_lt.2 hxl))<| .skip<| .h<| .ld 4 s1 0 rfl<| .a 1 rfl (.bo (E:=a7 .u8) (a:=(uv x).length) (c:=(uv x++rest).length) cE rfl (hb.ext s1.ext) ⟨_,rfl⟩ rfl (by rw [List.length_append];omega) (Nat.le_refl _))<| .st 2 s1 0 rfl (h1:=(((hb.ext s1.ext)).sub (a:=(uv x).length) (b:=(uv x++rest).length) (by rw [List.length_append];omega) (Nat.le_refl _)).aa) λ _ s2 _=> ?_
 have s2d:=s2.sn
 refine .nil<| .Z rfl<| .az rfl rfl ?_
 have s3:=s2d.pt [0]
 refine ⟨rfl,_,?_,s3⟩
 have hsub:=hb.sub (a:=(uv x).length) (b:=(uv x++rest).length) (by rw [List.length_append];omega) (Nat.le_refl _)
 rw [List.take_length,List.drop_left] at hsub
 exact hsub
theorem Dk (w0 w:World) (cs:List Chunk) (g:Nat) (bv:Value) (n:Nat) (s rest:List Nat) (hs:Sat w0 ([aj g 261 [bv,.bool true]]++cs) w) (hb:RdL w0 bv (a7 .u8) (s++rest)) (hbb:∀ y∈s++rest,y<256) (hn:(s++rest).length<=1000000000) (hns:n=s.length):
  CallsV Tryz.prog 208 [(.pointer (some ⟨g,0,none⟩)),(.int .i64 n)] w λ r w'=>r= .string (strOf s)/\∃ bv',RdL w0 bv' (a7 .u8) rest/\Sat w0 ([aj g 261 [bv',.bool true]]++cs) w':=by
 refine ae Tryz.func208 rfl rfl ?_
 refine .Z rfl<| .seq<| .h<| .ld 3 hs 0 rfl<| .ld 6 hs 0 rfl<| .ln 0 (hb.ext hs.ext) rfl<| .Z rfl<| .ak rfl (decide_eq_false (by rw [List.length_append];omega))<| .skip<| .h<| .ld 3 hs 0 rfl<| .a 1 rfl (.bo (E:=a7 .u8) (a:=0) (c:=n) cE rfl (hb.ext hs.ext) rfl ⟨_,rfl⟩ (by omega) (by rw [List.length_append];omega))<| .e rfl (.dX Tryz.underlying45 Tryz.underlying9 Tryz.underlying5 rfl (((hb.ext hs.ext)).sub (a:=0) (b:=n) (by omega) (by rw [List.length_append];omega)))<| .Z rfl<| .h<| .ld 4 hs 0 rfl<| .a 1 rfl (.bo (E:=a7 .u8) (a:=n) (c:=(s++rest).length) cE rfl (hb.ext hs.ext) ⟨_,rfl⟩ rfl (by rw [List.length_append];omega) (Nat.le_refl _))<| .st 2 hs 0 rfl (h1:=(((hb.ext hs.ext)).sub (a:=n) (b:=(s++rest).length) (by rw [List.length_append];omega) (Nat.le_refl _)).aa) λ _ s1 _=> ?_
 have s1d:=s1.sn
 refine .nil<| .Z rfl<| .az rfl rfl ?_
 have s2:=s1d.pt [0]
 refine ⟨by rw [hns,List.take_left,List.drop_zero],_,?_,s2⟩
 have hsub:=hb.sub (a:=n) (b:=(s++rest).length) (by rw [List.length_append];omega) (Nat.le_refl _)
 rw [List.take_length,show List.drop n (s++rest)=rest by rw [hns,List.drop_left]] at hsub
 exact hsub
theorem GR (v:Value) (b:List Nat) (W:List ByteArray) (C:List Nat) (w:World) (hv:RdL w v (a7 .u8) b) (he:b=aN (dq W C W.length)) (hok:okW W) (hCl:C.length=W.length) (hsz:∀ x∈W,x.size<=120) (hC:∀ c∈C,1<=c/\c<=4096) (hsum:C.sum<=4096) (hn:W.length<=1024):
  CallsV Tryz.prog 152 [v] w λ r w'=>∃ g vw vc vo,r= .tuple #[.pointer (some ⟨g,0,none⟩),.int .i64 0]/\Sat w [aj g 166 [vw,vc,vo],cL vw 9 ay W,cL vc 3 (a7 .i64) C,cL vo 3 (a7 .i64) (ordN W)] w':=by
 refine cn Tryz.func152 rfl λ hs0=> .Z rfl<| .seq ?_
 have hal:=fa C hsz W.length (Nat.le_refl _)
 refine .region<| .c 1 (qk _ (b) (dq W C W.length) _ (hv.ext hs0.ext) (he) (iD W C _) (by omega)) rfl λ r1 w1 h1=> ?_
 obtain ⟨uv1,rfl,p1⟩:=h1
 have s1:=hs0.aD p1
 refine .Z rfl<| .seq<| .Z rfl<| .ak rfl (rfl)<| .skip<| .seq ?_
 have hpay:=s1.ah 0 rfl
 rw [Dh hCl] at hpay
 have hv1:=hv.ext s1.ext
 have hsb:Sat w1 [] w1:=Sat.start _
 have hel0:=jf (dM W 0) W C hsz
 have huw:=aK W.length
 refine .region<| .a 1 rfl (.build M9 rfl ⟨(hpay.ext hsb.ext).aa,rfl,trivial⟩ rfl)<| .al 0 hsb rfl λ b1 _ s2 _ _=> .sa 0 s2 0 (vs:=[uv1,(.bool true)]) rfl (λ v h=>by simp only [List.mem_cons,List.not_mem_nil,or_false] at h;rcases h with rfl|rfl;exact (hpay.ext s2.ext).aa;exact rfl) λ _ s3 _=> ?_
 have s3:=s3.nn
 refine .nil<| .h<| .e rfl (.build Ji rfl trivial rfl)<| .bx 0 s3 rfl λ b2 _ s4 _ _=> .Z rfl<| .Z rfl<| .seq<| .h ?_
 have A1:=s4.tail.oc [0,1] 1
 refine .c 0 (pf _ _ _ _ _ (W.length) (1024) (dN (dM W 0) W C) A1 hpay (dK (cF _) (jX _ _ _)) (by simp only [List.length_append,aH,ByteArray.size_extract];omega) (by omega) (by omega) (by omega)) rfl λ r2 _ h2=> ?_
 obtain ⟨rfl,bv1,hbv1,p2⟩:=h2
 have s5:=(Sat.order [0,1] (by decide) p2.join).aJ.nn
 refine .Z rfl<| .block ?_
 have s6:=s5.aE 9 (ay)
 have s7:=s6.aE 3 (a7 .i64)
 have s8:=s7.cB 2 rfl (show []=W.take 0 from rfl)
 have s9:=s8.cB 3 rfl (show []=C.take 0 from rfl)
 refine .lq [0,6,7] rfl (α:=Nat×Value×ByteArray×Nat×Value×Value) (λ (k,bv,p,z,vw,vc)=>[(8,(.string p)),(9,(.int .i64 z)),(10,(.int .i64 ((W.length-k):Nat)))]) (λ (k,bv,p,z,vw,vc) w'=>Sat w1 [aj b1 261 [bv,(.bool true)],aj b2 166 [vw,vc,(.slice none 0 0)],cL vw 9 (ay) (W.take k),cL vc 3 (a7 .i64) (C.take k)] w'/\(k<=W.length)/\(RdL w1 bv (a7 .u8) (dN p (W.drop k) (C.drop k)))/\(p=dM W k)/\(p.size<=120)/\(z=(C.take k).sum)) (λ (k,bv,p,z,vw,vc)=>W.length-k) (0,bv1,(ByteArray.mk #[]),0,(.slice none 0 0),(.slice none 0 0)) ⟨s9,Nat.zero_le _,by rw [List.drop_zero,List.drop_zero];exact hbv1,rfl,by decide,rfl⟩ ?_
 rintro ⟨k,bv,p,z,vw,vc⟩ w6 ⟨s10,hk,hbv,hp,hpl,hz⟩
 refine .seq<| .h<| .z 3 rfl<| .B 28 rfl (λ g1=> ?_) λ g1=> ?_
 ·refine .ld 1 s10 0 rfl<| .Z rfl<| .dA rfl (rfl)<| .skip<| .seq<| .block<| .seq ?_
  obtain ⟨x,hx⟩:∃ x,W[k]? =some x:=⟨_,List.getElem?_eq_getElem (by omega)⟩
  obtain ⟨c,hcc⟩:∃ c,C[k]? =some c:=⟨_,List.getElem?_eq_getElem (by omega)⟩
  have hxs:=hsz x (List.mem_of_getElem? hx)
  have hcb:=hC c (List.mem_of_getElem? hcc)
  have hcm:=pc p x
  have hcm1:=Di p x
  have hel:=BQ C x (k+1) hsz hn
  have hu1:=aK (bT p x)
  have hu2:=aK (x.size-bT p x)
  have hu3:=aK (c-1)
  have hsl:=vM C (k+1)
  rw [cD hcc] at hsl
  have hb1:=hbv
  rw [Dj hx hcc hp] at hb1
  refine .region<| .a 1 rfl (.bM Tryz.underlying9 rfl) ?_
  have A2:=s10.tail.oc [0,1,2,3] 1
  refine .c 0 (pf _ _ _ _ _ (bT p x) (p.size) (uv (x.size-bT p x)++(bD (x.extract (bT p x) x.size)++(uv (c-1)++dN x (W.drop (k+1)) (C.drop (k+1))))) A2 hb1 (dK (cF _) (dK (cF _) (dK (k7 _) (dK (cF _) (jX _ _ _))))) (by simp only [List.length_append,aH,ByteArray.size_extract];omega) (by omega) (by omega) (by omega)) rfl λ r3 _ h3=> ?_
  obtain ⟨rfl,bv2,hbv2,p3⟩:=h3
  have s11:=(Sat.order [0,1,2,3] (by decide) p3.join).aJ.nn
  refine .Z rfl<| .seq<| .dk [1,2,3] s11 rfl (pl [0,1,2,1003,1004,5,6] .fin) λ s12 S1=> .z 2 S1 rfl<| .e rfl (λ _ s=> .iy (l:=0) (h:=(bT p x)) Tryz.underlying9 rfl rfl ⟨_,rfl⟩ (by omega) (by omega)) S1 ?_
  have A3:=s12.tail.oc [0,1,2,3] 1
  refine .c 0 S1 (pf _ _ _ _ _ (x.size-bT p x) (120) (bD (x.extract (bT p x) x.size)++(uv (c-1)++dN x (W.drop (k+1)) (C.drop (k+1)))) A3 hbv2 (dK (cF _) (dK (k7 _) (dK (cF _) (jX _ _ _)))) (by simp only [List.length_append,aH,ByteArray.size_extract];omega) (by omega) (by omega) (by omega)) rfl λ r4 _ h4=> ?_
  obtain ⟨rfl,bv3,hbv3,p4⟩:=h4
  have s13:=(Sat.order [0,1,2,3] (by decide) p4.join).aJ.nn
  have S2:=s13.pk [1,2,3]
  refine ⟨S2,?_⟩
  have A4:=s13.tail.oc [0,1,2,3] 1
  refine .c 0 S2 (Dk _ _ _ _ _ ((x.size-bT p x)) (bD (x.extract (bT p x) x.size)) (uv (c-1)++dN x (W.drop (k+1)) (C.drop (k+1))) A4 hbv3 (dK (k7 _) (dK (cF _) (jX _ _ _))) (by simp only [List.length_append,aH,ByteArray.size_extract];omega) (by rw [aH,ByteArray.size_extract];omega)) rfl λ r5 _ h5=> ?_
  obtain ⟨rfl,bv4,hbv4,p5⟩:=h5
  have s14:=(Sat.order [0,1,2,3] (by decide) p5.join).aJ.nn
  have S3:=s14.pk [1,2,3]
  refine ⟨S3,?_⟩
  refine .e rfl (λ _ s=> .Lf rfl rfl (by rw [fS,ByteArray.size_extract,ByteArray.size_extract];omega)) S3<| .Z S3 rfl<| .seq<| .weaken [(0,_),(6,_),(7,_),(8,_),(9,_),(10,_),(11,_),(12,(.string x)),(26,_),(27,_),(28,_),(29,_),(30,_),(34,_),(35,_),(36,_),(37,_),(38,_),(39,_),(40,_),(41,_),(42,_)] ⟨rfl,rfl,rfl,rfl,rfl,rfl,rfl,congrArg some (congrArg Value.string (u6 p x)),rfl,rfl,rfl,rfl,rfl,rfl,rfl,rfl,rfl,rfl,rfl,rfl,rfl,rfl,trivial⟩<| .region ?_
  have A5:=s14.tail.oc [0,1,2,3] 1
  refine .c 0 (pf _ _ _ _ _ (c-1) (4095) (dN x (W.drop (k+1)) (C.drop (k+1))) A5 hbv4 (dK (cF _) (jX _ _ _)) (by simp only [List.length_append,aH,ByteArray.size_extract];omega) (by omega) (by omega) (by omega)) rfl λ r6 _ h6=> ?_
  obtain ⟨rfl,bv5,hbv5,p6⟩:=h6
  have s15:=(Sat.order [0,1,2,3] (by decide) p6.join).aJ.nn
  refine .Z rfl<| .seq<| .weaken [(0,_),(6,_),(7,_),(8,_),(9,_),(10,_),(11,_),(12,_),(13,(.int .i64 c)),(26,_),(27,_),(28,_),(29,_),(30,_),(34,_),(35,_),(36,_),(37,_),(38,_),(39,_),(40,_),(41,_),(42,_),(43,_),(44,_)] ⟨rfl,rfl,rfl,rfl,rfl,rfl,rfl,rfl,congrArg some (congrArg (λ q:Nat=>Value.int .i64 (q:Int)) (show c-1+1=c by omega)),rfl,rfl,rfl,rfl,rfl,rfl,rfl,rfl,rfl,rfl,rfl,rfl,rfl,rfl,rfl,rfl,trivial⟩<| .U rfl<| .seq<| .seq ?_
  rcases Nat.eq_zero_or_pos k with hk0|hk0
  ·refine .region<| .ld 3 s15 1 rfl<| .ln 0 (s15.ah 2 rfl) rfl<| .z 2 rfl<| .Gf 54 rfl (decide_eq_false (by rw [List.length_take];omega))<| .a 6 rfl (.bM Tryz.underlying9 rfl)<| .z 3 rfl<| .Gf 64 rfl (decide_eq_false (by omega))<| .cp 1 s15 (gw x _ (by omega)) rfl λ _ s16=> .a 0 rfl (.ct rfl)<| .z 2 rfl<| .Gf 69 rfl (by rw [hok.2 x (List.mem_of_getElem? hx)]<;>rfl)<| .Z rfl<| .ak rfl (decide_eq_false (by omega))<| .skip<| .seq<| .trim [0,6,7,8,9,10,11,12,13] rfl ?_
   have hshp1:=(s16.ah (E:=ay) 2 rfl).iB (by decide)
   have hshp2:=(s16.ah (E:=a7 .i64) 3 rfl).iB (by decide)
   refine .jU [0,1] [0] s16 rfl rfl 18 (pl [0] (.loose 1 (pl [2,3,4,5,6] (.loose 9 (.loose 10 (.loose 11 (pl [12] (.loose 13 (.two 7 14 (.two 8 14 (pl [1014,1015] (.loose 16 (pl [17] (.bar 18 (pl [19,20,1021] .fin))))) (pl [1008,1015] (.loose 16 (pl [17] (.bar 18 (pl [19,20,1021] .fin)))))) (pl [1007,1008,1015] (.loose 16 (pl [17] (.bar 18 (pl [19,20,1021] .fin)))))))))))))) mixed (by kernel_rfl) ?_
   have s17:=s16.drew
   have S4:=s17.pk [0,1]
   refine .z 1 S4 rfl<| .loose rfl rfl rfl (λ _ s=> .move rfl) S4<| .ld 3 S4 1 rfl<| .z 1 S4 rfl<| .loose rfl rfl rfl (λ _ s=> .move rfl) S4<| .loose rfl rfl rfl (λ _ s=> .nilCheck rfl) S4<| .loose rfl rfl rfl (λ _ s=> .fieldAddr xR rfl rfl) S4<| .ld 0 S4 1 rfl<| .loose rfl rfl rfl (λ _ s=> .move rfl) S4<| .two rfl rfl rfl rfl rfl rfl (OpE.cR (ay) x cu rfl s17 rfl λ v1 _ s18 _=> ?_) (OpE.cR (a7 .i64) c aZ rfl s17 rfl λ v2 _ s19 _=> ?_)
   ·have S5:=s18.pk [0,1]
    refine ⟨S5,?_⟩
    refine .two rfl rfl rfl rfl rfl rfl (OpE.aG 2 cu s18 rfl rfl rfl Tryz.underlying28 (s18.ah 4 rfl) (by simp only [List.length_append,List.length_take,List.length_cons,List.length_nil];omega) (by simp only [List.length_append,List.length_take,List.length_cons,List.length_nil];omega) λ v3 _ s20 _=> ?_) (OpE.cR (a7 .i64) c aZ rfl s18 rfl λ v_4 _ s21 _=> ?_)
    ·have s20:=s20.pk [0,1,2,3]
     have S6:=s20.pk [0,1]
     refine ⟨S6,?_⟩
     refine .f rfl (.cR (a7 .i64) c aZ rfl s20 rfl λ v5 _ s22 _=> ?_)
     have S7:=s22.pk [0,1]
     refine ⟨S7,?_⟩
     refine .f rfl (.aG 3 aZ s22 rfl rfl rfl Tryz.underlying22 (s22.ah 4 rfl) (by simp only [List.length_append,List.length_take,List.length_cons,List.length_nil];omega) (by simp only [List.length_append,List.length_take,List.length_cons,List.length_nil];omega) λ v6 _ s23 _=> ?_)
     have s23:=s23.pk [0,1,2,3]
     have S8:=s23.pk [0,1]
     refine ⟨S8,?_⟩
     refine .loose rfl rfl rfl (λ _ s=> .nilCheck rfl) S8<| .z 1 S8 rfl<| .bar rfl rfl rfl (OpE.aI oR s23 (i:=1) rfl rfl rfl ((s23.ah 2 rfl).aa) rfl λ _ s24 _=> ?_)
     have S9:=s24.pk [0]
     refine ⟨S9,?_⟩
     refine .z 2 S9 rfl<| .f rfl (.aI jM s24 (i:=1) rfl rfl rfl ((s24.ah 3 rfl).aa) rfl λ _ s25 _=> ?_)
     have S10:=s25.pk [0]
     refine ⟨S10,?_⟩
     refine .fin<| .U rfl<| .U rfl ?_
     have s26:=s25.cB 2 rfl (show W.take k++[x]=W.take (k+1) from (bn hx).symm)
     have s27:=s26.cB 3 rfl (show C.take k++[c]=C.take (k+1) from (bn hcc).symm)
     exact ⟨(k+1,bv5,x,(z+c),v3,v6),⟨rfl,rfl,congrArg some (congrArg (λ q:Nat=>Value.int .i64 (q:Int)) (show W.length-k-1=W.length-(k+1) by omega)),rfl,rfl,rfl,trivial⟩,⟨s27.pk [0,1,2,3],by omega,hbv5,(dY hx).symm,by omega,by rw [cD hcc,hz]⟩,by dsimp only;omega⟩
    have s21:=s21.nn
    have S11:=s21.pk [0,1]
    refine ⟨S11,?_⟩
    refine .f rfl (.aG 2 cu s21 rfl rfl rfl Tryz.underlying28 (s21.ah 4 rfl) (by simp only [List.length_append,List.length_take,List.length_cons,List.length_nil];omega) (by simp only [List.length_append,List.length_take,List.length_cons,List.length_nil];omega) λ v7 _ s29 _=> ?_)
    have s29:=s29.pk [0,1,2,3,5]
    have S12:=s29.pk [0,1]
    refine ⟨S12,?_⟩
    refine .f rfl (.aG 3 aZ s29 rfl rfl rfl Tryz.underlying22 (s29.ah 4 rfl) (by simp only [List.length_append,List.length_take,List.length_cons,List.length_nil];omega) (by simp only [List.length_append,List.length_take,List.length_cons,List.length_nil];omega) λ v8 _ s30 _=> ?_)
    have s30:=s30.pk [0,1,2,3]
    have S13:=s30.pk [0,1]
    refine ⟨S13,?_⟩
    refine .loose rfl rfl rfl (λ _ s=> .nilCheck rfl) S13<| .z 1 S13 rfl<| .bar rfl rfl rfl (OpE.aI oR s30 (i:=1) rfl rfl rfl ((s30.ah 2 rfl).aa) rfl λ _ s31 _=> ?_)
    have S14:=s31.pk [0]
    refine ⟨S14,?_⟩
    refine .z 2 S14 rfl<| .f rfl (.aI jM s31 (i:=1) rfl rfl rfl ((s31.ah 3 rfl).aa) rfl λ _ s32 _=> ?_)
    have S15:=s32.pk [0]
    refine ⟨S15,?_⟩
    refine .fin<| .U rfl<| .U rfl ?_
    have s33:=s32.cB 2 rfl (show W.take k++[x]=W.take (k+1) from (bn hx).symm)
    have s34:=s33.cB 3 rfl (show C.take k++[c]=C.take (k+1) from (bn hcc).symm)
    exact ⟨(k+1,bv5,x,(z+c),v7,v8),⟨rfl,rfl,congrArg some (congrArg (λ q:Nat=>Value.int .i64 (q:Int)) (show W.length-k-1=W.length-(k+1) by omega)),rfl,rfl,rfl,trivial⟩,⟨s34.pk [0,1,2,3],by omega,hbv5,(dY hx).symm,by omega,by rw [cD hcc,hz]⟩,by dsimp only;omega⟩
   have S16:=s19.pk [0,1]
   refine ⟨S16,?_⟩
   refine .f rfl (.cR (ay) x cu rfl s19 rfl λ v9 _ s36 _=> ?_)
   have s36:=s36.nn
   have S17:=s36.pk [0,1]
   refine ⟨S17,?_⟩
   refine .f rfl (.aG 2 cu s36 rfl rfl rfl Tryz.underlying28 (s36.ah 5 rfl) (by simp only [List.length_append,List.length_take,List.length_cons,List.length_nil];omega) (by simp only [List.length_append,List.length_take,List.length_cons,List.length_nil];omega) λ v10 _ s37 _=> ?_)
   have s37:=s37.pk [0,1,2,3,4]
   have S18:=s37.pk [0,1]
   refine ⟨S18,?_⟩
   refine .f rfl (.aG 3 aZ s37 rfl rfl rfl Tryz.underlying22 (s37.ah 4 rfl) (by simp only [List.length_append,List.length_take,List.length_cons,List.length_nil];omega) (by simp only [List.length_append,List.length_take,List.length_cons,List.length_nil];omega) λ v11 _ s38 _=> ?_)
   have s38:=s38.pk [0,1,2,3]
   have S19:=s38.pk [0,1]
   refine ⟨S19,?_⟩
   refine .loose rfl rfl rfl (λ _ s=> .nilCheck rfl) S19<| .z 1 S19 rfl<| .bar rfl rfl rfl (OpE.aI oR s38 (i:=1) rfl rfl rfl ((s38.ah 2 rfl).aa) rfl λ _ s39 _=> ?_)
   have S20:=s39.pk [0]
   refine ⟨S20,?_⟩
   refine .z 2 S20 rfl<| .f rfl (.aI jM s39 (i:=1) rfl rfl rfl ((s39.ah 3 rfl).aa) rfl λ _ s40 _=> ?_)
   have S21:=s40.pk [0]
   refine ⟨S21,?_⟩
   refine .fin<| .U rfl<| .U rfl ?_
   have s41:=s40.cB 2 rfl (show W.take k++[x]=W.take (k+1) from (bn hx).symm)
   have s42:=s41.cB 3 rfl (show C.take k++[c]=C.take (k+1) from (bn hcc).symm)
   exact ⟨(k+1,bv5,x,(z+c),v10,v11),⟨rfl,rfl,congrArg some (congrArg (λ q:Nat=>Value.int .i64 (q:Int)) (show W.length-k-1=W.length-(k+1) by omega)),rfl,rfl,rfl,trivial⟩,⟨s42.pk [0,1,2,3],by omega,hbv5,(dY hx).symm,by omega,by rw [cD hcc,hz]⟩,by dsimp only;omega⟩
  obtain ⟨y,hy⟩:∃ y,W[k-1]? =some y:=⟨_,List.getElem?_eq_getElem (by omega)⟩
  have hpy:p=y:=by rw [hp];unfold dM;rw [if_neg (by omega),cg hy]
  have hlt:=hok.1.lt hy hx (by omega)
  rw [<-hpy] at hlt
  refine .region<| .ld 3 s15 1 rfl<| .ln 0 (s15.ah 2 rfl) rfl<| .z 2 rfl<| .Gt 54 rfl (decide_eq_true (by rw [List.length_take];omega))<| .a 2 rfl (.Lg rfl rfl)<| .z 2 rfl<| .Gf 59 rfl (decide_eq_false (λ h9=>h9 hlt))<| .a 1 rfl (.bM Tryz.underlying9 rfl)<| .z 3 rfl<| .Gf 64 rfl (decide_eq_false (by omega))<| .cp 1 s15 (gw x _ (by omega)) rfl λ _ s44=> .a 0 rfl (.ct rfl)<| .z 2 rfl<| .Gf 69 rfl (by rw [hok.2 x (List.mem_of_getElem? hx)]<;>rfl)<| .Z rfl<| .ak rfl (decide_eq_false (by omega))<| .skip<| .seq<| .trim [0,6,7,8,9,10,11,12,13] rfl ?_
  have hshp3:=(s44.ah (E:=ay) 2 rfl).iB (by decide)
  have hshp4:=(s44.ah (E:=a7 .i64) 3 rfl).iB (by decide)
  refine .jU [0,1] [0] s44 rfl rfl 18 (pl [0] (.loose 1 (pl [2,3,4,5,6] (.loose 9 (.loose 10 (.loose 11 (pl [12] (.loose 13 (.two 7 14 (.two 8 14 (pl [1014,1015] (.loose 16 (pl [17] (.bar 18 (pl [19,20,1021] .fin))))) (pl [1008,1015] (.loose 16 (pl [17] (.bar 18 (pl [19,20,1021] .fin)))))) (pl [1007,1008,1015] (.loose 16 (pl [17] (.bar 18 (pl [19,20,1021] .fin)))))))))))))) mixed (by kernel_rfl) ?_
  have s45:=s44.drew
  have S22:=s45.pk [0,1]
  refine .z 1 S22 rfl<| .loose rfl rfl rfl (λ _ s=> .move rfl) S22<| .ld 3 S22 1 rfl<| .z 1 S22 rfl<| .loose rfl rfl rfl (λ _ s=> .move rfl) S22<| .loose rfl rfl rfl (λ _ s=> .nilCheck rfl) S22<| .loose rfl rfl rfl (λ _ s=> .fieldAddr xR rfl rfl) S22<| .ld 0 S22 1 rfl<| .loose rfl rfl rfl (λ _ s=> .move rfl) S22<| .two rfl rfl rfl rfl rfl rfl (OpE.cR (ay) x cu rfl s45 rfl λ v12 _ s46 _=> ?_) (OpE.cR (a7 .i64) c aZ rfl s45 rfl λ v13 _ s47 _=> ?_)
  ·have S23:=s46.pk [0,1]
   refine ⟨S23,?_⟩
   refine .two rfl rfl rfl rfl rfl rfl (OpE.aG 2 cu s46 rfl rfl rfl Tryz.underlying28 (s46.ah 4 rfl) (by simp only [List.length_append,List.length_take,List.length_cons,List.length_nil];omega) (by simp only [List.length_append,List.length_take,List.length_cons,List.length_nil];omega) λ v14 _ s48 _=> ?_) (OpE.cR (a7 .i64) c aZ rfl s46 rfl λ v15 _ s49 _=> ?_)
   ·have s48:=s48.pk [0,1,2,3]
    have S24:=s48.pk [0,1]
    refine ⟨S24,?_⟩
    refine .f rfl (.cR (a7 .i64) c aZ rfl s48 rfl λ v16 _ s50 _=> ?_)
    have S25:=s50.pk [0,1]
    refine ⟨S25,?_⟩
    refine .f rfl (.aG 3 aZ s50 rfl rfl rfl Tryz.underlying22 (s50.ah 4 rfl) (by simp only [List.length_append,List.length_take,List.length_cons,List.length_nil];omega) (by simp only [List.length_append,List.length_take,List.length_cons,List.length_nil];omega) λ v17 _ s51 _=> ?_)
    have s51:=s51.pk [0,1,2,3]
    have S26:=s51.pk [0,1]
    refine ⟨S26,?_⟩
    refine .loose rfl rfl rfl (λ _ s=> .nilCheck rfl) S26<| .z 1 S26 rfl<| .bar rfl rfl rfl (OpE.aI oR s51 (i:=1) rfl rfl rfl ((s51.ah 2 rfl).aa) rfl λ _ s52 _=> ?_)
    have S27:=s52.pk [0]
    refine ⟨S27,?_⟩
    refine .z 2 S27 rfl<| .f rfl (.aI jM s52 (i:=1) rfl rfl rfl ((s52.ah 3 rfl).aa) rfl λ _ s53 _=> ?_)
    have S28:=s53.pk [0]
    refine ⟨S28,?_⟩
    refine .fin<| .U rfl<| .U rfl ?_
    have s54:=s53.cB 2 rfl (show W.take k++[x]=W.take (k+1) from (bn hx).symm)
    have s55:=s54.cB 3 rfl (show C.take k++[c]=C.take (k+1) from (bn hcc).symm)
    exact ⟨(k+1,bv5,x,(z+c),v14,v17),⟨rfl,rfl,congrArg some (congrArg (λ q:Nat=>Value.int .i64 (q:Int)) (show W.length-k-1=W.length-(k+1) by omega)),rfl,rfl,rfl,trivial⟩,⟨s55.pk [0,1,2,3],by omega,hbv5,(dY hx).symm,by omega,by rw [cD hcc,hz]⟩,by dsimp only;omega⟩
   have s49:=s49.nn
   have S29:=s49.pk [0,1]
   refine ⟨S29,?_⟩
   refine .f rfl (.aG 2 cu s49 rfl rfl rfl Tryz.underlying28 (s49.ah 4 rfl) (by simp only [List.length_append,List.length_take,List.length_cons,List.length_nil];omega) (by simp only [List.length_append,List.length_take,List.length_cons,List.length_nil];omega) λ v18 _ s57 _=> ?_)
   have s57:=s57.pk [0,1,2,3,5]
   have S30:=s57.pk [0,1]
   refine ⟨S30,?_⟩
   refine .f rfl (.aG 3 aZ s57 rfl rfl rfl Tryz.underlying22 (s57.ah 4 rfl) (by simp only [List.length_append,List.length_take,List.length_cons,List.length_nil];omega) (by simp only [List.length_append,List.length_take,List.length_cons,List.length_nil];omega) λ v19 _ s58 _=> ?_)
   have s58:=s58.pk [0,1,2,3]
   have S31:=s58.pk [0,1]
   refine ⟨S31,?_⟩
   refine .loose rfl rfl rfl (λ _ s=> .nilCheck rfl) S31<| .z 1 S31 rfl<| .bar rfl rfl rfl (OpE.aI oR s58 (i:=1) rfl rfl rfl ((s58.ah 2 rfl).aa) rfl λ _ s59 _=> ?_)
   have S32:=s59.pk [0]
   refine ⟨S32,?_⟩
   refine .z 2 S32 rfl<| .f rfl (.aI jM s59 (i:=1) rfl rfl rfl ((s59.ah 3 rfl).aa) rfl λ _ s60 _=> ?_)
   have S33:=s60.pk [0]
   refine ⟨S33,?_⟩
   refine .fin<| .U rfl<| .U rfl ?_
   have s61:=s60.cB 2 rfl (show W.take k++[x]=W.take (k+1) from (bn hx).symm)
   have s62:=s61.cB 3 rfl (show C.take k++[c]=C.take (k+1) from (bn hcc).symm)
   exact ⟨(k+1,bv5,x,(z+c),v18,v19),⟨rfl,rfl,congrArg some (congrArg (λ q:Nat=>Value.int .i64 (q:Int)) (show W.length-k-1=W.length-(k+1) by omega)),rfl,rfl,rfl,trivial⟩,⟨s62.pk [0,1,2,3],by omega,hbv5,(dY hx).symm,by omega,by rw [cD hcc,hz]⟩,by dsimp only;omega⟩
  have S34:=s47.pk [0,1]
  refine ⟨S34,?_⟩
  refine .f rfl (.cR (ay) x cu rfl s47 rfl λ v20 _ s64 _=> ?_)
  have s64:=s64.nn
  have S35:=s64.pk [0,1]
  refine ⟨S35,?_⟩
  refine .f rfl (.aG 2 cu s64 rfl rfl rfl Tryz.underlying28 (s64.ah 5 rfl) (by simp only [List.length_append,List.length_take,List.length_cons,List.length_nil];omega) (by simp only [List.length_append,List.length_take,List.length_cons,List.length_nil];omega) λ v21 _ s65 _=> ?_)
  have s65:=s65.pk [0,1,2,3,4]
  have S36:=s65.pk [0,1]
  refine ⟨S36,?_⟩
  refine .f rfl (.aG 3 aZ s65 rfl rfl rfl Tryz.underlying22 (s65.ah 4 rfl) (by simp only [List.length_append,List.length_take,List.length_cons,List.length_nil];omega) (by simp only [List.length_append,List.length_take,List.length_cons,List.length_nil];omega) λ v22 _ s66 _=> ?_)
  have s66:=s66.pk [0,1,2,3]
  have S37:=s66.pk [0,1]
  refine ⟨S37,?_⟩
  refine .loose rfl rfl rfl (λ _ s=> .nilCheck rfl) S37<| .z 1 S37 rfl<| .bar rfl rfl rfl (OpE.aI oR s66 (i:=1) rfl rfl rfl ((s66.ah 2 rfl).aa) rfl λ _ s67 _=> ?_)
  have S38:=s67.pk [0]
  refine ⟨S38,?_⟩
  refine .z 2 S38 rfl<| .f rfl (.aI jM s67 (i:=1) rfl rfl rfl ((s67.ah 3 rfl).aa) rfl λ _ s68 _=> ?_)
  have S39:=s68.pk [0]
  refine ⟨S39,?_⟩
  refine .fin<| .U rfl<| .U rfl ?_
  have s69:=s68.cB 2 rfl (show W.take k++[x]=W.take (k+1) from (bn hx).symm)
  have s70:=s69.cB 3 rfl (show C.take k++[c]=C.take (k+1) from (bn hcc).symm)
  exact ⟨(k+1,bv5,x,(z+c),v21,v22),⟨rfl,rfl,congrArg some (congrArg (λ q:Nat=>Value.int .i64 (q:Int)) (show W.length-k-1=W.length-(k+1) by omega)),rfl,rfl,rfl,trivial⟩,⟨s70.pk [0,1,2,3],by omega,hbv5,(dY hx).symm,by omega,by rw [cD hcc,hz]⟩,by dsimp only;omega⟩
 refine .Z rfl<| .ak rfl (rfl)<| .ao<| .seq<| .seq ?_
 have s72:=s10.cB 2 rfl (show W.take k=W from by rw [show k=W.length by omega,List.take_length])
 have s73:=s72.cB 3 rfl (show C.take k=C from by rw [show k=C.length by omega,List.take_length])
 have s74:=s73.aE 3 (a7 .i64)
 refine .region<| .ld 1 s74 0 rfl<| .c 3 (sL _ _ _ _ _ _ _ _ (s74.tV 1 2 3 4 rfl rfl rfl rfl) hCl hsz (λ c hc=>⟨(hC c hc).1,by have:=(hC c hc).2;omega⟩) (by omega)) rfl λ r9 _ h_9=> ?_
 have s75:=(s74.aD h_9).nn
 refine .cp 1 s75 (u5 _ _ (aN (dq W C W.length)) (b) _ (s75.ah 5 rfl) (hv1.ext s75.ext) (zW (iD W C _)) (by rw [he];exact zW (iD W C _))) rfl λ _ s76=> .a 0 rfl (.jd rfl)<| .Z rfl<| .ak rfl (decide_eq_false (λ h9=>h9 he.symm))<| .skip<| .h<| .z 1 rfl ?_
 have A6:=s76.tail.oc [1,2,0,3,4,5] 2
 refine .c 0 (sK _ _ _ _ _ _ (W) A6 (hok) (λ x hx=>Nat.le_trans (hsz x hx) (by decide)) (by omega) ((s76.ah 3 rfl).aa)) rfl λ r11 _ h11=> ?_
 obtain ⟨rfl,vo1,p11⟩:=h11
 have s77:=(Sat.order [3,0,1,4,5,6,2] (by decide) p11.join).aJ.nn
 refine .nil<| .Z rfl<| .bL rfl rfl rfl ?_
 exact ⟨_,_,_,_,rfl,(s1.aD (s77.pk [1,2,3,6])).sub (.cons _ (.refl _))⟩
end Go.Proofs.YthffkcnbdehceaaGreat
namespace Go.Proofs.YthffkcnbdehceaaGreat
open Go.RowKit Go.Kw
set_option maxRecDepth 100000
theorem Dl {p x y:ByteArray} {c d:Nat} {r s:List Nat} (hp:p.size<2^32) (hx:x.size<=120) (hy:y.size<=120) (hc:c<2^32) (hd:d<2^32) (h:oT p x c++r=oT p y d++s):x=y/\r=s:=by
 have b1:=pc p x;have b2:=pc p y
 unfold oT at h
 simp only [List.append_assoc] at h
 obtain ⟨e1,h⟩:=cr (by omega) (by omega) h
 obtain ⟨e2,h⟩:=cr (by omega) (by omega) h
 obtain ⟨e3,h⟩:=List.append_inj h (by rw [aH,aH,ByteArray.size_extract,ByteArray.size_extract];omega)
 obtain ⟨_,h⟩:=cr (by omega) (by omega) h
 refine ⟨?_,h⟩
 rw [<-u6 p x,<-u6 p y,e3,e1]
theorem vW:∀ (W W':List ByteArray) (C C':List Nat) (p:ByteArray) (r s:List Nat),W.length=W'.length->C.length=W.length->C'.length=W'.length->p.size<2^32->(∀ x∈W,x.size<=120)->(∀ x∈W',x.size<=120)->(∀ c∈C,c<2^32)->(∀ c∈C',c<2^32)->dN p W C++r=dN p W' C'++s->W=W'
 |[],[],_,_,_,_,_,_,_,_,_,_,_,_,_,_=>rfl
 |[],_::_,_,_,_,_,_,h,_,_,_,_,_,_,_,_=>by cases h
 |_::_,[],_,_,_,_,_,h,_,_,_,_,_,_,_,_=>by cases h
 |_::_,_::_,[],_,_,_,_,_,h,_,_,_,_,_,_,_=>by cases h
 |_::_,_::_,_::_,[],_,_,_,_,_,h,_,_,_,_,_,_=>by cases h
 |x::W,y::W',c::C,d::C',p,r,s,h1,h2,h3,hp,hW,hW',hC,hC',h=>by
  rw [dN,dN,List.append_assoc,List.append_assoc] at h
  have hx:=hW x (by simp)
  obtain ⟨e,h4⟩:=Dl hp hx (hW' y (by simp)) (hC c (by simp)) (hC' d (by simp)) h
  subst e
  rw [vW W W' C C' x r s (by simpa using h1) (by simpa using h2) (by simpa using h3) (by omega) (λ z hz=>hW z (by simp [hz])) (λ z hz=>hW' z (by simp [hz])) (λ z hz=>hC z (by simp [hz])) (λ z hz=>hC' z (by simp [hz])) h4]
theorem Dm {W W':List ByteArray} {C C':List Nat} (h2:C.length=W.length) (h3:C'.length=W'.length) (hn:W.length<2^32) (hn':W'.length<2^32) (hW:∀ x∈W,x.size<=120) (hW':∀ x∈W',x.size<=120) (hC:∀ c∈C,c<2^32) (hC':∀ c∈C',c<2^32) (h:dq W C W.length=dq W' C' W'.length):W=W':=by
 have e1:=jW h2 W.length (Nat.le_refl _)
 have e2:=jW h3 W'.length (Nat.le_refl _)
 rw [List.drop_of_length_le (Nat.le_refl _),show dN (dM W W.length) [] (C.drop W.length)=[] by simp [dN],List.append_nil] at e1
 rw [List.drop_of_length_le (Nat.le_refl _),show dN (dM W' W'.length) [] (C'.drop W'.length)=[] by simp [dN],List.append_nil] at e2
 rw [e1,e2] at h
 obtain ⟨a1,a2⟩:=cr (by omega) (by omega) h
 exact vW W W' C C' (ByteArray.mk #[]) [] [] a1 h2 h3 (by decide) hW hW' hC hC' (by rw [List.append_nil,List.append_nil];exact a2)
def lexB (us:List ByteArray):List Nat:=aN (dq (au us) (aV us) (au us).length)
def cw (l:List Nat):List Nat:=aN (na l (bO l))
theorem nC (us:List ByteArray):∀ c∈aV us,c<=us.length:=λ c hc=>by
 unfold aV at hc
 obtain ⟨w,_,rfl⟩:=List.mem_map.1 hc
 unfold lM
 exact List.countP_le_length
theorem yE {us:List ByteArray} (h:us.length<=1024):OkN (cT us):=by
 have h2:=bQ us
 refine ⟨by unfold cT;rw [List.length_map];omega,λ x hx=> ?_⟩
 have:=pO x hx
 omega
theorem lU {us:List ByteArray} (h:uP us):(lexB us).length<=160000:=by
 have h1:=bQ us
 have h0:=h.1
 have h2:=fa (W:=au us) (aV us) (λ x hx=>h.2 x (bW.1 hx)) _ (Nat.le_refl _)
 unfold lexB
 rw [bJ];omega
theorem lV {us:List ByteArray} (h:us.length<=1024):(cw (cT us)).length<=2000004:=by
 have:=pq (yE h) (dV (cT us))
 unfold cw
 rw [bJ];omega
theorem Lx:XT lexB cw where
 xl us h:=by have:=lU h;omega
 tl us h:=by have:=lV h.1;omega
 xi us vs hu hv h:=by
  have h1:=bQ us
  have h2:=bQ vs
  have h3:=hu.1
  have h4:=hv.1
  exact Dm (ez us) (ez vs) (by omega) (by omega) (λ x hx=>hu.2 x (bW.1 hx)) (λ x hx=>hv.2 x (bW.1 hx)) (λ c hc=>by have:=nC us c hc;omega) (λ c hc=>by have:=nC vs c hc;omega) (o9 h)
theorem GS {j k:Nat} {a b:Co} (ha:OkC j a) (hb:OkC k b) (hj:j<=80) (hk:k<=80) (h:aN (fo lexB cw a.v)=aN (fo lexB cw b.v)):a.v=b.v:=
 (HY Lx (ha.MS hj) (hb.MS hk) (r:=[]) (s:=[]) (by rw [o9 h])).1
end Go.Proofs.YthffkcnbdehceaaGreat
namespace Go.Proofs.YthffkcnbdehceaaGreat
open Go.RowKit Go.Kw
set_option maxRecDepth 100000
def ql:Enc (Nat×Nat):=⟨2,λ x=>[.int .i64 (x.1:Int),.int .i64 (x.2:Int)],λ _=>rfl,λ x u h=>by simp at h;rcases h with rfl|rfl<;>rfl⟩
theorem GU {l:List Nat} {k x:Nat} (hx:l[k]? =some x) (h:k%16=0):je l (k+1)=je l k++[(x,(da 0 (l.take k)).length)]:=by
 rw [je,if_pos h,getD_some hx]
theorem GV {l:List Nat} {k:Nat} (h:¬ k%16=0):je l (k+1)=je l k:=by rw [je,if_neg h]
theorem u7 {l:List Nat} {k x:Nat} (hx:l[k]? =some x):da 0 (l.take (k+1))=da 0 (l.take k)++eP (x+1-xJ l k):=by rw [ar hx,xI]<;>rfl
theorem sQ (v:Value) (l:List Nat) (w:World) (hv:RdL w v (a7 .i64) l) (hl:OkP l):
  CallsV Tryz.prog 81 [v] w λ r w'=>∃ g bv sv,r= .tuple #[.pointer (some ⟨g,0,none⟩),.int .i64 ((0:Nat):Int)]/\Sat w [aj g 173 [.int .i64 (l.length:Int),.int .i64 ((da 0 l).length:Int),bv,sv],cL bv 5 (a7 .u8) (aB (da 0 l)),cL sv 192 ql (je l l.length)] w':=by
 refine cn Tryz.func81 rfl λ hs0=> .Z rfl<| .seq<| .seq ?_
 have hln:=hl.len
 refine .region<| .ln 1 (hv.ext hs0.ext) rfl<| .Z rfl<| .ak rfl (decide_eq_false (by have:=hl.len;omega))<| .skip<| .h<| .ln 1 (hv.ext hs0.ext) rfl<| .e rfl (.build M5 rfl ⟨rfl,trivial⟩ rfl)<| .bx 0 hs0 rfl λ b1 _ s1 _ _=> .Z rfl<| .h<| .c 0 (iC _) rfl λ r1 _ h_1=> ?_
 obtain ⟨b2,rfl,p1⟩:=h_1
 have s2:=s1.aD p1
 refine .Z rfl<| .Z rfl<| .seq<| .h<| .ln 1 (hv.ext s2.ext) rfl<| .Z rfl<| .block ?_
 have s3:=s2.aE 192 (ql)
 refine .lq [0,4,5,17,18] rfl (α:=Nat×Value×List Bool×Value×List (Nat×Nat)) (λ (k,wv,bits,sv,sk)=>[(6,(.int .i64 ((((xJ l k:Nat):Int)-1)))),(19,(.int .i64 k))]) (λ (k,wv,bits,sv,sk) w'=>Sat w [aj b1 173 [(.int .i64 l.length),(.int .i64 (0:Nat)),(.slice none 0 0),sv],aj b2 256 [wv,(.int .i64 ((bits).length:Nat))],cL wv 5 (a7 .u8) (aB (bits)),cL sv 192 (ql) (sk)] w'/\(k<=l.length)/\(bits=da 0 (l.take k))/\(sk=je l k)/\(bits.length<=42*k)) (λ (k,wv,bits,sv,sk)=>l.length-k) (0,(.slice none 0 0),[],(.slice none 0 0),[]) ⟨s3,Nat.zero_le _,rfl,rfl,Nat.zero_le _⟩ ?_
 rintro ⟨k,wv,bits,sv,sk⟩ w3 ⟨s4,hk,hbits,hsk,hbl⟩
 refine .Z rfl<| .seq<| .ab rfl (λ c1=> ?_) λ c1=> ?_
 ·refine .skip<| .seq<| .block<| .seq ?_
  obtain ⟨x,hx⟩:∃ x,(l)[k]? =some x:=⟨_,List.getElem?_eq_getElem c1⟩
  have hx4:=hl.lt x (a8 hx)
  have hbf:=zB hl hx
  have hdl:=AR (v:=x+1-xJ l k) (by omega)
  refine .region<| .ix 1 (hv.ext s4.ext) rfl<| .le 0 (hv.ext s4.ext) hx rfl<| .Z rfl<| .seq<| .block<| .seq<| .br 24 ((x<0)\/(2147483647<x)) ?_ ?_
  ·refine .z 3 rfl<| .B 27 rfl (λ g1=> ?_) λ g1=> ?_
   ·refine .M rfl (by simp [g1])
   refine .M rfl (by simp [g1])
  refine .ak rfl (decide_eq_false (by omega))<| .h<| .a 2 rfl (.leq rfl rfl)<| .Z rfl<| .ak rfl (decide_eq_false (by omega))<| .skip<| .seq<| .h<| .a 1 rfl (.rem (b:=16) rfl rfl (by omega))<| .Z rfl<| .ab rfl (λ c2=> ?_) λ c2=> ?_
  ·have hskl:sk.length=(k+15)/16:=by rw [hsk,ni]
   have hshp1:=(s4.ah (E:=ql) 3 rfl).iB (by decide)
   refine .jU [0,1,2] [1,2] s4 rfl rfl 13 (pl [0,1,2,3,4,5,6,1007,8,1009,1010] (.loose 11 (pl [12] (.bar 13 .fin)))) mixed (by kernel_rfl) ?_
   have s5:=s4.drew
   have S1:=s5.pk [0,1,2]
   refine .ld 4 S1 0 rfl<| .c 2 S1 (u4 _ ((bits).length) _ (s5.cell (i:=1) (j:=1) rfl rfl)) rfl λ r2 _ h2=> ?_
   obtain ⟨rfl,p2⟩:=h2
   have s6:=(s5.aD p2).nn
   have S2:=s6.pk [0,1,2]
   refine ⟨S2,?_⟩
   refine .e rfl (λ _ s=> .build M6 rfl ⟨rfl,rfl,trivial⟩ rfl) S2<| .f rfl (.cC (ql) (x,bits.length) FH (by decide) (by decide) s6 rfl λ v1 _ s7 _=> ?_)
   have S3:=s7.pk [0,1,2]
   refine ⟨S3,?_⟩
   refine .f rfl (.aG 3 FH s7 rfl rfl rfl Tryz.underlying171 (s7.ah 4 rfl) (by simp;omega) (by simp;omega) λ v2 _ s8 _=> ?_)
   have s8:=s8.pk [0,1,2,3]
   have S4:=s8.pk [0,1,2]
   refine ⟨S4,?_⟩
   refine .loose rfl rfl rfl (λ _ s=> .nilCheck rfl) S4<| .z 1 S4 rfl<| .bar rfl rfl rfl (OpE.aI KC s8 (i:=0) rfl rfl rfl ((s8.ah 3 rfl).aa) rfl λ _ s9 _=> ?_)
   have S5:=s9.pk [1,2]
   refine ⟨S5,?_⟩
   refine .fin<| .h<| .a 3 rfl (.pQ rfl rfl (by omega) (by omega))<| .z 1 rfl ?_
   have A1:=s9.tail.oc [1,2,0,3] 2
   refine .c 0 (zU _ _ _ _ _ (bits) ((x+1-xJ l k)) A1 (by omega) (by omega) (by omega)) rfl λ r3 _ h3=> ?_
   obtain ⟨rfl,wv1,p3⟩:=h3
   have s10:=(Sat.order [2,0,1,3] (by decide) p3.join).aJ.nn
   refine .nil<| .U rfl<| .U rfl ?_
   exact ⟨(k+1,wv1,bits++eP ((x+1-xJ l k)),v2,sk++[(x,bits.length)]),⟨congrArg some (congrArg (Value.int .i64) (by rw [nh hx];omega)),rfl,rfl,rfl,rfl,rfl,rfl,trivial⟩,⟨s10,by omega,by rw [u7 hx,hbits],by rw [GU hx c2,hsk,hbits],by rw [List.length_append];omega⟩,by dsimp only;omega⟩
  refine .skip<| .h<| .a 3 rfl (.pQ rfl rfl (by omega) (by omega))<| .z 1 rfl ?_
  have A2:=s4.tail.oc [1,2,0,3] 2
  refine .c 0 (zU _ _ _ _ _ (bits) ((x+1-xJ l k)) A2 (by omega) (by omega) (by omega)) rfl λ r4 _ h4=> ?_
  obtain ⟨rfl,wv2,p4⟩:=h4
  have s11:=(Sat.order [2,0,1,3] (by decide) p4.join).aJ.nn
  refine .nil<| .U rfl<| .U rfl ?_
  exact ⟨(k+1,wv2,bits++eP ((x+1-xJ l k)),sv,sk),⟨congrArg some (congrArg (Value.int .i64) (by rw [nh hx];omega)),rfl,rfl,rfl,rfl,rfl,rfl,trivial⟩,⟨s11,by omega,by rw [u7 hx,hbits],by rw [GV c2,hsk],by rw [List.length_append];omega⟩,by dsimp only;omega⟩
 refine .ao<| .h<| .c 3 (nz _ _ (aB (bits)) _ (s4.cell (i:=1) (j:=0) rfl rfl) (s4.ah 2 rfl) (by rw [aM];omega)) rfl λ r5 _ h5=> ?_
 have s12:=(s4.aD h5).nn
 refine .cp 1 s12 (u4 _ ((bits).length) _ (s12.cell (i:=1) (j:=1) rfl rfl)) rfl λ _ s13=> .st 2 s13 0 rfl (h1:=(s13.ah 4 rfl).aa) λ _ s14 _=> .st 2 s14 0 rfl λ _ s15 _=> ?_
 have s15:=s15.nn
 refine .nil<| .Z rfl<| .bL rfl rfl rfl ?_
 have s16:=(Sat.order [0,4,3,1,2] (by decide) s15.tail).aJ.pk [0,1,2]
 rw [show k=l.length by omega,List.take_length] at hbits
 rw [show k=l.length by omega] at hsk
 subst hbits hsk
 exact ⟨_,_,_,rfl,s16⟩
end Go.Proofs.YthffkcnbdehceaaGreat
namespace Go.Proofs.YthffkcnbdehceaaGreat
open Go.RowKit Go.Kw
set_option maxRecDepth 100000
theorem vX (l:List Nat) {a b:Nat} (h:a<=b):(da 0 (l.take a)).length<=(da 0 (l.take b)).length:=by
 have e:l.take b=l.take a++(l.take b).drop a:=by
  have h9:=List.take_append_drop a (l.take b)
  rw [List.take_take,Nat.min_eq_left h] at h9
  exact h9.symm
 rw [e,uL,List.length_append];omega
theorem Dn {l:List Nat} (h:OkP l) {k:Nat} {x y:Nat×Nat} (hk:1<=k) (hx:(je l l.length)[k]? =some x) (hy:(je l l.length)[k-1]? =some y):y.1<=x.1/\y.2<=x.2/\x.1<4096/\x.2<=200000:=by
 obtain ⟨rfl,h1⟩:=pM l _ _ _ hx
 obtain ⟨rfl,h2⟩:=pM l _ _ _ hy
 have g1:l.getD (16*k) 0=l[16*k]:=getD_some (List.getElem?_eq_getElem h1)
 have g2:l.getD (16*(k-1)) 0=l[16*(k-1)]:=getD_some (List.getElem?_eq_getElem h2)
 have a1:=List.pairwise_iff_getElem.1 h.asc (16*(k-1)) (16*k) h2 h1 (by omega)
 have a2:=h.lt _ (List.getElem_mem h1)
 have a3:=jI (l.take (16*k)) 0 λ p hp=>h.lt p (List.mem_of_mem_take hp)
 have a4:=h.len
 rw [List.length_take] at a3
 exact ⟨by rw [g1,g2];omega,vX l (by omega),by rw [g1];exact a2,by simp only;omega⟩
def Jz (l:List Nat):List Nat:=uv l.length++uv (da 0 l).length++aB (da 0 l)
theorem Dp {s:List (Nat×Nat)} {k:Nat} {x y:Nat×Nat} (hk:1<=k) (hx:s[k]? =some x) (hy:s[k-1]? =some y):CE s (k+1)=CE s k++uv (x.1-y.1)++uv (x.2-y.2):=by
 rw [CE,if_neg (by omega),List.getD_eq_getElem?_getD,List.getD_eq_getElem?_getD,hx,hy]<;>rfl
theorem qm (g:Nat) (bv sv:Value) (l:List Nat) (w:World) (h0:w.cell? ⟨g,0,none⟩=some (.int .i64 (l.length:Int))) (h1:w.cell? ⟨g,1,none⟩=some (.int .i64 ((da 0 l).length:Int))) (h2:w.cell? ⟨g,2,none⟩=some bv) (h3:w.cell? ⟨g,3,none⟩=some sv) (hbr:RdL w bv (a7 .u8) (aB (da 0 l))) (hsr:RdL w sv ql (je l l.length)) (hl:OkP l):
  CallsV Tryz.prog 82 [(.pointer (some ⟨g,0,none⟩))] w λ r w'=>Sat w [cL r 5 (a7 .u8) (aN (nj l))] w':=by
 refine cn Tryz.func82 rfl λ hs0=> .Z rfl<| .seq ?_
 have hln:=hl.len
 have hgl:=jI l 0 hl.lt
 have hpl:=aM (da 0 l)
 have hskl:=ni l l.length
 have hu1:=aK l.length
 have hu2:=aK (da 0 l).length
 refine .region<| .a 3 rfl (.load fy rfl (hs0.ext _ _ h0))<| .c 1 (cK (Value.slice none 0 0) ([]) (l.length) _ (RdL.nil _ _) (by simp) (by omega)) rfl λ r1 _ h_1=> ?_
 have s1:=hs0.aD h_1
 refine .Z rfl<| .h<| .a 4 rfl (.load fy rfl (s1.ext _ _ h1))<| .c 1 (cK r1 (uv (l.length)) ((da 0 l).length) _ (s1.ah 0 rfl) (by omega) (by omega)) rfl λ r2 _ h_2=> ?_
 have s2:=s1.aD h_2
 refine .Z rfl<| .h<| .a 4 rfl (.load zG rfl (s2.ext _ _ h2))<| .ap 0 s2 1 (hbr.ext s2.ext) rfl (h1:=by rw [List.length_append];omega) (h2:=by rw [List.length_append];omega) λ v1 _ s3 _=> .Z rfl<| .seq<| .Z rfl<| .block ?_
 refine .lq [0] rfl (α:=Nat×Value×List Nat) (λ (k,ov,acc)=>[(3,ov),(4,(.int .i64 k))]) (λ (k,ov,acc) w'=>Sat w [cL ov 5 (a7 .u8) (acc)] w'/\(1<=k)/\(k<=(je l l.length).length\/k=1)/\(acc=Jz l++CE (je l l.length) k)/\(acc.length<=40000+20*k)) (λ (k,ov,acc)=>(je l l.length).length+1-k) (1,v1,uv (l.length)++uv ((da 0 l).length)++aB (da 0 l)) ⟨s3.pick [1] rfl,Nat.le_refl _,by omega,by simp [Jz,CE],by simp only [List.length_append];omega⟩ ?_
 rintro ⟨k,ov,acc⟩ w4 ⟨s5,hk,hkl,hacc,hal⟩
 refine .seq<| .h<| .a 4 rfl (.load nr rfl (s5.ext _ _ h3))<| .ln 0 (hsr.ext s5.ext) rfl<| .Z rfl<| .ab rfl (λ c1=> ?_) λ c1=> ?_
 ·refine .skip<| .seq<| .block<| .seq ?_
  obtain ⟨x,hx⟩:∃ x,(je l l.length)[k]? =some x:=⟨_,List.getElem?_eq_getElem c1⟩
  obtain ⟨y,hy⟩:∃ y,(je l l.length)[k-1]? =some y:=⟨_,List.getElem?_eq_getElem (by omega)⟩
  obtain ⟨hs1,hs2,hs3,hs4⟩:=Dn hl hk hx hy
  refine .dk [0] s5 rfl (pl [0,1,2,3,4,5,6,7,8,9,10,11,12,13,14,15,16,17,18,19,1020,21] .fin) λ s6 S1=> .z 4 S1 rfl<| .e rfl (λ _ s=> .load nr rfl (s.ext _ _ h3)) S1<| .ix 1 S1 (hsr.ext ·.ext) rfl<| .fl 0 S1 (hsr.ext ·.ext) rfl<| .lf 0 S1 (hsr.ext ·.ext) hx rfl<| .z 3 S1 rfl<| .e rfl (λ _ s=> .load nr rfl (s.ext _ _ h3)) S1<| .ix 2 S1 (hsr.ext ·.ext) rfl<| .fl 0 S1 (hsr.ext ·.ext) rfl<| .lf 0 S1 (hsr.ext ·.ext) hy rfl<| .c 2 S1 (cK ov (acc) ((x.1-y.1)) _ (s6.ah 0 rfl) (by omega) (by omega)) rfl λ r3 _ h_3=> ?_
  have s7:=s6.aD h_3
  have S2:=s7.pk [0]
  refine ⟨S2,?_⟩
  refine .Z S2 rfl<| .dk [0,1] s7 rfl (pl [0,1,2,3,4,5,6,7,8,9,10,11,12,13,14,15,16,17,18,19,1020,21] .fin) λ s8 S3=> .z 4 S3 rfl<| .e rfl (λ _ s=> .load nr rfl (s.ext _ _ h3)) S3<| .ix 1 S3 (hsr.ext ·.ext) rfl<| .fl 0 S3 (hsr.ext ·.ext) rfl<| .lf 0 S3 (hsr.ext ·.ext) hx rfl<| .z 3 S3 rfl<| .e rfl (λ _ s=> .load nr rfl (s.ext _ _ h3)) S3<| .ix 2 S3 (hsr.ext ·.ext) rfl<| .fl 0 S3 (hsr.ext ·.ext) rfl<| .lf 0 S3 (hsr.ext ·.ext) hy rfl<| .c 2 S3 (cK r3 (acc++uv ((x.1-y.1))) ((x.2-y.2)) _ (s8.ah 1 rfl) (by have h8:=aK (x.1-y.1);rw [List.length_append];omega) (by omega)) rfl λ r4 _ h4=> ?_
  have s9:=s8.aD h4
  have S4:=s9.pk [0,1]
  refine ⟨S4,?_⟩
  refine .Z S4 rfl<| .trim [0,3,4] rfl<| .U rfl ?_
  exact aX (k+1,r4,acc++uv ((x.1-y.1))++uv ((x.2-y.2))) ⟨s9.pk [2],by omega,by omega,by rw [Dp hk hx hy,hacc];simp only [List.append_assoc],by have h8:=aK (x.1-y.1);have h9:=aK (x.2-y.2);simp only [List.length_append];omega⟩
 refine .ao<| .seq ?_
 have hfin:acc=nj l:=by
  rw [hacc];unfold nj Jz
  rcases Nat.eq_zero_or_pos (je l l.length).length with e|e
  ·rw [e,show k=1 by omega]<;>rfl
  rw [show k=(je l l.length).length by omega]
 refine .region<| .c 1 (pd _ (acc) _ (s5.ah 0 rfl) (λ x hx=>jJ l x (by rw [<-hfin];exact hx)) (by rw [hfin];have:=iY hl;omega)) rfl λ r5 _ h5=> ?_
 have s11:=s5.aD h5
 refine .Z rfl<| .az rfl rfl ?_
 have s12:=s11.pk [1]
 rw [hfin] at s12
 exact s12
end Go.Proofs.YthffkcnbdehceaaGreat
namespace Go.Proofs.YthffkcnbdehceaaGreat
open Go.RowKit Go.Kw
set_option maxRecDepth 100000
theorem Ly {l:List Nat} (h:OkP l) {k x:Nat} (hx:l[k]? =some x):Fe (aB (da 0 l)) (da 0 (l.take k)).length (x+1-xJ l k)/\(da 0 (l.take k)).length+(eP (x+1-xJ l k)).length=(da 0 (l.take (k+1))).length/\(da 0 (l.take (k+1))).length<=(da 0 l).length:=by
 have h1:=zB h hx
 have h2:=h.lt x (a8 hx)
 have e:=u7 hx
 have h3:=vX l (show k+1<=l.length from bU hx)
 rw [List.take_length] at h3
 have e2:da 0 l=da 0 (l.take k)++(eP (x+1-xJ l k)++da (Ka 0 (l.take (k+1))) (l.drop (k+1))):=by
  rw [<-List.append_assoc,<-e,<-uL,List.take_append_drop]
 refine ⟨?_,by rw [e,List.length_append],h3⟩
 rw [e2]
 exact Fg _ _ (by omega) (by omega)
theorem GW (v:Value) (b l:List Nat) (w:World) (hv:RdL w v (a7 .u8) b) (hbn:b.length<=1000000) (hp:b.take (((da 0 l).length+7)/8)=aB (da 0 l)) (hle:(da 0 l).length<=8*b.length) (hl:OkP l):
  CallsV Tryz.prog 212 [v,(.int .i64 ((da 0 l).length:Nat)),(.int .i64 l.length)] w λ r w'=>∃ v',r= .tuple #[v',.bool true]/\Sat w [cL v' 3 (a7 .i64) l] w':=by
 refine cn Tryz.func212 rfl λ hs0=> .Z rfl<| .seq ?_
 have hln:=hl.len
 have hgl:=jI l 0 hl.lt
 have hpl:=aM (da 0 l)
 have hpb:=gd (da 0 l)
 refine .region<| .c 2 (iF _ (b) ((da 0 l).length) _ (hv.ext hs0.ext) (hle) (by omega)) rfl λ r1 _ h_1=> ?_
 obtain ⟨rg_1,rv1,rfl,p1⟩:=h_1
 have s1:=hs0.aD p1
 refine .Z rfl<| .seq<| .Z rfl<| .ak rfl (decide_eq_false (by simp))<| .skip<| .Z rfl<| .Z rfl<| .seq<| .Z rfl<| .block ?_
 have s2:=s1.aE 3 (a7 .i64)
 refine .lq [8,22] rfl (α:=Nat×Nat×Value×List Nat) (λ (k,ps,ov,ol)=>[(10,ov),(11,(.int .i64 ((((xJ l k:Nat):Int)-1)))),(23,(.int .i64 k))]) (λ (k,ps,ov,ol) w'=>Sat w (s2.U [(0,aj rg_1 274 [rv1,(.int .i64 ((da 0 l).length:Nat)),(.int .i64 ps)]),(2,cL ov 3 (a7 .i64) (ol))]) w'/\(k<=l.length)/\(ps=(da 0 (l.take k)).length)/\(ol=l.take k)) (λ (k,ps,ov,ol)=>l.length-k) (0,0,(.slice none 0 0),[]) ⟨s2,Nat.zero_le _,rfl,rfl⟩ ?_
 rintro ⟨k,ps,ov,ol⟩ w2 ⟨s3,hk,hps,hol⟩
 refine .Z rfl<| .seq<| .ab rfl (λ c1=> ?_) λ c1=> ?_
 ·refine .skip<| .seq<| .block<| .seq ?_
  obtain ⟨x,hx⟩:∃ x,l[k]? =some x:=⟨_,List.getElem?_eq_getElem c1⟩
  obtain ⟨hq1,hq2,hq3⟩:=Ly hl hx
  have hx4:=hl.lt x (a8 hx)
  have hbf:=zB hl hx
  refine .region<| .z 1 rfl ?_
  have A1:=s3.tail.oc [0,1,2] 2
  refine .c 0 (GP _ _ _ _ _ (b.take (((da 0 l).length+7)/8)) ((da 0 l).length) (ps) (x+1-xJ l k) A1 (by rw [hp];exact hpb) (by rw [hp,hpl];omega) (by rw [hp,hpl];omega) (by omega) (by omega) (by rw [hps];omega) (by rw [hp,hps];exact hq1)) rfl λ r2 _ h_2=> ?_
  obtain ⟨rfl,p2⟩:=h_2
  have s4:=(Sat.order [0,1,2] (by decide) p2.join).aJ.nn
  refine .Z rfl<| .seq<| .seq<| .br 35 ((0≠0)\/(2147483648<(x+1-xJ l k))) ?_ ?_
  ·refine .M rfl (by simp [])
  refine .ak rfl (decide_eq_false (by simp;omega))<| .skip<| .h<| .a 3 rfl (.add rfl rfl (by unfold ba;omega))<| .Z rfl<| .weaken [(8,_),(10,_),(11,(.int .i64 x)),(12,_),(13,_),(22,_),(23,_),(25,_),(26,_),(27,_),(28,_),(29,_),(36,_),(37,_),(38,_),(39,_)] ⟨rfl,rfl,congrArg some (congrArg (Value.int .i64) (by omega)),rfl,rfl,rfl,rfl,rfl,rfl,rfl,rfl,rfl,rfl,rfl,rfl,rfl,trivial⟩<| .region<| .b 2 rfl (.cR (a7 .i64) x aZ rfl s4 rfl λ v1 _ s5 _=> ?_)
  refine .ap 0 s5 2 (s5.ah 3 rfl) rfl (h1:=by rw [hol];simp;omega) (h2:=by rw [hol];simp;omega) λ v2 _ s6 _=> ?_
  refine .Z rfl<| .U rfl ?_
  exact ⟨(k+1,(ps+(eP (x+1-xJ l k)).length),v2,ol++[x]),⟨rfl,congrArg some (congrArg (Value.int .i64) (by rw [nh hx];omega)),rfl,rfl,rfl,trivial⟩,⟨s6.pk [0,1,2],by omega,by rw [hps];exact hq2,by rw [ar hx,hol]⟩,by dsimp only;omega⟩
 refine .ao<| .Z rfl<| .bL rfl rfl rfl ?_
 rw [show k=l.length by omega,List.take_length] at hol
 subst hol
 exact ⟨_,rfl,s3.pk [2]⟩
end Go.Proofs.YthffkcnbdehceaaGreat
