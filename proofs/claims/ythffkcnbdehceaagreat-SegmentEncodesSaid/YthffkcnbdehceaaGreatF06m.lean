/-The walks of the functions of F06m,printed by our own program (kwgen.py) out of our descriptions (base.py). -/
import Derived.Test.YthffkcnbdehceaaGreatF06k
import Derived.Test.YthffkcnbdehceaaGreatKsh
import Derived.Test.YthffkcnbdehceaaGreatF41r
open List
open Go.Proofs.Tryz
set_option linter.unusedVariables false
set_option linter.unusedSimpArgs false
set_option linter.unusedSectionVars false
namespace Go.Proofs.YthffkcnbdehceaaGreat
open Go.RowKit Go.Kw
set_option maxRecDepth 100000
theorem E5 (x:Int) (n:Nat) (w:World) (h:1<=n) (hn:n<=1000000000):
  CallsV prog 17 [(.int .i64 (x)),(.int .i64 n)] w λ r w'=>∃ k:Nat,r= .int .i64 (k:Int)/\k<n/\Sat w [] w':=by
 have ht:=IU x n h
 have hs0:=Sat.start w
 refine ai func17 rfl rfl ?_
 refine .Z rfl<| .seq<| .Z rfl<| .aj rfl (IN (by omega))<| .skip<| .h<| .a 2 rfl (.Pn rfl rfl (by omega))<| .Z rfl<| .seq<| .h<| .a 1 rfl (.lss rfl rfl)<| .nil<| .ae rfl (λ c1=> ?_) λ c1=> ?_
 ·refine .region<| .a 2 rfl (.add rfl rfl (by unfold aY;omega))<| .Z rfl<| .Z rfl<| .aC rfl rfl ?_
  exact ⟨(x.tmod n+n).toNat,If (Value.int .i64) (by omega),by omega,hs0.pk []⟩
 refine .skip<| .Z rfl<| .aC rfl rfl ?_
 exact ⟨(x.tmod n).toNat,If (Value.int .i64) (by omega),by omega,hs0.pk []⟩
def zi:List ByteArray:=[(ByteArray.mk #[115]),(ByteArray.mk #[110,112]),(ByteArray.mk #[116])]
theorem Cl:∀ s∈zi,bC s=true:=by
 intro s hs
 simp only [zi,PR,PU,Q9] at hs
 rcases hs with rfl|rfl|rfl<;>decide
theorem E7 (n:Nat) (w:World) (h:n<6):
  CallsV prog 60 [(.int .i64 n)] w λ r w'=>∃ s,r= .string s/\s∈oI/\Sat w [] w':=by
 refine cg func60 rfl λ hs0=> .Z rfl<| .seq ?_
 obtain ⟨x,hx⟩:∃ x,([(ByteArray.mk #[97]),(ByteArray.mk #[98]),(ByteArray.mk #[99]),(ByteArray.mk #[65]),(ByteArray.mk #[97,98]),(ByteArray.mk #[])]:List ByteArray)[n]? =some x:=⟨_,py (show n<6 from h)⟩
 refine .region<| .f rfl (.gW (ax) [(ByteArray.mk #[97]),(ByteArray.mk #[98]),(ByteArray.mk #[99]),(ByteArray.mk #[65]),(ByteArray.mk #[97,98]),(ByteArray.mk #[])] bu rfl ⟨rfl,rfl,rfl,rfl,rfl,rfl,trivial⟩ rfl rfl rfl rfl (by decide) (by decide) hs0 λ v1 _ s1 _=> ?_)
 refine .ix 1 (s1.ah 0 rfl) rfl (hj:=(show n<6 from h))<| .le 0 (s1.ah 0 rfl) hx rfl<| .Z rfl<| .aC rfl rfl ?_
 exact ⟨x,rfl,a7 hx,s1.pk []⟩
theorem Le (n:Nat) (w:World) (h:n<2):
  CallsV prog 61 [(.int .i64 n)] w λ r w'=>∃ s,r= .string s/\s∈u4/\Sat w [] w':=by
 refine cg func61 rfl λ hs0=> .Z rfl<| .seq ?_
 obtain ⟨x,hx⟩:∃ x,([(ByteArray.mk #[88]),(ByteArray.mk #[89])]:List ByteArray)[n]? =some x:=⟨_,py (show n<2 from h)⟩
 refine .region<| .f rfl (.gW (ax) [(ByteArray.mk #[88]),(ByteArray.mk #[89])] bu rfl ⟨rfl,rfl,trivial⟩ rfl rfl rfl rfl (by decide) (by decide) hs0 λ v1 _ s1 _=> ?_)
 refine .ix 1 (s1.ah 0 rfl) rfl (hj:=(show n<2 from h))<| .le 0 (s1.ah 0 rfl) hx rfl<| .Z rfl<| .aC rfl rfl ?_
 exact ⟨x,rfl,a7 hx,s1.pk []⟩
theorem HW (n:Nat) (w:World) (h:n<4):
  CallsV prog 62 [(.int .i64 n)] w λ r w'=>∃ s,r= .string s/\s∈mr/\Sat w [] w':=by
 refine cg func62 rfl λ hs0=> .Z rfl<| .seq ?_
 obtain ⟨x,hx⟩:∃ x,([(ByteArray.mk #[124]),(ByteArray.mk #[124,112,124]),(ByteArray.mk #[124,112,124,113,124]),(ByteArray.mk #[124,113,124])]:List ByteArray)[n]? =some x:=⟨_,py (show n<4 from h)⟩
 refine .region<| .f rfl (.gW (ax) [(ByteArray.mk #[124]),(ByteArray.mk #[124,112,124]),(ByteArray.mk #[124,112,124,113,124]),(ByteArray.mk #[124,113,124])] bu rfl ⟨rfl,rfl,rfl,rfl,trivial⟩ rfl rfl rfl rfl (by decide) (by decide) hs0 λ v1 _ s1 _=> ?_)
 refine .ix 1 (s1.ah 0 rfl) rfl (hj:=(show n<4 from h))<| .le 0 (s1.ah 0 rfl) hx rfl<| .Z rfl<| .aC rfl rfl ?_
 exact ⟨x,rfl,a7 hx,s1.pk []⟩
theorem HX (n:Nat) (w:World) (h:n<1000000):
  CallsV prog 63 [(.int .i64 n)] w λ r w'=>∃ s,r= .string s/\s∈zi/\Sat w [] w':=by
 refine cg func63 rfl λ hs0=> .Z rfl<| .h<| .f rfl (.gW (ax) [(ByteArray.mk #[115]),(ByteArray.mk #[110,112]),(ByteArray.mk #[116])] bu rfl ⟨rfl,rfl,rfl,trivial⟩ rfl rfl rfl rfl (by decide) (by decide) hs0 λ v1 _ s1 _=> ?_)
 refine .c 1 (E5 ((n:Nat):Int) (3) _ (by omega) (by omega)) rfl λ r1 _ h1=> ?_
 obtain ⟨mk1,rfl,hmk1,p1⟩:=h1
 have s2:=s1.az p1
 refine .ix 0 (s2.ah 0 rfl) rfl (hj:=(show mk1<3 from hmk1)) ?_
 obtain ⟨x,hx⟩:∃ x,([(ByteArray.mk #[115]),(ByteArray.mk #[110,112]),(ByteArray.mk #[116])]:List ByteArray)[mk1]? =some x:=⟨_,py (show mk1<3 from hmk1)⟩
 refine .le 0 (s2.ah 0 rfl) hx rfl<| .Z rfl<| .aC rfl rfl ?_
 exact ⟨x,rfl,a7 hx,s2.pk []⟩
theorem aO (w0 w:World) (cs:List Chunk) (g n:Nat) (hs:Sat w0 ([sK 58 w0 g]++cs) w) (hn:1<=n) (hm:n<=1000000):
  CallsV prog 25 [(.pointer (some ⟨g,0,none⟩)),(.int .i64 n)] w λ r w'=>∃ k:Nat,r= .int .i64 (k:Int)/\k<n/\Sat w0 ([sK 58 w0 g]++cs) w':=by
 obtain ⟨v,zs,a,hv,hzl,ha,hs1⟩:=hs.MY
 refine ai func25 rfl rfl ?_
 refine .Z rfl<| .seq<| .seq<| .dt [0] hs1 rfl (pl [0,1,2,3,4,5,6,7,8,9] .fin) λ s1 S1=> .ld 3 S1 0 rfl<| .ld 3 S1 0 rfl<| .ln 0 S1 (hv.ext ·.ext) rfl<| .Z S1 rfl<| .ae rfl (λ c1=> ?_) λ c1=> ?_
 ·refine .Z rfl<| .aC rfl rfl ?_
  exact ⟨0,rfl,by omega,s1.wH hv hzl ha⟩
 refine .skip<| .h<| .ld 3 s1 0 rfl<| .st 3 s1 0 rfl λ _ s2 _=> ?_
 have s2d:=s2.sn
 refine .nil<| .seq ?_
 obtain ⟨z,hz⟩:∃ z,zs[a+1-1]? =some z:=⟨_,py (by omega)⟩
 refine .dt [0] s2d rfl (pl [0,1,2,3,4,5,6,7,8,9,10,11,1012,13] .fin) λ s3 S2=> .ld 3 S2 0 rfl<| .ld 3 S2 0 rfl<| .ix 1 S2 (hv.ext ·.ext) rfl<| .le 0 S2 (hv.ext ·.ext) hz rfl<| .c 1 S2 (E5 (z) (n) _ (by omega) (by omega)) rfl λ r1 _ h1=> ?_
 obtain ⟨mk1,rfl,hmk1,p1⟩:=h1
 have s4:=(s3.az p1).aI
 have S3:=s4.pt [0]
 refine ⟨S3,?_⟩
 refine .Z S3 rfl<| .aC rfl rfl ?_
 exact ⟨mk1,rfl,hmk1,Sat.wH (a:=a+1) s4 hv hzl (by omega)⟩
theorem HY (w0 w:World) (cs:List Chunk) (v:Value) (zs:List Int) (hs:Sat w0 ([]++cs) w) (hv:RdL w0 v (Kw.encI .i64) zs):
  CallsV prog 9 [v] w λ r w'=>∃ g,r= .pointer (some ⟨g,0,none⟩)/\Sat w0 ([sK 58 w0 g]++cs) w':=by
 refine ai func9 rfl rfl ?_
 refine .Z rfl<| .AP (λ L' w'=>∃ (v2:Value) (zs2:List Int),Weak [(0,v2)] L'/\Sat w0 ([]++cs) w'/\(RdL w0 v2 (Kw.encI .i64) zs2)/\(zs2.length<=120)) ?_ ?_
 ·refine .h<| .ln 1 (hv.ext hs.ext) rfl<| .Z rfl<| .ae rfl (λ c1=> ?_) λ c1=> ?_
  ·refine .region<| .a 1 rfl (.aV (E:=Kw.encI .i64) (a:=0) (c:=120) aQ rfl (hv.ext hs.ext) rfl ⟨_,rfl⟩ (by omega) (by omega))<| .Z rfl ?_
   exact ⟨(fu (Kw.encI .i64).s v 0 120),((zs).take 120).drop 0,⟨rfl,trivial⟩,hs,hv.sub (by omega) (by omega),by simp;omega⟩
  refine .skip ?_
  exact ⟨v,zs,⟨rfl,trivial⟩,hs,hv,by omega⟩
 rintro L' w1 ⟨v2,zs2,hw1,s1,hv2,hl2⟩
 refine .weaken _ hw1<| .h<| .a 1 rfl (.build P3 rfl ⟨(hv2.ext s1.ext).ab,trivial⟩ rfl)<| .bx 0 s1 rfl λ b1 _ s2 _ _=> ?_
 have s2d:=s2.mn
 refine .Z rfl<| .aC rfl rfl ?_
 exact ⟨_,rfl,Sat.wH (a:=0) s2d hv2 hl2 (KD _)⟩
theorem Cm (v:Value) (l:List Iv) (w:World) (hv:RdL w v aG l) (hk:∀ t∈l,RdL w t.sv.val aU t.ps) (hl:l.length<=8) (hps:∀ t∈l,t.ps.length<=8):
  CallsV prog 64 [v] w λ r w'=>∃ m,m.Perm l/\Au m/\Sat w [cL r 75 aG m] w':=by
 have hs0:=Sat.start w
 refine ai func64 rfl rfl ?_
 refine .Z rfl<| .Z rfl<| .seq<| .h<| .ln 1 (hv.ext hs0.ext) rfl<| .Z rfl<| .block ?_
 have s1:=hs0.aA 75 (aG)
 refine .lq [0,2,7,8] rfl (α:=Nat×Value×List Iv) (λ (k,mv,M)=>[(3,mv),(9,(.int .i64 k))]) (λ (k,mv,M) w'=>Sat w [cL mv 75 (aG) (M)] w'/\(M.Perm (l.take k))/\(Au M)) (λ (k,mv,M)=>l.length-k) (0,(.slice none 0 0),[]) ⟨s1,List.Perm.refl _,G5⟩ ?_
 rintro ⟨k,mv,M⟩ w1 ⟨s2,hMp,hMa⟩
 refine .Z rfl<| .seq<| .ae rfl (λ c1=> ?_) λ c1=> ?_
 ·refine .skip<| .seq<| .block<| .seq ?_
  obtain ⟨x,hx⟩:∃ x,(l)[k]? =some x:=⟨_,py c1⟩
  have hMm:∀ y∈M,y∈l:=λ y hy=>Q8 (hMp.mem_iff.1 hy)
  have hMl:M.length=k:=by rw [hMp.length_eq,KV];omega
  refine .region<| .ix 0 (hv.ext s2.ext) rfl<| .lg 0 (hv.ext s2.ext) hx rfl<| .al 0 s2 rfl λ b1 _ s3 _ _=> .sa 0 s3 1 rfl ((aG).one _) λ _ s4 _=> .nil<| .h<| .ln 1 (s4.ah 0 rfl) rfl<| .Z rfl<| .seq<| .block<| .lq [0,2,3,5,7,8,9] rfl (α:=Nat) (λ q=>[(6,(.int .i64 q))]) (λ q w'=>Sat w s4.L w'/\(q<=M.length)/\(∀ y,M[q]? =some y->0<ep y x)) (λ q=>q) M.length ⟨s4,KB _,λ y h=>by rw [Q3 (KB _)] at h;cases h⟩ ?_
  rintro q w4 ⟨s5,hq,hqg⟩
  refine .seq<| .seq ?_
  obtain ⟨y,hy⟩:∃ y,0<q->M[q-1]? =some y:=JB (λ h=>by omega)
  refine .md [0,2,3,5,6,7,8,9] rfl (λ K L' w'=>Weak ([(26,(.bool (decide ((0<q)/\((0:Int)<((ep y x):Int))))))]++K) L'/\Sat w s5.L w') ?_ ?_
  ·refine .dk [0,1] s5 rfl (pl [0,1,2,3,4,5,6,7,8,1009,10,11] .fin) λ s6 S1=> .z 3 S1 rfl<| .B 17 rfl (λ g1=> ?_) λ g1=> ?_
   ·refine .ix 3 S1 (·.ah 0 rfl) rfl<| .lg 0 S1 (·.ah 0 rfl) (hy (by omega)) rfl<| .a 0 S1 rfl (λ _ s=> .fH yQ rfl s (i:=1) rfl rfl)<| .c 0 S1 (wU y x _ ((hk _ (hMm _ (a7 (hy (by omega))))).ext s6.ext) ((hk _ (a7 hx)).ext s6.ext) (by have:=hps _ (hMm _ (a7 (hy (by omega))));omega) (by have:=hps _ (a7 hx);omega)) rfl λ r1 _ h_1=> ?_
    obtain ⟨rfl,p1⟩:=h_1
    have s7:=(s6.az p1).nn
    have S2:=s7.pk [0,1]
    refine ⟨S2,?_⟩
    refine .a 0 S2 rfl (λ _ s=> .gtr rfl rfl)<| .Z S2 rfl ?_
    exact ⟨⟨If some (If Value.bool (by simp [g1])),rfl,rfl,rfl,rfl,rfl,rfl,rfl,rfl,trivial⟩,s7⟩
   refine .Z S1 rfl ?_
   exact ⟨⟨If some (If Value.bool (by simp [g1])),rfl,rfl,rfl,rfl,rfl,rfl,rfl,rfl,trivial⟩,s6⟩
  rintro L' w6 ⟨hw1,s8⟩
  refine .weaken _ hw1<| .ae rfl (λ c2=> ?_) λ c2=> ?_
  ·refine .skip<| .block<| .U rfl ?_
   exact aT (q-1) ⟨s8,by omega,λ y2 h2=>by have h3:=hy c2.1;rw [h2] at h3;cases h3;exact c2.2⟩
  refine .ao<| .h<| .a 1 rfl (.build Mg rfl trivial rfl)<| .f rfl (.cn (aG) (⟨ByteArray.empty,0,0,⟨none,0,0⟩,[]⟩:Iv) oU (by decide) (by decide) s8 rfl λ v1 _ s9 _=> ?_)
  have s9:=s9.nn
  refine .ap 0 s9 0 (s9.ah 2 rfl) rfl (h1:=by simp only [KM];omega) (h2:=by simp only [KM];omega) λ v2 _ s10 _=> ?_
  have s10:=s10.pk [0,1]
  refine .Z rfl<| .seq ?_
  have hshp1:=(s10.ah (E:=aG) 0 rfl).iH (by decide)
  refine .iF [0,1] [1] s10 rfl rfl 7 (.loose 0 (.loose 1 (.loose 2 (pl [3] (.loose 4 (.loose 5 (pl [6] (.bar 7 .fin)))))))) mixed (by kernel_rfl) ?_
  have s11:=s10.drew
  have S3:=s11.pk [0,1]
  refine .loose rfl rfl rfl (λ _ s=> .move rfl) S3<| .loose rfl rfl rfl (λ _ s=> .move rfl) S3<| .loose rfl rfl rfl (λ _ s=> .Kc (b:=1) rfl rfl (by omega)) S3<| .e rfl (λ _ s=> .aV (E:=aG) (a:=(q+1)) (c:=(M++[(⟨ByteArray.empty,0,0,⟨none,0,0⟩,[]⟩:Iv)]).length) oU rfl (s.ah 0 rfl) ⟨_,rfl⟩ rfl (by simp;omega) (by simp)) S3<| .loose rfl rfl rfl (λ _ s=> .move rfl) S3<| .loose rfl rfl rfl (λ _ s=> .move rfl) S3<| .e rfl (λ _ s=> .aV (E:=aG) (a:=q) (c:=(M++[(⟨ByteArray.empty,0,0,⟨none,0,0⟩,[]⟩:Iv)]).length) oU rfl (s.ah 0 rfl) ⟨_,rfl⟩ rfl (by simp;omega) (by simp)) S3<| .bar rfl rfl rfl (OpE.N0 (k:=q) 0 oU s11 rfl rfl rfl (by simp;omega) λ _ s12=> ?_)
  have S4:=s12.pk [1]
  refine ⟨S4,?_⟩
  refine .fin<| .region<| .lo 2 s12 1 rfl<| .ix 0 (s12.ah 0 rfl) rfl (hj:=by simp;omega)<| .f rfl (.AO (a:=x) 0 yQ s12 rfl rfl rfl (by simp;omega) (by decide) λ _ s13 _=> ?_)
  refine .nil<| .U rfl ?_
  have hNe:=Lt (M:=M) (z:=(⟨ByteArray.empty,0,0,⟨none,0,0⟩,[]⟩:Iv)) (x:=x) hq
  have s14:=s13.aZ 0 rfl (show ((M++[(⟨ByteArray.empty,0,0,⟨none,0,0⟩,[]⟩:Iv)]).take (q+1)++((M++[(⟨ByteArray.empty,0,0,⟨none,0,0⟩,[]⟩:Iv)]).drop q).take ((M++[(⟨ByteArray.empty,0,0,⟨none,0,0⟩,[]⟩:Iv)]).length-(q+1))).set q x=M.take q++x::M.drop q from hNe)
  have hNp:(M.take q++x::M.drop q).Perm (l.take (k+1)):=by rw [aR hx];exact G7 M _ x q hMp
  have hNa:Au (M.take q++x::M.drop q):=G6 hMa hq (λ y2 h0 h2=>by have h3:=hy h0;rw [h2] at h3;cases h3;exact Int.not_lt.1 λ h4=>c2 ⟨h0,h4⟩) (λ y2 h2=>hqg y2 h2)
  exact aT (k+1,v2,M.take q++x::M.drop q) ⟨s14.pk [0],hNp,hNa⟩
 refine .ao<| .Z rfl<| .aC rfl rfl ?_
 rw [PV (by omega)] at hMp
 exact ⟨_,hMp,hMa,s2.pk [0]⟩
theorem kK {l:List ByteArray} (h:l.all bC=true) {i:Nat} {x:ByteArray} (hx:l[i]? =some x):bC x=true:=Qt.1 h x (PO hx)
theorem Cn (w0 w:World) (cs:List Chunk) (g gc n:Nat) (va vt vx vr:Value) (hs:Sat w0 ([sK 58 w0 g,aq gc 30 [va,vt,vx,vr,.slice none 0 0,.slice none 0 0,.slice none 0 0]]++cs) w) (hz:RdL w0 vt Fs (List.replicate n ())) (hn:1<=n) (hm:n<=12):
  CallsV prog 65 [(.pointer (some ⟨g,0,none⟩)),(.pointer (some ⟨gc,0,none⟩))] w λ r w'=>r= .tuple #[]/\∃ vn nd at_,ndI at_ nd/\at_<=(n:Int)/\nd.length<=8/\Sat w0 ([sK 58 w0 g,aq gc 30 [va,vt,vx,vr,vn,.slice none 0 0,.slice none 0 0],cL vn 84 bE nd]++cs) w':=by
 refine ai func65 rfl rfl ?_
 refine .h<| .ld 3 hs 1 rfl<| .ln 0 (hz.ext hs.ext) rfl<| .Z rfl<| .seq<| .weaken [(0,_),(1,_),(4,(.int .i64 n)),(11,_),(12,_),(13,_),(14,_),(15,_)] ⟨rfl,rfl,If some (If (Value.int .i64) (by simp)),rfl,rfl,rfl,rfl,rfl,trivial⟩<| .U rfl<| .h<| .z 1 rfl ?_
 have A1:=hs.oc [0,1] 1
 refine .c 0 (aO _ _ _ _ (4) A1 (by omega) (by omega)) rfl λ r1 _ h1=> ?_
 obtain ⟨nk1,rfl,hnk1,p1⟩:=h1
 have s1:=p1.join.od [0,1]
 refine .Z rfl<| .block ?_
 have s2:=(s1.aA 84 (bE)).mn
 refine .lq [0,1,4] rfl (α:=Nat×Nat×Value×List Nd) (λ (kk,at_,nv,nd)=>[(5,(.int .i64 at_)),(6,(.int .i64 kk))]) (λ (kk,at_,nv,nd) w'=>Sat w0 ([sK 58 w0 g,aq gc 30 [va,vt,vx,vr,nv,(.slice none 0 0),(.slice none 0 0)],cL nv 84 (bE) (nd)]++cs) w'/\(kk<=3)/\(at_<=n)/\(ndI (at_:Int) nd)/\(nd.length+2*kk<=6)) (λ (kk,at_,nv,nd)=>kk) (nk1,0,(.slice none 0 0),[]) ⟨s2,by omega,KD _,Jn _,by simp;omega⟩ ?_
 rintro ⟨kk,at_,nv,nd⟩ w2 ⟨s3,hkk,hat,hnd,hndl⟩
 refine .seq<| .seq<| .bN 24 ((0<kk)/\(at_<n)) ?_ ?_
 ·refine .z 3 rfl<| .B 20 rfl (λ g1=> ?_) λ g1=> ?_
  ·refine .M rfl (by simp [g1])
  refine .M rfl (by simp [g1])
 refine .ae rfl (λ c1=> ?_) λ c1=> ?_
 ·refine .skip<| .seq<| .block<| .h<| .z 2 rfl ?_
  have A2:=s3.oc [0,1,2] 1
  refine .c 0 (aO _ _ _ _ (2) A2 (by omega) (by omega)) rfl λ r2 _ h2=> ?_
  obtain ⟨nk2,rfl,hnk2,p2⟩:=h2
  have s4:=p2.join.od [0,1,2]
  refine .Z rfl<| .seq<| .Z rfl<| .ae rfl (λ c2=> ?_) λ c2=> ?_
  ·refine .L6 rfl ?_
   show aL _ _ _ _ _ _
   refine cv rfl ?_
   exact ⟨rfl,_,nd,at_,hnd,by omega,by omega,s4⟩
  refine .skip<| .h<| .z 6 rfl ?_
  have A3:=s4.oc [0,1,2] 1
  refine .c 0 (aO _ _ _ _ ((n-(at_+nk2))) A3 (by omega) (by omega)) rfl λ r3 _ h3=> ?_
  obtain ⟨nk3,rfl,hnk3,p3⟩:=h3
  have s5:=p3.join.od [0,1,2]
  refine .Z rfl<| .h<| .ld 3 s5 1 rfl<| .ln 0 (s5.ah 2 rfl) rfl<| .Z rfl<| .seq<| .wI (λ L' w'=>∃ (nv1:Value) (nm1:ByteArray),Weak [(0,(.pointer (some ⟨g,0,none⟩))),(1,(.pointer (some ⟨gc,0,none⟩))),(4,(.int .i64 n)),(5,(.int .i64 at_)),(6,(.int .i64 kk)),(7,(.int .i64 ((at_+nk2):Nat))),(8,(.int .i64 ((((at_+nk2)+1)+nk3):Nat))),(9,(.int .i64 nd.length))] L'/\Sat w0 ([sK 58 w0 g,aq gc 30 [va,vt,vx,vr,nv1,(.slice none 0 0),(.slice none 0 0)],cL nv1 84 (bE) (nd++[(⟨nm1,(((at_+nk2):Nat):Int),(((((at_+nk2)+1)+nk3):Nat):Int),-1⟩:Nd)])]++cs) w'/\(bC nm1=true)) ?_ ?_
  ·have hshp1:=(s5.ah (E:=bE) 2 rfl).iH (by decide)
   refine .fk [0,1] [0] s5 rfl rfl 17 (pl [0,1,2,3,4,6,10,11] (.two 5 7 (pl [1007,8,9,12,1013,1014] (.loose 15 (pl [16] (.bar 17 .fin)))) (pl [1005,8,9,12,1013,1014] (.loose 15 (pl [16] (.bar 17 .fin)))))) mixed (by kernel_rfl) ?_
   have s6:=s5.drew
   have S1:=s6.pt [0,1]
   refine .ld 4 S1 1 rfl<| .z 3 S1 rfl ?_
   have A4:=s6.oc [0,1,2] 1
   refine .DX rfl rfl rfl rfl rfl rfl (OpE.gW (ax) [(ByteArray.mk #[83]),(ByteArray.mk #[78,80])] bu rfl ⟨rfl,rfl,trivial⟩ rfl rfl rfl rfl (by decide) (by decide) s6 λ v1 _ s7 _=> ?_) (OpE.call uC rfl ((aO _ _ _ _ (2) A4 (by omega) (by omega)).mono λ r4 _ h4=> ?_))
   ·have s7d:=s7.mn
    have S2:=s7d.pt [0,1,3]
    refine k6 [0,1] S2 rfl ?_
    have A5:=s7d.oc [0,1,2,3] 1
    refine .c 0 S2 (aO _ _ _ _ (2) A5 (by omega) (by omega)) rfl λ r5 _ h5=> ?_
    obtain ⟨nk5,rfl,hnk5,p5⟩:=h5
    have s8:=p5.join.od [0,1,2,3]
    have S3:=s8.pt [0,1,3]
    refine ⟨S3,?_⟩
    refine .ix 0 S3 (·.ah 2 rfl) rfl (hj:=by simp;omega) ?_
    obtain ⟨lx1,hlx1⟩:∃ x,([(ByteArray.mk #[83]),(ByteArray.mk #[78,80])]:List ByteArray)[nk5]? =some x:=⟨_,py (show nk5<2 by omega)⟩
    refine .le 0 S3 (·.ah 2 rfl) hlx1 rfl<| .e rfl (λ _ s=> .build wz rfl ⟨rfl,rfl,rfl,rfl,trivial⟩ rfl) S3<| .f rfl (.cn (bE) (⟨lx1,(((at_+nk2):Nat):Int),(((((at_+nk2)+1)+nk3):Nat):Int),-1⟩:Nd) iE (by decide) (by decide) s8 rfl λ v2 _ s9 _=> ?_)
    have s9d:=s9.mn
    have S4:=s9d.pt [0,1,3]
    refine ⟨S4,?_⟩
    refine .f rfl (.aw 2 iE s9d rfl rfl rfl underlying27 (s9d.ah 4 rfl) (by simp only [KM];omega) (by simp only [KM];omega) λ v3 _ s10 _=> ?_)
    have s10d:=(s10.sn).pt [0,1,2,3]
    have S5:=s10d.pt [0,1,3]
    refine ⟨S5,?_⟩
    refine .loose rfl rfl rfl (λ _ s=> .nilCheck rfl) S5<| .z 1 S5 rfl<| .bar rfl rfl rfl (OpE.aK su s10d (i:=1) rfl rfl rfl ((s10d.ah 2 rfl).ab) rfl λ _ s11 _=> ?_)
    have s11d:=s11.sn
    have S6:=s11d.pt [0]
    refine ⟨S6,?_⟩
    refine .fin ?_
    have s12:=s11d.pt [0,1,2]
    exact ⟨v3,lx1,(wk rfl),s12,kK (by decide) hlx1⟩
   obtain ⟨nk4,rfl,hnk4,p4⟩:=h4
   have s13:=p4.join.od [0,1,2]
   have S7:=s13.pt [0,1]
   refine tQ S7 ?_
   refine .HK rfl rfl rfl (OpE.gW (ax) [(ByteArray.mk #[83]),(ByteArray.mk #[78,80])] bu rfl ⟨rfl,rfl,trivial⟩ rfl rfl rfl rfl (by decide) (by decide) s13 λ v_4 _ s14 _=> ?_)
   have s14d:=s14.mn
   have S8:=s14d.pt [0,1,3]
   refine k6 [0,1] S8 rfl ?_
   refine .ix 0 S8 (·.ah 2 rfl) rfl (hj:=by simp;omega) ?_
   obtain ⟨lx2,hlx2⟩:∃ x,([(ByteArray.mk #[83]),(ByteArray.mk #[78,80])]:List ByteArray)[nk4]? =some x:=⟨_,py (show nk4<2 by omega)⟩
   refine .le 0 S8 (·.ah 2 rfl) hlx2 rfl<| .e rfl (λ _ s=> .build wz rfl ⟨rfl,rfl,rfl,rfl,trivial⟩ rfl) S8<| .f rfl (.cn (bE) (⟨lx2,(((at_+nk2):Nat):Int),(((((at_+nk2)+1)+nk3):Nat):Int),-1⟩:Nd) iE (by decide) (by decide) s14d rfl λ v5 _ s15 _=> ?_)
   have s15d:=s15.mn
   have S9:=s15d.pt [0,1,3]
   refine ⟨S9,?_⟩
   refine .f rfl (.aw 2 iE s15d rfl rfl rfl underlying27 (s15d.ah 4 rfl) (by simp only [KM];omega) (by simp only [KM];omega) λ v6 _ s16 _=> ?_)
   have s16d:=(s16.sn).pt [0,1,2,3]
   have S10:=s16d.pt [0,1,3]
   refine ⟨S10,?_⟩
   refine .loose rfl rfl rfl (λ _ s=> .nilCheck rfl) S10<| .z 1 S10 rfl<| .bar rfl rfl rfl (OpE.aK su s16d (i:=1) rfl rfl rfl ((s16d.ah 2 rfl).ab) rfl λ _ s17 _=> ?_)
   have s17d:=s17.sn
   have S11:=s17d.pt [0]
   refine ⟨S11,?_⟩
   refine .fin ?_
   have s18:=s17d.pt [0,1,2]
   exact ⟨v6,lx2,(wk rfl),s18,kK (by decide) hlx2⟩
  rintro L' w15 ⟨nv1,nm1,hw1,s19,hnm1⟩
  refine .weaken _ hw1<| .jn [0,1,4,5,6,7,8,9] rfl (λ K L' w'=>∃ (nv3:Value) (nd3:List Nd),Weak K L'/\Sat w0 ([sK 58 w0 g,aq gc 30 [va,vt,vx,vr,nv3,(.slice none 0 0),(.slice none 0 0)],cL nv3 84 (bE) (nd3)]++cs) w'/\(ndI (((((at_+nk2)+1)+nk3):Nat):Int) nd3)/\(nd3.length<=nd.length+2)) ?_ ?_
  ·refine .seq ?_
   have hnd1:=hnd.top hnm1 (by omega) (show (at_:Int)<=(((at_+nk2):Nat):Int) by omega) (show (((at_+nk2):Nat):Int)<(((((at_+nk2)+1)+nk3):Nat):Int) by omega)
   refine .region<| .z 1 rfl ?_
   have A6:=s19.oc [0,1,2] 1
   refine .c 0 (aO _ _ _ _ (2) A6 (by omega) (by omega)) rfl λ r6 _ h6=> ?_
   obtain ⟨nk6,rfl,hnk6,p6⟩:=h6
   have s20:=p6.join.od [0,1,2]
   refine .Z rfl<| .ae rfl (λ c3=> ?_) λ c3=> ?_
   ·refine .h<| .z 5 rfl ?_
    have A7:=s20.oc [0,1,2] 1
    refine .c 0 (aO _ _ _ _ (((((at_+nk2)+1)+nk3)-(at_+nk2))) A7 (by omega) (by omega)) rfl λ r7 _ h7=> ?_
    obtain ⟨nk7,rfl,hnk7,p7⟩:=h7
    have s21:=p7.join.od [0,1,2]
    refine .Z rfl ?_
    have hshp2:=(s21.ah (E:=bE) 2 rfl).iH (by decide)
    refine .fk [0,1] [0] s21 rfl rfl 25 (pl [0,1,2,3,4,6,10,11,12,13,14,15,16,19] (.two 5 7 (pl [1007,8,9,1017,18,20,1021,1022] (.loose 23 (pl [24] (.bar 25 .fin)))) (.two 5 17 (pl [8,9,1017,18,20,1021,1022] (.loose 23 (pl [24] (.bar 25 .fin)))) (pl [18,1005,8,9,20,1021,1022] (.loose 23 (pl [24] (.bar 25 .fin))))))) mixed (by kernel_rfl) ?_
    have s22:=s21.drew
    have S12:=s22.pt [0,1]
    refine .ld 4 S12 1 rfl<| .z 9 S12 rfl ?_
    have A8:=s22.oc [0,1,2] 1
    refine .DX rfl rfl rfl rfl rfl rfl (OpE.gW (ax) [(ByteArray.mk #[78,80]),(ByteArray.mk #[86,80])] bu rfl ⟨rfl,rfl,trivial⟩ rfl rfl rfl rfl (by decide) (by decide) s22 λ v7 _ s23 _=> ?_) (OpE.call uC rfl ((aO _ _ _ _ (2) A8 (by omega) (by omega)).mono λ r8 _ h8=> ?_))
    ·have s23d:=s23.mn
     have S13:=s23d.pt [0,1,3]
     refine k6 [0,1] S13 rfl ?_
     have A9:=s23d.oc [0,1,2,3] 1
     refine .c 0 S13 (aO _ _ _ _ (2) A9 (by omega) (by omega)) rfl λ r9 _ h9=> ?_
     obtain ⟨nk9,rfl,hnk9,p9⟩:=h9
     have s24:=p9.join.od [0,1,2,3]
     have S14:=s24.pt [0,1,3]
     refine ⟨S14,?_⟩
     refine .ix 0 S14 (·.ah 2 rfl) rfl (hj:=by simp;omega) ?_
     obtain ⟨lx3,hlx3⟩:∃ x,([(ByteArray.mk #[78,80]),(ByteArray.mk #[86,80])]:List ByteArray)[nk9]? =some x:=⟨_,py (show nk9<2 by omega)⟩
     refine .le 0 S14 (·.ah 2 rfl) hlx3 rfl ?_
     have A10:=s24.oc [0,1,2,3] 1
     refine .c 0 S14 (aO _ _ _ _ (((((at_+nk2)+1)+nk3)-((at_+nk2)+nk7))) A10 (by omega) (by omega)) rfl λ r10 _ h10=> ?_
     obtain ⟨nk10,rfl,hnk10,p10⟩:=h10
     have s25:=p10.join.od [0,1,2,3]
     have S15:=s25.pt [0,1,3]
     refine ⟨S15,?_⟩
     refine .z 1 S15 rfl<| .e rfl (λ _ s=> .build wz rfl ⟨rfl,rfl,rfl,rfl,trivial⟩ rfl) S15<| .f rfl (.cn (bE) (⟨lx3,((((at_+nk2)+nk7):Nat):Int),((((((at_+nk2)+nk7)+1)+nk10):Nat):Int),((nd.length:Nat):Int)⟩:Nd) iE (by decide) (by decide) s25 rfl λ v8 _ s26 _=> ?_)
     have s26d:=s26.mn
     have S16:=s26d.pt [0,1,3]
     refine ⟨S16,?_⟩
     refine .f rfl (.aw 2 iE s26d rfl rfl rfl underlying27 (s26d.ah 4 rfl) (by simp only [sp,KM];omega) (by simp only [sp,KM];omega) λ v9 _ s27 _=> ?_)
     have s27d:=(s27.sn).pt [0,1,2,3]
     have S17:=s27d.pt [0,1,3]
     refine ⟨S17,?_⟩
     refine .loose rfl rfl rfl (λ _ s=> .nilCheck rfl) S17<| .z 1 S17 rfl<| .bar rfl rfl rfl (OpE.aK su s27d (i:=1) rfl rfl rfl ((s27d.ah 2 rfl).ab) rfl λ _ s28 _=> ?_)
     have s28d:=s28.sn
     have S18:=s28d.pt [0]
     refine ⟨S18,?_⟩
     refine .fin ?_
     have s29:=s28d.pt [0,1,2]
     exact ⟨v9,nd++[(⟨nm1,(((at_+nk2):Nat):Int),(((((at_+nk2)+1)+nk3):Nat):Int),-1⟩:Nd)]++[(⟨lx3,((((at_+nk2)+nk7):Nat):Int),((((((at_+nk2)+nk7)+1)+nk10):Nat):Int),((nd.length:Nat):Int)⟩:Nd)],(wk rfl),s29,ndI.Pj (at_:=0) hnd1 (kK (by decide) hlx3) (by omega) (by omega) (by omega),by simp only [sp,KM];omega⟩
    obtain ⟨nk8,rfl,hnk8,p8⟩:=h8
    have s30:=p8.join.od [0,1,2]
    have S19:=s30.pt [0,1]
    refine tQ S19 ?_
    have A11:=s30.oc [0,1,2] 1
    refine .DX rfl rfl rfl rfl rfl rfl (OpE.gW (ax) [(ByteArray.mk #[78,80]),(ByteArray.mk #[86,80])] bu rfl ⟨rfl,rfl,trivial⟩ rfl rfl rfl rfl (by decide) (by decide) s30 λ v10 _ s31 _=> ?_) (OpE.call uC rfl ((aO _ _ _ _ (((((at_+nk2)+1)+nk3)-((at_+nk2)+nk7))) A11 (by omega) (by omega)).mono λ r11 _ h11=> ?_))
    ·have s31d:=s31.mn
     have S20:=s31d.pt [0,1,3]
     refine k6 [0,1] S20 rfl ?_
     refine .ix 0 S20 (·.ah 2 rfl) rfl (hj:=by simp;omega) ?_
     obtain ⟨lx4,hlx4⟩:∃ x,([(ByteArray.mk #[78,80]),(ByteArray.mk #[86,80])]:List ByteArray)[nk8]? =some x:=⟨_,py (show nk8<2 by omega)⟩
     refine .le 0 S20 (·.ah 2 rfl) hlx4 rfl ?_
     have A12:=s31d.oc [0,1,2,3] 1
     refine .c 0 S20 (aO _ _ _ _ (((((at_+nk2)+1)+nk3)-((at_+nk2)+nk7))) A12 (by omega) (by omega)) rfl λ r12 _ h12=> ?_
     obtain ⟨nk12,rfl,hnk12,p12⟩:=h12
     have s32:=p12.join.od [0,1,2,3]
     have S21:=s32.pt [0,1,3]
     refine ⟨S21,?_⟩
     refine .z 1 S21 rfl<| .e rfl (λ _ s=> .build wz rfl ⟨rfl,rfl,rfl,rfl,trivial⟩ rfl) S21<| .f rfl (.cn (bE) (⟨lx4,((((at_+nk2)+nk7):Nat):Int),((((((at_+nk2)+nk7)+1)+nk12):Nat):Int),((nd.length:Nat):Int)⟩:Nd) iE (by decide) (by decide) s32 rfl λ v11 _ s33 _=> ?_)
     have s33d:=s33.mn
     have S22:=s33d.pt [0,1,3]
     refine ⟨S22,?_⟩
     refine .f rfl (.aw 2 iE s33d rfl rfl rfl underlying27 (s33d.ah 4 rfl) (by simp only [sp,KM];omega) (by simp only [sp,KM];omega) λ v12 _ s34 _=> ?_)
     have s34d:=(s34.sn).pt [0,1,2,3]
     have S23:=s34d.pt [0,1,3]
     refine ⟨S23,?_⟩
     refine .loose rfl rfl rfl (λ _ s=> .nilCheck rfl) S23<| .z 1 S23 rfl<| .bar rfl rfl rfl (OpE.aK su s34d (i:=1) rfl rfl rfl ((s34d.ah 2 rfl).ab) rfl λ _ s35 _=> ?_)
     have s35d:=s35.sn
     have S24:=s35d.pt [0]
     refine ⟨S24,?_⟩
     refine .fin ?_
     have s36:=s35d.pt [0,1,2]
     exact ⟨v12,nd++[(⟨nm1,(((at_+nk2):Nat):Int),(((((at_+nk2)+1)+nk3):Nat):Int),-1⟩:Nd)]++[(⟨lx4,((((at_+nk2)+nk7):Nat):Int),((((((at_+nk2)+nk7)+1)+nk12):Nat):Int),((nd.length:Nat):Int)⟩:Nd)],(wk rfl),s36,ndI.Pj (at_:=0) hnd1 (kK (by decide) hlx4) (by omega) (by omega) (by omega),by simp only [sp,KM];omega⟩
    obtain ⟨nk11,rfl,hnk11,p11⟩:=h11
    have s37:=p11.join.od [0,1,2]
    have S25:=s37.pt [0,1]
    refine tQ S25 ?_
    refine .z 1 S25 rfl<| .HK rfl rfl rfl (OpE.gW (ax) [(ByteArray.mk #[78,80]),(ByteArray.mk #[86,80])] bu rfl ⟨rfl,rfl,trivial⟩ rfl rfl rfl rfl (by decide) (by decide) s37 λ v13 _ s38 _=> ?_)
    have s38d:=s38.mn
    have S26:=s38d.pt [0,1,3]
    refine k6 [0,1] S26 rfl ?_
    refine .ix 0 S26 (·.ah 2 rfl) rfl (hj:=by simp;omega) ?_
    obtain ⟨lx5,hlx5⟩:∃ x,([(ByteArray.mk #[78,80]),(ByteArray.mk #[86,80])]:List ByteArray)[nk8]? =some x:=⟨_,py (show nk8<2 by omega)⟩
    refine .le 0 S26 (·.ah 2 rfl) hlx5 rfl<| .e rfl (λ _ s=> .build wz rfl ⟨rfl,rfl,rfl,rfl,trivial⟩ rfl) S26<| .f rfl (.cn (bE) (⟨lx5,((((at_+nk2)+nk7):Nat):Int),((((((at_+nk2)+nk7)+1)+nk11):Nat):Int),((nd.length:Nat):Int)⟩:Nd) iE (by decide) (by decide) s38d rfl λ v14 _ s39 _=> ?_)
    have s39d:=s39.mn
    have S27:=s39d.pt [0,1,3]
    refine ⟨S27,?_⟩
    refine .f rfl (.aw 2 iE s39d rfl rfl rfl underlying27 (s39d.ah 4 rfl) (by simp only [sp,KM];omega) (by simp only [sp,KM];omega) λ v15 _ s40 _=> ?_)
    have s40d:=(s40.sn).pt [0,1,2,3]
    have S28:=s40d.pt [0,1,3]
    refine ⟨S28,?_⟩
    refine .loose rfl rfl rfl (λ _ s=> .nilCheck rfl) S28<| .z 1 S28 rfl<| .bar rfl rfl rfl (OpE.aK su s40d (i:=1) rfl rfl rfl ((s40d.ah 2 rfl).ab) rfl λ _ s41 _=> ?_)
    have s41d:=s41.sn
    have S29:=s41d.pt [0]
    refine ⟨S29,?_⟩
    refine .fin ?_
    have s42:=s41d.pt [0,1,2]
    exact ⟨v15,nd++[(⟨nm1,(((at_+nk2):Nat):Int),(((((at_+nk2)+1)+nk3):Nat):Int),-1⟩:Nd)]++[(⟨lx5,((((at_+nk2)+nk7):Nat):Int),((((((at_+nk2)+nk7)+1)+nk11):Nat):Int),((nd.length:Nat):Int)⟩:Nd)],(wk rfl),s42,ndI.Pj (at_:=0) hnd1 (kK (by decide) hlx5) (by omega) (by omega) (by omega),by simp only [sp,KM];omega⟩
   refine .skip ?_
   have s43:=s20.pt [0,1,2]
   exact ⟨nv1,nd++[(⟨nm1,(((at_+nk2):Nat):Int),(((((at_+nk2)+1)+nk3):Nat):Int),-1⟩:Nd)],(wk rfl),s43,hnd1,by simp only [sp,KM];omega⟩
  rintro L' w35 ⟨nv3,nd3,hw2,s44,hnd3,hndl3⟩
  refine .weaken _ hw2<| .U rfl<| .U rfl ?_
  exact aT (kk-1,(((at_+nk2)+1)+nk3),nv3,nd3) ⟨s44,by omega,by omega,hnd3,by omega⟩
 refine .ao ?_
 show aL _ _ _ _ _ _
 refine cv rfl ?_
 exact ⟨rfl,_,nd,at_,hnd,by omega,by omega,s3⟩
theorem qu {l:List ByteArray} (h:l.all (λ s=>decide (s=ByteArray.empty)||bC s)=true) {i:Nat} {x:ByteArray} (hx:l[i]? =some x):x=ByteArray.empty\/bC x=true:=by
 have:=Qt.1 h x (PO hx)
 simpa using this
theorem HZ {α:Type} {l:List α} {i:Nat} {x:α} (h:l[i]? =some x):l.set i x=l:=by
 obtain ⟨hi,rfl⟩:=AT.1 h
 exact St hi
theorem HdI.PE {n j:Nat} {o:List Nat} {hd:List Int} {rl:List ByteArray} {t:Iv} {sb:Bool} (h:hdI n o j hd rl sb) (hj:j=n) (ho:ordI n o) (hs:sb=true) (ht:t.b=0) (he:t.e=n):okHd n [t] hd rl:=by subst hj;subst hs;exact h.ok ho ht he
theorem Cp (w0 w:World) (cs:List Chunk) (g gc n:Nat) (va vt vx vr vn:Value) (t:Iv) (hs:Sat w0 ([sK 58 w0 g,aq gc 30 [va,vt,vx,vr,vn,.slice none 0 0,.slice none 0 0]]++cs) w) (hz:RdL w0 vt Fs (List.replicate n ())) (hn:1<=n) (hm:n<=12) (htb:t.b=0) (hte:t.e=(n:Int)):
  CallsV prog 66 [(.pointer (some ⟨g,0,none⟩)),(.pointer (some ⟨gc,0,none⟩))] w λ r w'=>r= .tuple #[]/\∃ vh vl hd rl,((hd=[]/\rl=[])\/okHd n [t] hd rl)/\Sat w0 ([sK 58 w0 g,aq gc 30 [va,vt,vx,vr,vn,vh,vl],cL vh 3 (Kw.encI .i64) hd,cL vl 9 ax rl]++cs) w':=by
 refine ai func66 rfl rfl ?_
 refine .h<| .ld 3 hs 1 rfl<| .ln 0 (hz.ext hs.ext) rfl<| .Z rfl<| .seq<| .weaken [(0,_),(1,_),(4,(.int .i64 n)),(13,_),(14,_),(15,_),(16,_),(17,_)] ⟨rfl,rfl,If some (If (Value.int .i64) (by simp)),rfl,rfl,rfl,rfl,rfl,trivial⟩<| .U rfl<| .seq<| .Z rfl<| .block ?_
 have s1:=(hs.aA 3 (aa .i64)).mn
 refine .lq [0,1,4] rfl (α:=Nat×Value×List Nat) (λ (i,ov,o)=>[(5,ov),(6,(.int .i64 i))]) (λ (i,ov,o) w'=>Sat w0 (s1.V [(2,cL ov 3 (aa .i64) (o))]++cs) w'/\(i<=n)/\(ordI i o)) (λ (i,ov,o)=>n-i) (0,(.slice none 0 0),[]) ⟨s1,KD _,G8⟩ ?_
 rintro ⟨i,ov,o⟩ w1 ⟨s2,hi,hoI⟩
 refine .seq<| .Z rfl<| .ae rfl (λ c1=> ?_) λ c1=> ?_
 ·refine .skip<| .seq<| .block<| .h<| .z 3 rfl ?_
  have A1:=s2.oc [0,1,2] 1
  refine .c 0 (aO _ _ _ _ ((i+1)) A1 (by omega) (by omega)) rfl λ r1 _ h_1=> ?_
  obtain ⟨nk1,rfl,hnk1,p1⟩:=h_1
  have s3:=p1.join.od [0,1,2]
  refine .Z rfl<| .wI (λ L' w'=>∃ (ov2:Value),Weak [(0,(.pointer (some ⟨g,0,none⟩))),(1,(.pointer (some ⟨gc,0,none⟩))),(4,(.int .i64 n)),(5,ov2),(6,(.int .i64 i)),(7,(.int .i64 nk1))] L'/\Sat w0 ([sK 58 w0 g,aq gc 30 [va,vt,vx,vr,vn,(.slice none 0 0),(.slice none 0 0)],cL ov2 3 (aa .i64) (o.take nk1++[i]++o.drop nk1)]++cs) w') ?_ ?_
  ·refine .dt [0,1,2] s3 rfl (pl [1,2,3,5,8,9,10] (.two 0 6 (.two 4 6 (pl [1006,1007,1011,12] .fin) (pl [1004,1007,1011,12] .fin)) (pl [1000,1004,1007,1011,12] .fin))) λ s4 S1=> .z 2 S1 rfl<| .e rfl (λ _ hS=> .aV (E:=aa .i64) (a:=0) (c:=nk1) aQ rfl (hS.ah 2 rfl) rfl ⟨_,rfl⟩ (KD _) (by have:=hoI.len;omega)) S1<| .z 3 S1 rfl<| .e rfl (λ _ hS=> .aV (E:=aa .i64) (a:=nk1) (c:=(o).length) aQ rfl (hS.ah 2 rfl) ⟨_,rfl⟩ rfl (by have:=hoI.len;omega) (KB _)) S1<| .two rfl rfl rfl rfl rfl rfl (OpE.tg (aa .i64) aQ s4 λ v1 _ s5 _=> ?_) (OpE.bU (aa .i64) i aQ rfl s4 rfl λ v2 _ s6 _=> ?_)
   ·have s5d:=s5.mn
    have S2:=s5d.pt [0,1,2]
    refine ⟨S2,?_⟩
    refine .two rfl rfl rfl rfl rfl rfl (OpE.aw 3 aQ s5d rfl rfl rfl underlying22 (((s5d.ah 2 rfl)).sub (a:=0) (b:=nk1) (KD _) (by have:=hoI.len;omega)) (by have:=hoI.len;simp;omega) (by have:=hoI.len;simp;omega) λ v3 _ s7 _=> ?_) (OpE.bU (aa .i64) i aQ rfl s5d rfl λ v_4 _ s8 _=> ?_)
    ·have s7d:=s7.sn
     have S3:=s7d.pt [0,1,2]
     refine ⟨S3,?_⟩
     refine .f rfl (.bU (aa .i64) i aQ rfl s7d rfl λ v5 _ s_9 _=> ?_)
     have s9d:=s_9.mn
     have S4:=s9d.pt [0,1,2]
     refine ⟨S4,?_⟩
     refine .f rfl (.aw 3 aQ s9d rfl rfl rfl underlying22 (s9d.ah 4 rfl) (by have:=hoI.len;simp;omega) (by have:=hoI.len;simp;omega) λ v6 _ s10 _=> ?_)
     have s10d:=(s10.sn).pt [0,1,2,3]
     have S5:=s10d.pt [0,1,2]
     refine ⟨S5,?_⟩
     refine .f rfl (.aw 3 aQ s10d rfl rfl rfl underlying22 (((s10d.ah 2 rfl)).sub (a:=nk1) (b:=(o).length) (by have:=hoI.len;omega) (KB _)) (by have:=hoI.len;simp;omega) (by have:=hoI.len;simp;omega) λ v7 _ s11 _=> ?_)
     have s11d:=s11.sn
     have S6:=s11d.pt [0,1,2]
     refine ⟨S6,?_⟩
     refine .Z S6 rfl ?_
     have s12:=s11d.pt [0,1,3]
     have s13:=(s12.aZ 2 rfl (show ((o).take nk1).drop 0++[i]++((o).take ((o).length)).drop nk1=o.take nk1++[i]++o.drop nk1 from by simp)).sn
     exact ⟨v7,(wk rfl),s13⟩
    have s8d:=s8.mn
    have S7:=s8d.pt [0,1,2]
    refine ⟨S7,?_⟩
    refine .f rfl (.aw 3 aQ s8d rfl rfl rfl underlying22 (((s8d.ah 2 rfl)).sub (a:=0) (b:=nk1) (KD _) (by have:=hoI.len;omega)) (by have:=hoI.len;simp;omega) (by have:=hoI.len;simp;omega) λ v8 _ s14 _=> ?_)
    have s14d:=s14.sn
    have S8:=s14d.pt [0,1,2]
    refine ⟨S8,?_⟩
    refine .f rfl (.aw 3 aQ s14d rfl rfl rfl underlying22 (s14d.ah 4 rfl) (by have:=hoI.len;simp;omega) (by have:=hoI.len;simp;omega) λ v_9 _ s15 _=> ?_)
    have s15d:=(s15.sn).pt [0,1,2,3]
    have S9:=s15d.pt [0,1,2]
    refine ⟨S9,?_⟩
    refine .f rfl (.aw 3 aQ s15d rfl rfl rfl underlying22 (((s15d.ah 2 rfl)).sub (a:=nk1) (b:=(o).length) (by have:=hoI.len;omega) (KB _)) (by have:=hoI.len;simp;omega) (by have:=hoI.len;simp;omega) λ v10 _ s16 _=> ?_)
    have s16d:=s16.sn
    have S10:=s16d.pt [0,1,2]
    refine ⟨S10,?_⟩
    refine .Z S10 rfl ?_
    have s17:=s16d.pt [0,1,3]
    have s18:=(s17.aZ 2 rfl (show ((o).take nk1).drop 0++[i]++((o).take ((o).length)).drop nk1=o.take nk1++[i]++o.drop nk1 from by simp)).sn
    exact ⟨v10,(wk rfl),s18⟩
   have s6d:=s6.mn
   have S11:=s6d.pt [0,1,2]
   refine ⟨S11,?_⟩
   refine .f rfl (.tg (aa .i64) aQ s6d λ v11 _ s19 _=> ?_)
   have s19d:=s19.mn
   have S12:=s19d.pt [0,1,2]
   refine ⟨S12,?_⟩
   refine .f rfl (.aw 4 aQ s19d rfl rfl rfl underlying22 (((s19d.ah 2 rfl)).sub (a:=0) (b:=nk1) (KD _) (by have:=hoI.len;omega)) (by have:=hoI.len;simp;omega) (by have:=hoI.len;simp;omega) λ v12 _ s20 _=> ?_)
   have s20d:=s20.sn
   have S13:=s20d.pt [0,1,2]
   refine ⟨S13,?_⟩
   refine .f rfl (.aw 4 aQ s20d rfl rfl rfl underlying22 (s20d.ah 3 rfl) (by have:=hoI.len;simp;omega) (by have:=hoI.len;simp;omega) λ v13 _ s21 _=> ?_)
   have s21d:=s21.sn
   have S14:=s21d.pt [0,1,2]
   refine ⟨S14,?_⟩
   refine .f rfl (.aw 4 aQ s21d rfl rfl rfl underlying22 (((s21d.ah 2 rfl)).sub (a:=nk1) (b:=(o).length) (by have:=hoI.len;omega) (KB _)) (by have:=hoI.len;simp;omega) (by have:=hoI.len;simp;omega) λ v14 _ s22 _=> ?_)
   have s22d:=s22.sn
   have S15:=s22d.pt [0,1,2]
   refine ⟨S15,?_⟩
   refine .Z S15 rfl ?_
   have s23:=s22d.pt [0,1,4]
   have s24:=(s23.aZ 2 rfl (show ((o).take nk1).drop 0++[i]++((o).take ((o).length)).drop nk1=o.take nk1++[i]++o.drop nk1 from by simp)).sn
   exact ⟨v14,(wk rfl),s24⟩
  rintro L' w17 ⟨ov2,hw1,s25⟩
  refine .weaken _ hw1<| .U rfl ?_
  exact aT (i+1,ov2,o.take nk1++[i]++o.drop nk1) ⟨s25,by omega,hoI.ins _ (by omega)⟩
 refine .ao<| .seq<| .wI (λ L' w'=>∃ (hv:Value) (lv:Value),Weak [(0,(.pointer (some ⟨g,0,none⟩))),(1,(.pointer (some ⟨gc,0,none⟩))),(4,(.int .i64 n)),(5,ov),(6,(.int .i64 i)),(8,hv),(9,lv)] L'/\Sat w0 ([sK 58 w0 g,aq gc 30 [va,vt,vx,vr,vn,(.slice none 0 0),(.slice none 0 0)],cL ov 3 (aa .i64) (o),cL hv 3 (Kw.encI .i64) (List.replicate n (0:Int)),cL lv 9 (ax) (List.replicate n ByteArray.empty)]++cs) w') ?_ ?_
 ·refine .dt [0,1,2] s2 rfl (pl [0,2] (.two 1 3 (pl [4,1003,5] .fin) (pl [1001,4,5] .fin))) λ s26 S16=> .z 2 S16 rfl<| .two rfl rfl rfl rfl rfl rfl (OpE.cP (Kw.encI .i64) ((0:Int)) aQ rfl s26 rfl rfl (by omega) (by omega) (by omega) λ v15 _ s27 _=> ?_) (OpE.cP (ax) (ByteArray.empty) bu rfl s26 rfl rfl (by omega) (by omega) (by omega) λ v16 _ s28 _=> ?_)
  ·have s27d:=s27.mn
   have S17:=s27d.pt [0,1,2]
   refine ⟨S17,?_⟩
   refine .z 1 S17 rfl<| .f rfl (.cP (ax) (ByteArray.empty) bu rfl s27d rfl rfl (by omega) (by omega) (by omega) λ v17 _ s29 _=> ?_)
   have s29d:=s29.mn
   have S18:=s29d.pt [0,1,2]
   refine ⟨S18,?_⟩
   refine .Z S18 rfl ?_
   have s30:=s29d.pt [0,1,2,3,4]
   exact ⟨v15,v17,(wk rfl),s30⟩
  have s28d:=s28.mn
  have S19:=s28d.pt [0,1,2]
  refine ⟨S19,?_⟩
  refine .f rfl (.cP (Kw.encI .i64) ((0:Int)) aQ rfl s28d rfl rfl (by omega) (by omega) (by omega) λ v18 _ s31 _=> ?_)
  have s31d:=s31.mn
  have S20:=s31d.pt [0,1,2]
  refine ⟨S20,?_⟩
  refine .Z S20 rfl ?_
  have s32:=(s31d.od [0,1,2,4,3])
  exact ⟨v18,v16,(wk rfl),s32⟩
 rintro L' w22 ⟨hv,lv,hw2,s33⟩
 refine .weaken _ hw2<| .Z rfl<| .seq<| .h<| .ln 1 (s33.ah 2 rfl) rfl<| .Z rfl<| .block ?_
 have ho:ordI n o:=by rw [show n=i by omega];exact hoI
 have hol:=ho.len
 refine .lq [0,1,4,5,6,8,9,43,44] rfl (α:=Nat×List Int×List ByteArray×Bool) (λ (j,hd,rl,sb)=>[(10,(.bool sb)),(45,(.int .i64 j))]) (λ (j,hd,rl,sb) w'=>Sat w0 (s33.V [(3,cL hv 3 (Kw.encI .i64) (hd)),(4,cL lv 9 (ax) (rl))]++cs) w'/\(hdI n o j hd rl sb)/\(j<=o.length)) (λ (j,hd,rl,sb)=>o.length-j) (0,List.replicate n 0,List.replicate n ByteArray.empty,false) ⟨s33,Dy,KD _⟩ ?_
 rintro ⟨j,hd,rl,sb⟩ w23 ⟨s34,hI,hjo⟩
 refine .Z rfl<| .seq<| .ae rfl (λ c2=> ?_) λ c2=> ?_
 ·refine .skip<| .seq<| .block<| .seq ?_
  obtain ⟨x,hx⟩:∃ x,(o)[j]? =some x:=⟨_,py c2⟩
  refine .region<| .ix 1 (s34.ah 2 rfl) rfl<| .le 0 (s34.ah 2 rfl) hx rfl<| .Z rfl<| .seq ?_
  have hxn:=ho.lt x (a7 hx)
  refine .region<| .ix 2 (s34.ah 3 rfl) rfl (hj:=by have:=hI.len;omega)<| .f rfl (.cH (a:= -1) 3 cQ s34 rfl rfl rfl rfl (by first|(have:=hI.len;omega)|(rw [PJ];have:=hI.len;omega)) λ _ s35 _=> ?_)
  have s35d:=s35.sn
  refine .nil<| .jn [0,1,4,5,6,8,9,10,11,12,43,44,45] rfl (λ K L' w'=>∃ (v9:Int) (s9:ByteArray),Weak K L'/\Sat w0 (s35d.V [(3,cL hv 3 (Kw.encI .i64) (hd.set x v9)),(4,cL lv 9 (ax) (rl.set x s9))]++cs) w'/\(v9= -1\/∃ q y:Nat,q<j/\o[q]? =some y/\v9=(y:Int))/\(s9=ByteArray.empty\/bC s9=true)) ?_ ?_
  ·refine .seq<| .wI (λ L' w'=>∃ (q9:Bool),Weak [(0,(.pointer (some ⟨g,0,none⟩))),(1,(.pointer (some ⟨gc,0,none⟩))),(4,(.int .i64 n)),(5,ov),(6,(.int .i64 i)),(8,hv),(9,lv),(10,(.bool sb)),(11,(.int .i64 j)),(12,(.int .i64 x)),(43,ov),(44,(.int .i64 o.length)),(45,(.int .i64 j)),(59,(.bool q9))] L'/\Sat w0 ([sK 58 w0 g,aq gc 30 [va,vt,vx,vr,vn,(.slice none 0 0),(.slice none 0 0)],cL ov 3 (aa .i64) (o),cL hv 3 (Kw.encI .i64) (hd.set x (-1)),cL lv 9 (ax) (rl)]++cs) w'/\(q9=true->0<j)) ?_ ?_
   ·refine .region<| .z 3 rfl<| .B 55 rfl (λ g1=> ?_) λ g1=> ?_
    ·refine .z 1 rfl ?_
     have A2:=s35d.oc [0,1,2,3,4] 1
     refine .c 0 (aO _ _ _ _ (4) A2 (by omega) (by omega)) rfl λ r2 _ h_2=> ?_
     obtain ⟨nk2,rfl,hnk2,p2⟩:=h_2
     have s36:=p2.join.od [0,1,2,3,4]
     refine .Z rfl ?_
     exact ⟨decide (0<nk2),(wk rfl),s36,λ _=>by omega⟩
    refine .Z rfl ?_
    exact ⟨false,(wk rfl),s35d,(λ h=>by cases h)⟩
   rintro L' w26 ⟨q9,hw3,s37,hq9⟩
   refine .weaken _ hw3<| .cond rfl (λ c3=> ?_) (λ c3=> ?_)
   ·have hj0:=hq9 c3
    have hshp1:=(s37.ah (E:=Kw.encI .i64) 3 rfl).iH (by decide)
    have hshp2:=(s37.ah (E:=ax) 4 rfl).iH (by decide)
    refine .dt [0,1,2] s37 rfl (pl [0,1,2,3,4,5,6,11] (.two 7 10 (pl [8,9] (.two 10 12 (pl [1012,13,14,15,1016,17,1018] .fin) (pl [1010,13,14,15,1016,17,1018] .fin))) (pl [1007,8,9,1012,13,14,15,1016,17,1018] .fin))) λ s38 S21=> .z 8 S21 rfl ?_
    have A3:=s38.oc [0,1,2,3,4] 1
    refine .DX rfl rfl rfl rfl rfl rfl (OpE.call uC rfl ((aO _ _ _ _ (j) A3 (by omega) (by omega)).mono λ r3 _ h_3=> ?_)) (OpE.gW (ax) [(ByteArray.mk #[111,98,106]),(ByteArray.mk #[100,101,116]),(ByteArray.mk #[])] bu rfl ⟨rfl,rfl,rfl,trivial⟩ rfl rfl rfl rfl (by decide) (by decide) s38 λ v19 _ s39 _=> ?_)
    ·obtain ⟨nk3,rfl,hnk3,p3⟩:=h_3
     have s40:=p3.join.od [0,1,2,3,4]
     have S22:=s40.pt [0,1,2]
     refine tQ S22 ?_
     refine .ix 0 S22 (·.ah 2 rfl) rfl (hj:=by have:=ho.len;omega) ?_
     have hoy1l:nk3<j:=by omega
     obtain ⟨oy1,hoy1⟩:∃ y,o[nk3]? =some y:=⟨_,py (by have:=ho.len;omega)⟩
     refine .le 0 S22 (·.ah 2 rfl) hoy1 rfl ?_
     have A4:=s40.oc [0,1,2,3,4] 1
     refine .DX rfl rfl rfl rfl rfl rfl (OpE.gW (ax) [(ByteArray.mk #[111,98,106]),(ByteArray.mk #[100,101,116]),(ByteArray.mk #[])] bu rfl ⟨rfl,rfl,rfl,trivial⟩ rfl rfl rfl rfl (by decide) (by decide) s40 λ v20 _ s41 _=> ?_) (OpE.call uC rfl ((aO _ _ _ _ (3) A4 (by omega) (by omega)).mono λ r4 _ h4=> ?_))
     ·have s41d:=s41.mn
      have S23:=s41d.pt [0,1,2,5]
      refine k6 [0,1,2] S23 rfl ?_
      have A5:=s41d.oc [0,1,2,3,4,5] 1
      refine .c 0 S23 (aO _ _ _ _ (3) A5 (by omega) (by omega)) rfl λ r5 _ h5=> ?_
      obtain ⟨nk5,rfl,hnk5,p5⟩:=h5
      have s42:=p5.join.od [0,1,2,3,4,5]
      have S24:=s42.pt [0,1,2,5]
      refine ⟨S24,?_⟩
      refine .ix 0 S24 (·.ah 3 rfl) rfl (hj:=by simp;omega) ?_
      obtain ⟨lx1,hlx1⟩:∃ x,([(ByteArray.mk #[111,98,106]),(ByteArray.mk #[100,101,116]),(ByteArray.mk #[])]:List ByteArray)[nk5]? =some x:=⟨_,py (show nk5<3 by omega)⟩
      refine .le 0 S24 (·.ah 3 rfl) hlx1 rfl<| .e rfl (λ _ hS=> .kJ aQ rfl rfl hshp1 (by have:=hI.len;simp;omega)) S24<| .f rfl (.cH (a:=((oy1:Nat):Int)) 3 cQ s42 rfl rfl rfl rfl (by first|(have:=hI.len;omega)|(rw [PJ];have:=hI.len;omega)) λ _ s43 _=> ?_)
      have s43d:=s43.sn
      have S25:=s43d.pt [0,1,2,5]
      refine ⟨S25,?_⟩
      refine .e rfl (λ _ hS=> .kJ bu rfl rfl hshp2 (by have:=hI.len;omega)) S25<| .f rfl (.cH (a:=lx1) 4 JP s43d rfl rfl rfl rfl (by first|(have:=hI.len;omega)|(rw [PJ];have:=hI.len;omega)) λ _ s44 _=> ?_)
      have s44d:=s44.sn
      have S26:=s44d.pt [0,1,2,5]
      refine ⟨S26,?_⟩
      refine .fin ?_
      have s45:=s44d.pt [0,1,2,3,4]
      have s46:=(s45.aZ 3 rfl (show (hd.set x (-1)).set x ((oy1:Nat):Int)=hd.set x ((oy1:Nat):Int) from by rw [SY])).sn
      exact ⟨((oy1:Nat):Int),lx1,(wk rfl),s46,.inr ⟨_,oy1,hoy1l,hoy1,rfl⟩,(qu (by decide) hlx1)⟩
     obtain ⟨nk4,rfl,hnk4,p4⟩:=h4
     have s47:=p4.join.od [0,1,2,3,4]
     have S27:=s47.pt [0,1,2]
     refine tQ S27 ?_
     refine .HK rfl rfl rfl (OpE.gW (ax) [(ByteArray.mk #[111,98,106]),(ByteArray.mk #[100,101,116]),(ByteArray.mk #[])] bu rfl ⟨rfl,rfl,rfl,trivial⟩ rfl rfl rfl rfl (by decide) (by decide) s47 λ v21 _ s48 _=> ?_)
     have s48d:=s48.mn
     have S28:=s48d.pt [0,1,2,5]
     refine k6 [0,1,2] S28 rfl ?_
     refine .ix 0 S28 (·.ah 3 rfl) rfl (hj:=by simp;omega) ?_
     obtain ⟨lx2,hlx2⟩:∃ x,([(ByteArray.mk #[111,98,106]),(ByteArray.mk #[100,101,116]),(ByteArray.mk #[])]:List ByteArray)[nk4]? =some x:=⟨_,py (show nk4<3 by omega)⟩
     refine .le 0 S28 (·.ah 3 rfl) hlx2 rfl<| .e rfl (λ _ hS=> .kJ aQ rfl rfl hshp1 (by have:=hI.len;simp;omega)) S28<| .f rfl (.cH (a:=((oy1:Nat):Int)) 3 cQ s48d rfl rfl rfl rfl (by first|(have:=hI.len;omega)|(rw [PJ];have:=hI.len;omega)) λ _ s49 _=> ?_)
     have s49d:=s49.sn
     have S29:=s49d.pt [0,1,2,5]
     refine ⟨S29,?_⟩
     refine .e rfl (λ _ hS=> .kJ bu rfl rfl hshp2 (by have:=hI.len;omega)) S29<| .f rfl (.cH (a:=lx2) 4 JP s49d rfl rfl rfl rfl (by first|(have:=hI.len;omega)|(rw [PJ];have:=hI.len;omega)) λ _ s50 _=> ?_)
     have s50d:=s50.sn
     have S30:=s50d.pt [0,1,2,5]
     refine ⟨S30,?_⟩
     refine .fin ?_
     have s51:=s50d.pt [0,1,2,3,4]
     have s52:=(s51.aZ 3 rfl (show (hd.set x (-1)).set x ((oy1:Nat):Int)=hd.set x ((oy1:Nat):Int) from by rw [SY])).sn
     exact ⟨((oy1:Nat):Int),lx2,(wk rfl),s52,.inr ⟨_,oy1,hoy1l,hoy1,rfl⟩,(qu (by decide) hlx2)⟩
    have s39d:=s39.mn
    have S31:=s39d.pt [0,1,2,5]
    refine k6 [0,1,2] S31 rfl ?_
    have A6:=s39d.oc [0,1,2,3,4,5] 1
    refine .c 0 S31 (aO _ _ _ _ (j) A6 (by omega) (by omega)) rfl λ r6 _ h6=> ?_
    obtain ⟨nk6,rfl,hnk6,p6⟩:=h6
    have s53:=p6.join.od [0,1,2,3,4,5]
    have S32:=s53.pt [0,1,2,5]
    refine ⟨S32,?_⟩
    refine .ix 0 S32 (·.ah 2 rfl) rfl (hj:=by have:=ho.len;omega) ?_
    have hoy2l:nk6<j:=by omega
    obtain ⟨oy2,hoy2⟩:∃ y,o[nk6]? =some y:=⟨_,py (by have:=ho.len;omega)⟩
    refine .le 0 S32 (·.ah 2 rfl) hoy2 rfl ?_
    have A7:=s53.oc [0,1,2,3,4,5] 1
    refine .c 0 S32 (aO _ _ _ _ (3) A7 (by omega) (by omega)) rfl λ r7 _ h7=> ?_
    obtain ⟨nk7,rfl,hnk7,p7⟩:=h7
    have s54:=p7.join.od [0,1,2,3,4,5]
    have S33:=s54.pt [0,1,2,5]
    refine ⟨S33,?_⟩
    refine .ix 0 S33 (·.ah 3 rfl) rfl (hj:=by simp;omega) ?_
    obtain ⟨lx3,hlx3⟩:∃ x,([(ByteArray.mk #[111,98,106]),(ByteArray.mk #[100,101,116]),(ByteArray.mk #[])]:List ByteArray)[nk7]? =some x:=⟨_,py (show nk7<3 by omega)⟩
    refine .le 0 S33 (·.ah 3 rfl) hlx3 rfl<| .e rfl (λ _ hS=> .kJ aQ rfl rfl hshp1 (by have:=hI.len;simp;omega)) S33<| .f rfl (.cH (a:=((oy2:Nat):Int)) 3 cQ s54 rfl rfl rfl rfl (by first|(have:=hI.len;omega)|(rw [PJ];have:=hI.len;omega)) λ _ s55 _=> ?_)
    have s55d:=s55.sn
    have S34:=s55d.pt [0,1,2,5]
    refine ⟨S34,?_⟩
    refine .e rfl (λ _ hS=> .kJ bu rfl rfl hshp2 (by have:=hI.len;omega)) S34<| .f rfl (.cH (a:=lx3) 4 JP s55d rfl rfl rfl rfl (by first|(have:=hI.len;omega)|(rw [PJ];have:=hI.len;omega)) λ _ s56 _=> ?_)
    have s56d:=s56.sn
    have S35:=s56d.pt [0,1,2,5]
    refine ⟨S35,?_⟩
    refine .fin ?_
    have s57:=s56d.pt [0,1,2,3,4]
    have s58:=(s57.aZ 3 rfl (show (hd.set x (-1)).set x ((oy2:Nat):Int)=hd.set x ((oy2:Nat):Int) from by rw [SY])).sn
    exact ⟨((oy2:Nat):Int),lx3,(wk rfl),s58,.inr ⟨_,oy2,hoy2l,hoy2,rfl⟩,(qu (by decide) hlx3)⟩
   refine .skip ?_
   have s59:=s37.pt [0,1,2,3,4]
   obtain ⟨s0,hs0⟩:∃ s,rl[x]? =some s:=⟨_,py (by have:=hI.len.2;omega)⟩
   have s60:=(s59.aZ 4 rfl (show rl=rl.set x s0 from (HZ hs0).symm)).sn
   exact ⟨-1,s0,(wk rfl),s60,.inl rfl,hI.nm s0 (a7 hs0)⟩
  rintro L' w41 ⟨v9,s9,hw4,s61,hv9,hs9⟩
  refine .weaken _ hw4 ?_
  have hv1:(hd.set x v9)[x]? =some v9:=Qo (by have:=hI.len.1;omega)
  have hs1:(rl.set x s9)[x]? =some s9:=Qo (by have:=hI.len.2;omega)
  refine .bN 10 (((sb=true)\/((v9:Int)≠(-1:Int)))\/(s9≠(ByteArray.mk #[]))) ?_ ?_
  ·refine .z 2 rfl ?_
   by_cases g2:sb=true
   ·refine .Gt 78 rfl (g2)<| .M rfl (by simp [g2])
   refine .Gf 78 rfl (by simpa using g2)<| .ix 2 (s61.ah 3 rfl) rfl (hj:=by rw [PJ];have:=hI.len;omega)<| .le 0 (s61.ah 3 rfl) hv1 rfl<| .a 0 rfl (.neq rfl rfl)<| .z 2 rfl<| .B 85 rfl (λ g3=> ?_) λ g3=> ?_
   ·refine .M rfl (by simp [g2,g3])
   refine .ix 2 (s61.ah 4 rfl) rfl (hj:=by rw [PJ];have:=hI.len;omega)<| .le 0 (s61.ah 4 rfl) hs1 rfl<| .a 0 rfl (.ed rfl rfl)<| .M rfl (by simp [g2,g3])
  refine .U rfl ?_
  exact aT (j+1,hd.set x v9,rl.set x s9,decide (((sb=true)\/((v9:Int)≠(-1:Int)))\/(s9≠(ByteArray.mk #[])))) ⟨s61,hI.step ho hx v9 s9 hv9 hs9 (λ h=>by have h1:=Qw h;exact h1.elim (λ h2=>h2.elim .inl (λ h3=> .inr (.inl h3))) (λ h2=> .inr (.inr h2))),by omega⟩
 refine .ao<| .Z rfl<| .cond rfl (λ c4=> ?_) (λ c4=> ?_)
 ·refine .region<| .st 6 s34 1 rfl (h1:=(s34.ah 3 rfl).ab) λ _ s62 _=> ?_
  have s62d:=s62.sn
  refine .st 2 s62d 1 rfl (h1:=(s62d.ah 4 rfl).ab) λ _ s63 _=> ?_
  have s63d:=s63.sn
  refine .nil ?_
  show aL _ _ _ _ _ _
  refine cv rfl ?_
  have s64:=s63d.pt [0,1,3,4]
  exact ⟨rfl,_,_,hd,rl,.inr (HdI.PE hI (by have:=ho.len;omega) ho c4 htb hte),s64⟩
 refine .skip ?_
 show aL _ _ _ _ _ _
 refine cv rfl ?_
 have s65:=s34.pt [0,1]
 have s66:=(s65.aA 3 (Kw.encI .i64)).mn
 have s67:=(s66.aA 9 (ax)).mn
 exact ⟨rfl,_,_,[],[],.inl ⟨rfl,rfl⟩,s67⟩
theorem zj (w:World):
  CallsV prog 59 [] w λ r w'=>Sat w [cL r 86 cE jC] w':=by
 refine cg func59 rfl λ hs0=> .Z rfl<| .h<| .e rfl (.build Hb rfl ⟨rfl,trivial⟩ rfl)<| .e rfl (.build Hb rfl ⟨rfl,trivial⟩ rfl)<| .e rfl (.build Hb rfl ⟨rfl,rfl,trivial⟩ rfl)<| .f rfl (.Oh (cE) ((ByteArray.mk #[119,111,114,100]),false) ((ByteArray.mk #[116,97,103]),false) ((ByteArray.mk #[102,101,97,116]),true) DU (m:=2) rfl (by decide) (by decide) hs0 rfl rfl rfl λ v1 _ s1 _=> ?_)
 refine .Z rfl<| .aC rfl rfl ?_
 exact s1.pk [0]
theorem uK {l:List ByteArray} (h:l.all (λ s=>decide (s.size<=120)&&vO s.data.toList)=true) {i:Nat} {x:ByteArray} (hx:l[i]? =some x):jf x=true:=by
 have:=Qt.1 h x (PO hx)
 simp only [PY,QC] at this
 exact kg this.1 this.2
theorem E8 {l:List Iv} {x:Iv} (h:∀ a∈l,∀ b∈l,noX a b) (h1:∀ z∈l,noX z x) (h2:noX x x):∀ a∈l++[x],∀ b∈l++[x],noX a b:=λ a ha b hb=>by
 rcases PT.1 ha with p|p<;>rcases PT.1 hb with q|q
 ·exact h a p b q
 ·rw [Q0.1 q];exact h1 a p
 ·rw [Q0.1 p];exact (h1 b q).symm
 rw [Q0.1 p,Q0.1 q];exact h2
theorem Lf {l:List Iv} {x z:Iv} {k:Nat} (h:∀ (m:Nat) t,m<k->l[m]? =some t->noX t x) (hk:l.length<=k) (hz:z∈l):noX z x:=by
 obtain ⟨i,hi⟩:=Qh hz
 exact h i z (by have:=(AT.1 hi).1;omega) hi
set_option maxHeartbeats 2000000 in
theorem pb (w0 w:World) (cs:List Chunk) (g most:Nat) (nm:ByteArray) (hs:Sat w0 ([sK 58 w0 g]++cs) w) (h1:1<=most) (h2:most<=12) (hnm:bC nm=true):
  CallsV prog 24 [(.pointer (some ⟨g,0,none⟩)),(.string nm),(.int .i64 most)] w λ r w'=>∃ (c:Co) (F:List Nat),r=c.val/\OkC 1 c/\c.at_=jC/\(∀ t∈c.tx,t.nm=nm)/\Sat w0 ([sK 58 w0 g,jH F (λ w1=>RdC w1 c)]++cs) w':=by
 refine ai func24 rfl rfl ?_
 refine .h<| .al 0 hs rfl λ b1 _ s1 _ _=> ?_
 have s1d:=s1.mn
 refine .nil<| .h<| .z 2 rfl ?_
 have A1:=s1d.oc [0,1] 1
 refine .c 0 (aO _ _ _ _ (most) A1 (by omega) (by omega)) rfl λ r1 _ h_1=> ?_
 obtain ⟨nk1,rfl,hnk1,p1⟩:=h_1
 have s2:=p1.join.od [0,1]
 refine .Z rfl<| .seq ?_
 obtain ⟨n,hn9⟩:∃ n,n=1+nk1:=⟨_,rfl⟩
 refine .weaken [(0,_),(1,_),(2,_),(6,_),(7,(.int .i64 n)),(18,_),(19,_),(20,_),(21,_)] ⟨rfl,rfl,rfl,rfl,If some (If (Value.int .i64) (by omega)),rfl,rfl,rfl,rfl,trivial⟩ ?_
 have hn12:n<=12/\1<=n:=by omega
 refine .region<| .c 0 (zj _) rfl λ r2 _ h_2=> ?_
 have s3:=(s2.az h_2).mn
 refine .a 2 rfl (.build JQ rfl ⟨rfl,rfl,trivial⟩ rfl)<| .f rfl (.cn (aG) (⟨nm,0,(n:Int),⟨none,0,0⟩,[]⟩:Iv) tf (by decide) (by decide) s3 rfl λ v1 _ s4 _=> ?_)
 have s4d:=s4.mn
 refine .e rfl (.build DV rfl ⟨(s4d.ah 2 rfl).ab,(s4d.ah 3 rfl).ab,trivial⟩ rfl)<| .al 0 s4d rfl λ b2 _ s5 _ _=> ?_
 have s5d:=s5.mn
 refine .sa 0 s5d 4 (vs:=[r2,(.slice none 0 0),v1,(.slice none 0 0),(.slice none 0 0),(.slice none 0 0),(.slice none 0 0)]) rfl (λ v h=>by simp only [PR,PU,Q9] at h;rcases h with rfl|rfl|rfl|rfl|rfl|rfl|rfl;exact (s5d.ah 2 rfl).ab;exact rfl;exact (s5d.ah 3 rfl).ab;exact rfl;exact rfl;exact rfl;exact rfl) λ _ s6 _=> ?_
 have s6d:=s6.sn
 refine .nil<| .jn [0,1,2,6,7,8] rfl (λ K L' w'=>∃ (sv:SV) (ps:List Pr) (F1:List Nat),Weak K L'/\Sat w0 ([sK 58 w0 g,aq b1 30 [(.slice none 0 0),(.slice none 0 0),(.slice none 0 0),(.slice none 0 0),(.slice none 0 0),(.slice none 0 0),(.slice none 0 0)],cL r2 86 (cE) (jC),cL v1 71 (aG) ([(⟨nm,0,(n:Int),sv,ps⟩:Iv)]),aq b2 30 [r2,(.slice none 0 0),v1,(.slice none 0 0),(.slice none 0 0),(.slice none 0 0),(.slice none 0 0)],jH F1 (λ w1=>RdL w1 sv.val aU ps)]++cs) w'/\(okPs ps)) ?_ ?_
 ·refine .h<| .z 1 rfl ?_
  have A2:=s6d.oc [0,1,2,3,4] 1
  refine .c 0 (aO _ _ _ _ (3) A2 (by omega) (by omega)) rfl λ r3 _ h3=> ?_
  obtain ⟨nk2,rfl,hnk2,p3⟩:=h3
  have s7:=p3.join.od [0,1,2,3,4]
  refine .Z rfl<| .ae rfl (λ c1=> ?_) λ c1=> ?_
  ·have hshp1:=(s7.ah (E:=aG) 3 rfl).iH (by decide)
   refine .dt [0,1,2,4] s7 rfl (pl [0,1,3] (.two 2 4 (pl [1004,5,6,7,1008,9,10,1011] .fin) (pl [1002,5,6,7,1008,9,10,1011] .fin))) λ s8 S1=> .ld 1 S1 3 rfl<| .z 1 S1 rfl ?_
   have A3:=s8.oc [0,1,2,3,4] 1
   refine .DX rfl rfl rfl rfl rfl rfl (OpE.gW (ax) [(ByteArray.mk #[49]),(ByteArray.mk #[50]),(ByteArray.mk #[])] bu rfl ⟨rfl,rfl,rfl,trivial⟩ rfl rfl rfl rfl (by decide) (by decide) s8 λ v2 _ s9 _=> ?_) (OpE.call uC rfl ((aO _ _ _ _ (3) A3 (by omega) (by omega)).mono λ r4 _ h4=> ?_))
   ·have s9d:=s9.mn
    have S2:=s9d.pt [0,1,2,4,5]
    refine k6 [0,1,2,3] S2 rfl ?_
    have A4:=s9d.oc [0,1,2,3,4,5] 1
    refine .c 0 S2 (aO _ _ _ _ (3) A4 (by omega) (by omega)) rfl λ r5 _ h5=> ?_
    obtain ⟨nk4,rfl,hnk4,p5⟩:=h5
    have s10:=p5.join.od [0,1,2,3,4,5]
    have S3:=s10.pt [0,1,2,4,5]
    refine ⟨S3,?_⟩
    refine .ix 0 S3 (·.ah 4 rfl) rfl (hj:=by simp;omega) ?_
    obtain ⟨lx1,hlx1⟩:∃ x,([(ByteArray.mk #[49]),(ByteArray.mk #[50]),(ByteArray.mk #[])]:List ByteArray)[nk4]? =some x:=⟨_,py (show nk4<3 by omega)⟩
    refine .le 0 S3 (·.ah 4 rfl) hlx1 rfl<| .e rfl (λ _ s=> .build C7 rfl ⟨rfl,rfl,trivial⟩ rfl) S3<| .f rfl (.cn (aU) ((ByteArray.mk #[121,101,97,114]),lx1) DW (by decide) (by decide) s10 rfl λ v3 _ s11 _=> ?_)
    have s11d:=s11.mn
    obtain ⟨sv1,hsv1,hsv1n⟩:=(s11d.ah 6 rfl).sv
    subst hsv1
    have S4:=s11d.pt [0,1,2,4,5]
    refine ⟨S4,?_⟩
    refine .e rfl (λ _ s=> .kJ (j:=0) tf rfl rfl hshp1 (by simp)) S4<| .e rfl (λ _ s=> .Of C6 rfl hshp1 (by simp)) S4<| .f rfl (.j5 (E:=aG) 3 (⟨nm,0,(n:Int),sv1,[((ByteArray.mk #[121,101,97,114]),lx1)]⟩:Iv) Ha s11d rfl rfl rfl rfl (show ([(⟨nm,0,(n:Int),⟨none,0,0⟩,[]⟩:Iv)])[0]? =some _ from rfl) rfl (by decide) λ _ s12 _=> ?_)
    have s12d:=s12.sn
    have S5:=s12d.pt [0,1,2,4,5]
    refine ⟨S5,?_⟩
    refine .fin ?_
    have s13:=s12d.pt [0,1,2,3,4,6]
    have s14:=(s13.aZ 3 rfl (show ([(⟨nm,0,(n:Int),⟨none,0,0⟩,[]⟩:Iv)]).set 0 (⟨nm,0,(n:Int),sv1,[((ByteArray.mk #[121,101,97,114]),lx1)]⟩:Iv)=[(⟨nm,0,(n:Int),sv1,[((ByteArray.mk #[121,101,97,114]),lx1)]⟩:Iv)] from rfl)).sn
    have s15:=(s14.od [5,0,1,2,3,4])
    obtain ⟨hF1,s16⟩:=s15.o5 1 (Q:=λ w1=>RdL w1 sv1.val aU [((ByteArray.mk #[121,101,97,114]),lx1)]) rfl rfl (λ w1 hA=>hA.ah 0 rfl)
    have s17:=(s16.od [1,2,3,4,5,0])
    exact ⟨sv1,[((ByteArray.mk #[121,101,97,114]),lx1)],hF1,(wk rfl),s17,rJ (show bC (ByteArray.mk #[121,101,97,114])=true by decide) (uK (by decide) hlx1)⟩
   obtain ⟨nk3,rfl,hnk3,p4⟩:=h4
   have s18:=p4.join.od [0,1,2,3,4]
   have S6:=s18.pt [0,1,2,4]
   refine tQ S6 ?_
   refine .HK rfl rfl rfl (OpE.gW (ax) [(ByteArray.mk #[49]),(ByteArray.mk #[50]),(ByteArray.mk #[])] bu rfl ⟨rfl,rfl,rfl,trivial⟩ rfl rfl rfl rfl (by decide) (by decide) s18 λ v_4 _ s19 _=> ?_)
   have s19d:=s19.mn
   have S7:=s19d.pt [0,1,2,4,5]
   refine k6 [0,1,2,3] S7 rfl ?_
   refine .ix 0 S7 (·.ah 4 rfl) rfl (hj:=by simp;omega) ?_
   obtain ⟨lx2,hlx2⟩:∃ x,([(ByteArray.mk #[49]),(ByteArray.mk #[50]),(ByteArray.mk #[])]:List ByteArray)[nk3]? =some x:=⟨_,py (show nk3<3 by omega)⟩
   refine .le 0 S7 (·.ah 4 rfl) hlx2 rfl<| .e rfl (λ _ s=> .build C7 rfl ⟨rfl,rfl,trivial⟩ rfl) S7<| .f rfl (.cn (aU) ((ByteArray.mk #[121,101,97,114]),lx2) DW (by decide) (by decide) s19d rfl λ v5 _ s20 _=> ?_)
   have s20d:=s20.mn
   obtain ⟨sv2,hsv2,hsv2n⟩:=(s20d.ah 6 rfl).sv
   subst hsv2
   have S8:=s20d.pt [0,1,2,4,5]
   refine ⟨S8,?_⟩
   refine .e rfl (λ _ s=> .kJ (j:=0) tf rfl rfl hshp1 (by simp)) S8<| .e rfl (λ _ s=> .Of C6 rfl hshp1 (by simp)) S8<| .f rfl (.j5 (E:=aG) 3 (⟨nm,0,(n:Int),sv2,[((ByteArray.mk #[121,101,97,114]),lx2)]⟩:Iv) Ha s20d rfl rfl rfl rfl (show ([(⟨nm,0,(n:Int),⟨none,0,0⟩,[]⟩:Iv)])[0]? =some _ from rfl) rfl (by decide) λ _ s21 _=> ?_)
   have s21d:=s21.sn
   have S9:=s21d.pt [0,1,2,4,5]
   refine ⟨S9,?_⟩
   refine .fin ?_
   have s22:=s21d.pt [0,1,2,3,4,6]
   have s23:=(s22.aZ 3 rfl (show ([(⟨nm,0,(n:Int),⟨none,0,0⟩,[]⟩:Iv)]).set 0 (⟨nm,0,(n:Int),sv2,[((ByteArray.mk #[121,101,97,114]),lx2)]⟩:Iv)=[(⟨nm,0,(n:Int),sv2,[((ByteArray.mk #[121,101,97,114]),lx2)]⟩:Iv)] from rfl)).sn
   have s24:=(s23.od [5,0,1,2,3,4])
   obtain ⟨hF2,s25⟩:=s24.o5 1 (Q:=λ w1=>RdL w1 sv2.val aU [((ByteArray.mk #[121,101,97,114]),lx2)]) rfl rfl (λ w1 hA=>hA.ah 0 rfl)
   have s26:=(s25.od [1,2,3,4,5,0])
   exact ⟨sv2,[((ByteArray.mk #[121,101,97,114]),lx2)],hF2,(wk rfl),s26,rJ (show bC (ByteArray.mk #[121,101,97,114])=true by decide) (uK (by decide) hlx2)⟩
  refine .skip ?_
  have s27:=s7.wM (Q:=λ w1=>RdL w1 (⟨none,0,0⟩:SV).val aU []) (λ w1=>RdL.nil _ _)
  have s28:=(s27.od [1,2,3,4,5,0])
  exact ⟨⟨none,0,0⟩,[],[],(wk rfl),s28,rI⟩
 rintro L' w16 ⟨sv,ps,F1,hw1,s29,hps⟩
 refine .weaken _ hw1<| .seq<| .Z rfl<| .block ?_
 have s30:=(s29.aA 28 (iS)).mn
 have s31:=s30.wM (Q:=λ w1=>∀ t∈([]:List Tk),RdL w1 t.sv.val ax t.ns) (λ w1=>λ t ht=>by cases ht)
 have s32:=(s31.od [1,2,3,4,5,6,7,0])
 refine .lq [0,1,2,6,7,8] rfl (α:=Nat×Value×List Tk×List Nat) (λ (i,tv,tks,F2)=>[(9,(.int .i64 i))]) (λ (i,tv,tks,F2) w'=>Sat w0 (s32.V [(4,aq b2 30 [r2,tv,v1,(.slice none 0 0),(.slice none 0 0),(.slice none 0 0),(.slice none 0 0)]),(6,cL tv 28 (iS) (tks)),(7,jH F2 (λ w1=>∀ t∈tks,RdL w1 t.sv.val ax t.ns))]++cs) w'/\(i<=n)/\(tks.length=i)/\(∀ t∈tks,LK t.ns)) (λ (i,tv,tks,F2)=>n-i) (0,(.slice none 0 0),[],[]) ⟨s32,KD _,rfl,(λ t ht=>by cases ht)⟩ ?_
 rintro ⟨i,tv,tks,F2⟩ w17 ⟨s33,hin,htl,htk⟩
 refine .seq<| .Z rfl<| .ae rfl (λ c2=> ?_) λ c2=> ?_
 ·refine .skip<| .seq<| .block<| .h<| .z 1 rfl ?_
  have A5:=s33.oc [0,1,2,3,4,5,6,7] 1
  refine .c 0 (aO _ _ _ _ (48) A5 (by omega) (by omega)) rfl λ r6 _ h6=> ?_
  obtain ⟨nk5,rfl,hnk5,p6⟩:=h6
  have s34:=p6.join.od [0,1,2,3,4,5,6,7]
  refine .Z rfl ?_
  have hshp2:=(s34.ah (E:=iS) 6 rfl).iH (by decide)
  refine .fk [0,1,2,3,4,5,7] [0,1,2,3,5,6] s34 rfl rfl 19 (pl [0,1,3,4,8,9,10,12,13,1002,5,6,1007,1011,1014,1015,1016,1017,18] (.bar 19 .fin)) mixed (by kernel_rfl) ?_
  have s35:=s34.drew
  have S10:=s35.pt [0,1,2,3,4,5,7]
  refine .ld 1 S10 4 rfl<| .z 1 S10 rfl<| .e rfl (λ _ s=> .rem (b:=8) rfl rfl (by omega)) S10<| .z 1 S10 rfl<| .e rfl (λ _ s=> .quo (b:=8) rfl rfl (by omega) (by unfold aY;omega)) S10<| .e rfl (λ _ s=> .rem (b:=2) rfl rfl (by omega)) S10<| .z 1 S10 rfl<| .e rfl (λ _ s=> .quo (b:=12) rfl rfl (by omega) (by unfold aY;omega)) S10<| .HK rfl rfl rfl (OpE.gW (aa .i64) [0,1,0,2,3,4,1,5] aQ rfl ⟨rfl,rfl,rfl,rfl,rfl,rfl,rfl,rfl,trivial⟩ rfl rfl rfl rfl (by decide) (by decide) s35 λ v6 _ s36 _=> ?_)
  have s36d:=s36.mn
  have S11:=s36d.pt [0,1,2,3,4,5,7,8]
  refine k6 [0,1,2,3,4,5,6] S11 rfl ?_
  refine .ix 0 S11 (·.ah 7 rfl) rfl (hj:=by simp;omega) ?_
  obtain ⟨wi1,hwi1⟩:∃ x,([0,1,0,2,3,4,1,5]:List Nat)[(nk5%8)]? =some x:=⟨_,py (show (nk5%8)<8 by omega)⟩
  have hwi16:wi1<6:=(show ∀ y∈([0,1,0,2,3,4,1,5]:List Nat),y<6 by decide) _ (a7 hwi1)
  refine .le 0 S11 (·.ah 7 rfl) hwi1 rfl<| .c 0 S11 (E7 (wi1) _ (hwi16)) rfl λ r7 _ h7=> ?_
  obtain ⟨ws1,rfl,hws1,p7⟩:=h7
  have s37:=(s36d.az p7).aI
  have S12:=s37.pt [0,1,2,3,4,5,7,8]
  refine ⟨S12,?_⟩
  refine .c 0 S12 (Le (((nk5/8)%2)) _ (by omega)) rfl λ r8 _ h8=> ?_
  obtain ⟨ws2,rfl,hws2,p8⟩:=h8
  have s38:=(s37.az p8).aI
  have S13:=s38.pt [0,1,2,3,4,5,7,8]
  refine ⟨S13,?_⟩
  refine .c 0 S13 (HW ((nk5/12)) _ (by omega)) rfl λ r9 _ h9=> ?_
  obtain ⟨ws3,rfl,hws3,p9⟩:=h9
  have s39:=(s38.az p9).aI
  have S14:=s39.pt [0,1,2,3,4,5,7,8]
  refine ⟨S14,?_⟩
  refine .f rfl (.gW (ax) [ws1,ws2,ws3] bu rfl ⟨rfl,rfl,rfl,trivial⟩ rfl rfl rfl rfl (by decide) (by decide) s39 λ v7 _ s40 _=> ?_)
  have s40d:=s40.mn
  obtain ⟨sv3,hsv3,hsv3n⟩:=(s40d.ah 9 rfl).sv
  subst hsv3
  have S15:=s40d.pt [0,1,2,3,4,5,7,8]
  refine ⟨S15,?_⟩
  refine .f rfl (.bU (iS) (⟨sv3,[ws1,ws2,ws3]⟩:Tk) AJ rfl s40d rfl λ v8 _ s41 _=> ?_)
  have s41d:=s41.mn
  have S16:=s41d.pt [0,1,2,3,4,5,7,8]
  refine ⟨S16,?_⟩
  refine .f rfl (.aw 6 AJ s41d rfl rfl rfl underlying24 (s41d.ah 10 rfl) (by simp only [KM];omega) (by simp only [KM];omega) λ v9 _ s42 _=> ?_)
  have s42d:=(s42.sn).pt [0,1,2,3,4,5,6,7,8,9]
  have S17:=s42d.pt [0,1,2,3,4,5,7,8]
  refine ⟨S17,?_⟩
  refine .z 1 S17 rfl<| .bar rfl rfl rfl (OpE.aK KQ s42d (i:=4) rfl rfl rfl ((s42d.ah 6 rfl).ab) rfl λ _ s43 _=> ?_)
  have s43d:=s43.sn
  have S18:=s43d.pt [0,1,2,3,5,7]
  refine ⟨S18,?_⟩
  refine .fin<| .U rfl ?_
  have s44:=(s43d.od [7,9,0,1,2,3,4,5,6,8])
  obtain ⟨hF3,s45⟩:=s44.o5 2 (Q:=λ w1=>∀ t∈tks++[(⟨sv3,[ws1,ws2,ws3]⟩:Tk)],RdL w1 t.sv.val ax t.ns) rfl rfl (λ w1 hA=>λ t ht=>(PT.1 ht).elim (hA.bV 0 rfl t) (λ h=>by rw [Q0.1 h];exact hA.ah 1 rfl))
  have s46:=(s45.od [1,2,3,4,5,6,7,0,8])
  have s47:=s46.pt [0,1,2,3,4,5,6,7]
  exact aT (i+1,v9,tks++[(⟨sv3,[ws1,ws2,ws3]⟩:Tk)],hF3) ⟨s47,by omega,by rw [sp];simp only [KM];omega,λ t ht=>(PT.1 ht).elim (htk t) (λ h=>by rw [Q0.1 h];exact ⟨_,_,_,rfl,hws1,hws2,hws3⟩)⟩
 refine .ao<| .Z rfl<| .seq<| .h<| .z 1 rfl ?_
 have A6:=s33.oc [0,1,2,3,4,5,6,7] 1
 refine .c 0 (aO _ _ _ _ (5) A6 (by omega) (by omega)) rfl λ r10 _ h10=> ?_
 obtain ⟨nk6,rfl,hnk6,p10⟩:=h10
 have s48:=p10.join.od [0,1,2,3,4,5,6,7]
 refine .Z rfl<| .block ?_
 have s49:=(s48.aA 75 (aG)).mn
 have s50:=s49.wM (Q:=λ w1=>∀ t∈([]:List Iv),RdL w1 t.sv.val aU t.ps) (λ w1=>λ t ht=>by cases ht)
 have s51:=(s50.od [1,2,3,4,5,6,7,8,9,0])
 have hz9:RdL w0 tv Fs (List.replicate n ()):=by rw [show n=tks.length by omega];exact (s51.ah 6 rfl).sz
 refine .lq [0,1,2,6,7,8,9] rfl (α:=Nat×Value×List Iv×List Nat) (λ (kk,rv,rs,F3)=>[(11,rv),(12,(.int .i64 kk))]) (λ (kk,rv,rs,F3) w'=>Sat w0 (s51.V [(8,cL rv 75 (aG) (rs)),(9,jH F3 (λ w1=>∀ t∈rs,RdL w1 t.sv.val aU t.ps))]++cs) w'/\(rs.length+kk<=4)/\(∀ x∈rs,Py n x)/\(∀ x∈rs,∀ y∈rs,noX x y)) (λ (kk,rv,rs,F3)=>kk) (nk6,(.slice none 0 0),[],[]) ⟨s51,by simp;omega,(λ x hx=>by cases hx),(λ x hx=>by cases hx)⟩ ?_
 rintro ⟨kk,rv,rs,F3⟩ w28 ⟨s52,hrl,hrD,hrX⟩
 refine .seq<| .Z rfl<| .ae rfl (λ c3=> ?_) λ c3=> ?_
 ·refine .skip<| .seq<| .block<| .h<| .z 2 rfl ?_
  have A7:=s52.oc [0,1,2,3,4,5,6,7,8,9] 1
  refine .c 0 (aO _ _ _ _ (n) A7 (by omega) (by omega)) rfl λ r11 _ h11=> ?_
  obtain ⟨nk7,rfl,hnk7,p11⟩:=h11
  have s53:=p11.join.od [0,1,2,3,4,5,6,7,8,9]
  refine .Z rfl<| .h<| .z 1 rfl ?_
  have A8:=s53.oc [0,1,2,3,4,5,6,7,8,9] 1
  refine .c 0 (aO _ _ _ _ (2) A8 (by omega) (by omega)) rfl λ r12 _ h12=> ?_
  obtain ⟨nk8,rfl,hnk8,p12⟩:=h12
  have s54:=p12.join.od [0,1,2,3,4,5,6,7,8,9]
  refine .c 0 (HX (nk8) _ (by omega)) rfl λ r13 _ h13=> ?_
  obtain ⟨ws4,rfl,hws4,p13⟩:=h13
  have s55:=(s54.az p13).aI
  refine .z 7 rfl ?_
  have A9:=s55.oc [0,1,2,3,4,5,6,7,8,9] 1
  refine .c 0 (aO _ _ _ _ ((n-nk7)) A9 (by omega) (by omega)) rfl λ r14 _ h14=> ?_
  obtain ⟨nk9,rfl,hnk9,p14⟩:=h14
  have s56:=p14.join.od [0,1,2,3,4,5,6,7,8,9]
  refine .a 1 rfl (.build Mg rfl ⟨rfl,rfl,rfl,trivial⟩ rfl)<| .al 0 s56 rfl λ b3 _ s57 _ _=> ?_
  have s57d:=s57.mn
  refine .sa 0 s57d 10 (vs:=[(.string ws4),(.int .i64 nk7),(.int .i64 (((nk7+1)+nk9):Nat)),(.slice none 0 0)]) rfl (λ v h=>by simp only [PR,PU,Q9] at h;rcases h with rfl|rfl|rfl|rfl;exact rfl;exact rfl;exact rfl;exact rfl) λ _ s58 _=> ?_
  have s58d:=s58.sn
  refine .nil<| .jn [0,1,2,6,7,8,9,11,12,13,14] rfl (λ K L' w'=>∃ (sk:SV) (kp:List Pr) (F4:List Nat),Weak K L'/\Sat w0 ([sK 58 w0 g,aq b1 30 [(.slice none 0 0),(.slice none 0 0),(.slice none 0 0),(.slice none 0 0),(.slice none 0 0),(.slice none 0 0),(.slice none 0 0)],cL r2 86 (cE) (jC),cL v1 71 (aG) ([(⟨nm,0,(n:Int),sv,ps⟩:Iv)]),aq b2 30 [r2,tv,v1,(.slice none 0 0),(.slice none 0 0),(.slice none 0 0),(.slice none 0 0)],jH F1 (λ w1=>RdL w1 sv.val aU ps),cL tv 28 (iS) (tks),jH F2 (λ w1=>∀ t∈tks,RdL w1 t.sv.val ax t.ns),cL rv 75 (aG) (rs),jH F3 (λ w1=>∀ t∈rs,RdL w1 t.sv.val aU t.ps),aq b3 75 [(.string ws4),(.int .i64 nk7),(.int .i64 (((nk7+1)+nk9):Nat)),sk.val],jH F4 (λ w1=>RdL w1 sk.val aU kp)]++cs) w'/\(okPs kp)) ?_ ?_
  ·refine .h<| .z 1 rfl ?_
   have A10:=s58d.oc [0,1,2,3,4,5,6,7,8,9,10] 1
   refine .c 0 (aO _ _ _ _ (2) A10 (by omega) (by omega)) rfl λ r15 _ h15=> ?_
   obtain ⟨nk10,rfl,hnk10,p15⟩:=h15
   have s59:=p15.join.od [0,1,2,3,4,5,6,7,8,9,10]
   refine .Z rfl<| .ae rfl (λ c4=> ?_) λ c4=> ?_
   ·refine .region<| .f rfl (.gW (ax) [(ByteArray.mk #[49]),(ByteArray.mk #[50])] bu rfl ⟨rfl,rfl,trivial⟩ rfl rfl rfl rfl (by decide) (by decide) s59 λ v10 _ s60 _=> ?_)
    have s60d:=s60.mn
    refine .z 1 rfl ?_
    have A11:=s60d.oc [0,1,2,3,4,5,6,7,8,9,10,11] 1
    refine .c 0 (aO _ _ _ _ (2) A11 (by omega) (by omega)) rfl λ r16 _ h16=> ?_
    obtain ⟨nk11,rfl,hnk11,p16⟩:=h16
    have s61:=p16.join.od [0,1,2,3,4,5,6,7,8,9,10,11]
    refine .ix 0 (s61.ah 11 rfl) rfl (hj:=by simp;omega) ?_
    obtain ⟨lx3,hlx3⟩:∃ x,([(ByteArray.mk #[49]),(ByteArray.mk #[50])]:List ByteArray)[nk11]? =some x:=⟨_,py (show nk11<2 by omega)⟩
    refine .le 0 (s61.ah 11 rfl) hlx3 rfl<| .e rfl (.build C7 rfl ⟨rfl,rfl,trivial⟩ rfl)<| .f rfl (.cn (aU) ((ByteArray.mk #[110]),lx3) DW (by decide) (by decide) s61 rfl λ v11 _ s62 _=> ?_)
    have s62d:=s62.mn
    obtain ⟨sv4,hsv4,hsv4n⟩:=(s62d.ah 12 rfl).sv
    subst hsv4
    refine .st 1 s62d 10 rfl λ _ s63 _=> ?_
    have s63d:=s63.sn
    refine .nil ?_
    have s64:=s63d.pt [0,1,2,3,4,5,6,7,8,9,10,12]
    have s65:=(s64.od [11,0,1,2,3,4,5,6,7,8,9,10])
    obtain ⟨hF4,s66⟩:=s65.o5 1 (Q:=λ w1=>RdL w1 sv4.val aU [((ByteArray.mk #[110]),lx3)]) rfl rfl (λ w1 hA=>hA.ah 0 rfl)
    have s67:=(s66.od [1,2,3,4,5,6,7,8,9,10,11,0])
    exact ⟨sv4,[((ByteArray.mk #[110]),lx3)],hF4,(wk rfl),s67,rJ (show bC (ByteArray.mk #[110])=true by decide) (uK (by decide) hlx3)⟩
   refine .skip ?_
   have s68:=s59.wM (Q:=λ w1=>RdL w1 (⟨none,0,0⟩:SV).val aU []) (λ w1=>RdL.nil _ _)
   have s69:=(s68.od [1,2,3,4,5,6,7,8,9,10,11,0])
   exact ⟨⟨none,0,0⟩,[],[],(wk rfl),s69,rI⟩
  rintro L' w40 ⟨sk,kp,F4,hw2,s70,hkp⟩
  refine .weaken _ hw2<| .Z rfl<| .seq<| .h<| .ln 1 (s70.ah 8 rfl) rfl<| .Z rfl<| .block<| .lq [0,1,2,6,7,8,9,11,12,13,14,101,102] rfl (α:=Nat×Bool) (λ (q,cb)=>[(15,(.bool cb)),(103,(.int .i64 q))]) (λ (q,cb) w'=>Sat w0 s70.L w'/\(cb=false->∀ (m:Nat) z,m<q->rs[m]? =some z->noX z (⟨ws4,((nk7:Nat):Int),((((nk7+1)+nk9):Nat):Int),sk,kp⟩:Iv))) (λ (q,cb)=>rs.length-q) (0,false) ⟨s70,λ _ m z h=>absurd h (by omega)⟩ ?_
  rintro ⟨q,cb⟩ w41 ⟨s71,hcb⟩
  refine .Z rfl<| .seq<| .ae rfl (λ c5=> ?_) λ c5=> ?_
  ·refine .skip<| .seq<| .block<| .seq ?_
   obtain ⟨y,hy⟩:∃ y,(rs)[q]? =some y:=⟨_,py c5⟩
   refine .region<| .ix 0 (s71.ah 8 rfl) rfl<| .lg 0 (s71.ah 8 rfl) hy rfl<| .al 0 s71 rfl λ b4 _ s72 _ _=> ?_
   have s72d:=s72.mn
   refine .sa 0 s72d 12 rfl ((aG).one _) λ _ s73 _=> ?_
   have s73d:=s73.sn
   refine .nil<| .bN 15 ((cb=true)\/(((((y.nm=ws4)/\((y.b:Int)<((((nk7+1)+nk9):Nat):Int)))/\(((nk7:Nat):Int)<(y.e:Int)))/\(¬ (((y.b:Int)<=((nk7:Nat):Int))/\(((((nk7+1)+nk9):Nat):Int)<=(y.e:Int)))))/\(¬ ((((nk7:Nat):Int)<=(y.b:Int))/\((y.e:Int)<=((((nk7+1)+nk9):Nat):Int)))))) ?_ ?_
   ·refine .z 2 rfl ?_
    by_cases g1:cb=true
    ·refine .Gt 108 rfl (g1)<| .M rfl (by first|(simp [g1];done)|(simp [g1];omega))
    refine .Gf 108 rfl (by simpa using g1)<| .ld 1 s73d 12 rfl<| .ld 1 s73d 10 rfl<| .a 0 rfl (.eF rfl rfl)<| .z 1 rfl<| .B 114 rfl (λ g2=> ?_) λ g2=> ?_
    ·refine .ld 1 s73d 12 rfl<| .ld 1 s73d 10 rfl<| .a 0 rfl (.lss rfl rfl)<| .z 2 rfl<| .B 121 rfl (λ g3=> ?_) λ g3=> ?_
     ·refine .ld 1 s73d 10 rfl<| .ld 1 s73d 12 rfl<| .a 0 rfl (.lss rfl rfl)<| .z 2 rfl<| .B 128 rfl (λ g4=> ?_) λ g4=> ?_
      ·refine .ld 1 s73d 12 rfl<| .ld 1 s73d 10 rfl<| .a 0 rfl (.leq rfl rfl)<| .z 1 rfl<| .B 134 rfl (λ g5=> ?_) λ g5=> ?_
       ·refine .ld 1 s73d 10 rfl<| .ld 1 s73d 12 rfl<| .a 0 rfl (.leq rfl rfl)<| .a 1 rfl (.mF rfl)<| .z 2 rfl<| .B 143 rfl (λ g6=> ?_) λ g6=> ?_
        ·refine .ld 1 s73d 10 rfl<| .ld 1 s73d 12 rfl<| .a 0 rfl (.leq rfl rfl)<| .z 1 rfl<| .B 149 rfl (λ g7=> ?_) λ g7=> ?_
         ·refine .ld 1 s73d 12 rfl<| .ld 1 s73d 10 rfl<| .a 0 rfl (.leq rfl rfl)<| .a 1 rfl (.mF rfl)<| .M rfl (by first|(simp [g1,g2,g3,g4,g5,g6,g7];done)|(simp [g1,g2,g3,g4,g5,g6,g7];omega))
         refine .M rfl (by first|(simp [g1,g2,g3,g4,g5,g6,g7];done)|(simp [g1,g2,g3,g4,g5,g6,g7];omega))
        refine .M rfl (by first|(simp [g1,g2,g3,g4,g5,g6];done)|(simp [g1,g2,g3,g4,g5,g6];omega))
       refine .ld 10 s73d 10 rfl<| .ld 1 s73d 12 rfl<| .a 0 rfl (.leq rfl rfl)<| .z 1 rfl<| .B 149 rfl (λ g8=> ?_) λ g8=> ?_
       ·refine .ld 1 s73d 12 rfl<| .ld 1 s73d 10 rfl<| .a 0 rfl (.leq rfl rfl)<| .a 1 rfl (.mF rfl)<| .M rfl (by first|(simp [g1,g2,g3,g4,g5,g8];done)|(simp [g1,g2,g3,g4,g5,g8];omega))
       refine .M rfl (by first|(simp [g1,g2,g3,g4,g5,g8];done)|(simp [g1,g2,g3,g4,g5,g8];omega))
      refine .M rfl (by first|(simp [g1,g2,g3,g4];done)|(simp [g1,g2,g3,g4];omega))
     refine .M rfl (by first|(simp [g1,g2,g3];done)|(simp [g1,g2,g3];omega))
    refine .M rfl (by first|(simp [g1,g2];done)|(simp [g1,g2];omega))
   refine .U rfl ?_
   have s74:=s73d.pt [0,1,2,3,4,5,6,7,8,9,10,11]
   exact aT (q+1,decide ((cb=true)\/(((((y.nm=ws4)/\((y.b:Int)<((((nk7+1)+nk9):Nat):Int)))/\(((nk7:Nat):Int)<(y.e:Int)))/\(¬ (((y.b:Int)<=((nk7:Nat):Int))/\(((((nk7+1)+nk9):Nat):Int)<=(y.e:Int)))))/\(¬ ((((nk7:Nat):Int)<=(y.b:Int))/\((y.e:Int)<=((((nk7+1)+nk9):Nat):Int))))))) ⟨s74,λ h=>by have h1:=Rm h;exact iT (Q:=λ _ z=>noX z (⟨ws4,((nk7:Nat):Int),((((nk7+1)+nk9):Nat):Int),sk,kp⟩:Iv)) (hcb (Tz.2 λ h2=>h1 (.inl h2))) hy (λ e1 hh=>h1 (.inr ⟨⟨⟨⟨e1,hh.1⟩,hh.2.1⟩,hh.2.2.1⟩,hh.2.2.2⟩))⟩
  refine .ao<| .h<| .a 1 rfl (.cO rfl)<| .nil<| .cond rfl (λ c6=> ?_) (λ c6=> ?_)
  ·refine .region<| .lo 1 s71 10 rfl<| .f rfl (.cn (aG) (⟨ws4,((nk7:Nat):Int),((((nk7+1)+nk9):Nat):Int),sk,kp⟩:Iv) oU (by decide) (by decide) s71 rfl λ v12 _ s75 _=> ?_)
   have s75d:=s75.mn
   refine .ap 0 s75d 8 (s75d.ah 12 rfl) rfl (h1:=by simp only [KM];omega) (h2:=by simp only [KM];omega) λ v13 _ s76 _=> ?_
   have s76d:=(s76.sn).pt [0,1,2,3,4,5,6,7,8,9,10,11]
   refine .Z rfl<| .U rfl ?_
   have s77:=(s76d.od [9,11,0,1,2,3,4,5,6,7,8,10])
   obtain ⟨hF5,s78⟩:=s77.o5 2 (Q:=λ w1=>∀ t∈rs++[(⟨ws4,((nk7:Nat):Int),((((nk7+1)+nk9):Nat):Int),sk,kp⟩:Iv)],RdL w1 t.sv.val aU t.ps) rfl rfl (λ w1 hA=>λ t ht=>(PT.1 ht).elim (hA.bV 0 rfl t) (λ h=>by rw [Q0.1 h];exact hA.bV 1 rfl))
   have s79:=(s78.od [1,2,3,4,5,6,7,8,9,0,10])
   have s80:=s79.pt [0,1,2,3,4,5,6,7,8,9]
   exact aT (kk-1,v13,rs++[(⟨ws4,((nk7:Nat):Int),((((nk7+1)+nk9):Nat):Int),sk,kp⟩:Iv)],hF5) ⟨s80,by rw [sp];simp only [KM];omega,λ x hx=>(PT.1 hx).elim (hrD x) (λ h=>by rw [Q0.1 h];exact ⟨Cl _ hws4,hkp,by simp only;omega,by simp only;omega,by simp only;omega⟩),E8 hrX (λ z hz=>Lf (hcb (by simpa using c6)) (by omega) hz) (λ _ h=>by simp only at h;omega)⟩
  refine .skip<| .U rfl ?_
  have s81:=s71.pt [0,1,2,3,4,5,6,7,8,9]
  exact aT (kk-1,rv,rs,F3) ⟨s81,by omega,hrD,hrX⟩
 refine .ao<| .h<| .c 1 (Cm _ (rs) _ (s52.ah 8 rfl) (s52.bV 9 rfl) (by omega) (λ t ht=>(hrD t ht).2.1.1)) rfl λ r17 _ h17=> ?_
 obtain ⟨rm1,hrm_1P,hrm_1A,p17⟩:=h17
 have s82:=(s52.az p17).mn
 refine .st 1 s82 4 rfl (h1:=(s82.ah 10 rfl).ab) λ _ s83 _=> ?_
 have s83d:=s83.sn
 refine .nil<| .h<| .z 1 rfl ?_
 have A12:=s83d.oc [0,4,1,2,3,5,6,7,8,9,10] 2
 refine .c 0 (Cn _ _ _ _ _ n _ _ _ _ A12 hz9 (by omega) (by omega)) rfl λ r18 _ h18=> ?_
 obtain ⟨rfl,dvn1,dnd1,dz1,hdnd1,hdz1,hdnd1l,p18⟩:=h18
 have s84:=p18.join.od [0,3,4,5,1,6,7,8,9,10,11,2]
 refine .nil<| .jn [0,1,2,6,7,8,9,11,12] rfl (λ K L' w'=>∃ (vh9:Value) (vl9:Value) (hd9:List Int) (rl9:List ByteArray),Weak K L'/\Sat w0 ([sK 58 w0 g,aq b1 30 [(.slice none 0 0),(.slice none 0 0),(.slice none 0 0),(.slice none 0 0),(.slice none 0 0),(.slice none 0 0),(.slice none 0 0)],cL r2 86 (cE) (jC),cL v1 71 (aG) ([(⟨nm,0,(n:Int),sv,ps⟩:Iv)]),aq b2 30 [r2,tv,v1,r17,dvn1,vh9,vl9],jH F1 (λ w1=>RdL w1 sv.val aU ps),cL tv 28 (iS) (tks),jH F2 (λ w1=>∀ t∈tks,RdL w1 t.sv.val ax t.ns),cL rv 75 (aG) (rs),jH F3 (λ w1=>∀ t∈rs,RdL w1 t.sv.val aU t.ps),cL r17 75 (aG) (rm1),cL dvn1 84 (bE) (dnd1),cL vh9 3 (Kw.encI .i64) (hd9),cL vl9 9 (ax) (rl9)]++cs) w'/\((hd9=[]/\rl9=[])\/okHd n [(⟨nm,0,(n:Int),sv,ps⟩:Iv)] hd9 rl9)) ?_ ?_
 ·refine .h<| .z 1 rfl ?_
  have A13:=s84.oc [0,1,2,3,4,5,6,7,8,9,10,11] 1
  refine .c 0 (aO _ _ _ _ (2) A13 (by omega) (by omega)) rfl λ r19 _ h19=> ?_
  obtain ⟨nk12,rfl,hnk12,p19⟩:=h19
  have s85:=p19.join.od [0,1,2,3,4,5,6,7,8,9,10,11]
  refine .Z rfl<| .ae rfl (λ c7=> ?_) λ c7=> ?_
  ·refine .region<| .z 1 rfl ?_
   have A14:=s85.oc [0,4,1,2,3,5,6,7,8,9,10,11] 2
   refine .c 0 (Cp _ _ _ _ _ n _ _ _ _ _ (⟨nm,0,(n:Int),sv,ps⟩:Iv) A14 hz9 (by omega) (by omega) rfl rfl) rfl λ r20 _ h20=> ?_
   obtain ⟨rfl,dvh1,dvl1,dhd1,drl1,hdhd1,p20⟩:=h20
   have s86:=p20.join.od [0,4,5,6,1,7,8,9,10,11,12,13,2,3]
   refine .nil ?_
   exact ⟨dvh1,dvl1,dhd1,drl1,(wk rfl),s86,hdhd1⟩
  refine .skip ?_
  have s87:=(s85.aA 3 (Kw.encI .i64)).mn
  have s88:=(s87.aA 9 (ax)).mn
  exact ⟨(Value.slice none 0 0),(.slice none 0 0),[],[],(wk rfl),s88,.inl ⟨rfl,rfl⟩⟩
 rintro L' w51 ⟨vh9,vl9,hd9,rl9,hw3,s89,hhd⟩
 refine .weaken _ hw3<| .h<| .lo 0 s89 4 rfl<| .sa 0 s89 1 (vs:=[r2,tv,v1,r17,dvn1,vh9,vl9]) rfl (λ v h=>by simp only [PR,PU,Q9] at h;rcases h with rfl|rfl|rfl|rfl|rfl|rfl|rfl;exact (s89.ah 2 rfl).ab;exact (s89.ah 6 rfl).ab;exact (s89.ah 3 rfl).ab;exact (s89.ah 10 rfl).ab;exact (s89.ah 11 rfl).ab;exact (s89.ah 12 rfl).ab;exact (s89.ah 13 rfl).ab) λ _ s90 _=> ?_
 have s90d:=s90.sn
 refine .nil<| .ret ?_
 show aL _ _ _ _ _ _
 refine zV (vs:=[r2,tv,v1,r17,dvn1,vh9,vl9]) rfl rfl gP (λ j u hu=>s90d.cell (i:=1) rfl hu) ?_
 have s91:=(s90d.od [2,3,5,6,7,9,10,11,12,13,0,1,4,8])
 obtain ⟨hF6,s92⟩:=s91.o5 10 (Q:=λ w1=>RdC w1 (Co.mk r2 tv v1 r17 dvn1 vh9 vl9 jC tks [(⟨nm,0,(n:Int),sv,ps⟩:Iv)] rm1 dnd1 hd9 rl9)) rfl rfl (λ w1 hA=>⟨hA.ah 0 rfl,hA.ah 3 rfl,hA.ah 1 rfl,hA.ah 6 rfl,hA.ah 7 rfl,hA.ah 8 rfl,hA.ah 9 rfl,hA.bV 4 rfl,(λ t ht=>by rw [Q0.1 ht];exact hA.bV 2 rfl),λ t ht=>hA.bV 5 rfl t (hrm_1P.mem_iff.1 ht)⟩)
 have s93:=(s92.od [1,0,2,3,4])
 have s94:=s93.pt [0,1]
 have hok:OkC 1 (Co.mk r2 tv v1 r17 dvn1 vh9 vl9 jC tks [(⟨nm,0,(n:Int),sv,ps⟩:Iv)] rm1 dnd1 hd9 rl9):=LL (n:=n) (t:=(⟨nm,0,(n:Int),sv,ps⟩:Iv)) (at_:=dz1) (by omega) (by omega) rfl (by simp only;omega) htk rfl rfl rfl hnm hps (λ x hx=>hrD x (hrm_1P.mem_iff.1 hx)) hrm_1A (λ x hx y hy=>hrX x (hrm_1P.mem_iff.1 hx) y (hrm_1P.mem_iff.1 hy)) (by have:=hrm_1P.length_eq;simp only;omega) hdnd1 hdz1 hdnd1l hhd
 exact ⟨_,hF6,rfl,hok,rfl,λ t ht=>by rw [Q0.1 ht],s94⟩
def wT:List ByteArray:=[(ByteArray.mk #[116,48]),(ByteArray.mk #[116,49]),(ByteArray.mk #[116,50])]
theorem E9:∀ (i j:Nat) (x y:ByteArray),wT[i]? =some x->wT[j]? =some y->i≠j->x≠y:=by
 intro i j x y hx hy h
 have hi:i<3:=(AT.1 hx).1
 have hj:j<3:=(AT.1 hy).1
 have key:∀ i<3,∀ j<3,i≠j->wT[i]? ≠wT[j]? :=by decide
 intro e
 subst e
 exact key i hi j hj h (hx.trans hy.symm)
theorem I0 {a b c:Co} {k:Nat} {x:ByteArray} (hc:IsCat a b c) (ha:∀ t∈a.tx,∀ (m:Nat) s,1<=m->m<=k->wT[m]? =some s->s≠t.nm) (hb:∀ t∈b.tx,t.nm=x) (hk:k-1<=k) (hx:wT[k]? =some x):∀ t∈c.tx,∀ (m:Nat) s,1<=m->m<=k-1->wT[m]? =some s->s≠t.nm:=λ t ht m s h1 h2 hm=>by
 rw [hc.tx] at ht
 rcases fx ht with h|⟨y,hy,e⟩
 ·exact ha t h m s h1 (by omega) hm
 rw [e];show s≠y.nm;rw [hb y hy];exact E9 m k _ _ hm hx (by omega)
theorem zk (w0 w:World) (cs:List Chunk) (g most:Nat) (hs:Sat w0 ([sK 58 w0 g]++cs) w) (h1:1<=most) (h2:most<=12):
  CallsV prog 10 [(.pointer (some ⟨g,0,none⟩)),(.int .i64 most)] w λ r w'=>∃ (c:Co) (F:List Nat) (n:Nat),r=c.val/\n<=3/\OkC n c/\Sat w0 ([jH F (λ w1=>RdC w1 c)]++cs) w':=by
 refine ai func10 rfl rfl ?_
 refine .h<| .al 0 hs rfl λ b1 _ s1 _ _=> ?_
 have s1d:=s1.mn
 refine .nil<| .h<| .z 2 rfl ?_
 have A1:=s1d.oc [0,1] 1
 refine .c 0 (pb _ _ _ _ (most) ((ByteArray.mk #[116,48])) A1 (by omega) (by omega) ((by decide))) rfl λ r1 _ h_1=> ?_
 obtain ⟨dc1,dF1,rfl,hdc1,hdc1a,hdc1n,p1⟩:=h_1
 have s2:=p1.join.od [0,2,1]
 refine .al 0 s2 rfl λ b2 _ s3 _ _=> ?_
 have s3d:=s3.mn
 refine .sa 0 s3d 3 (vs:=[dc1.va,dc1.vt,dc1.vx,dc1.vr,dc1.vn,dc1.vh,dc1.vl]) rfl (λ v h=>by simp only [PR,PU,Q9] at h;rcases h with rfl|rfl|rfl|rfl|rfl|rfl|rfl;exact (s3d.bV 2 rfl).a.ab;exact (s3d.bV 2 rfl).t.ab;exact (s3d.bV 2 rfl).x.ab;exact (s3d.bV 2 rfl).r.ab;exact (s3d.bV 2 rfl).n.ab;exact (s3d.bV 2 rfl).h.ab;exact (s3d.bV 2 rfl).l.ab) λ _ s4 _=> ?_
 have s4d:=s4.sn
 refine .nil<| .seq<| .h<| .z 1 rfl ?_
 have A2:=s4d.oc [0,1,2,3] 1
 refine .c 0 (aO _ _ _ _ (3) A2 (by omega) (by omega)) rfl λ r2 _ h_2=> ?_
 obtain ⟨nk1,rfl,hnk1,p2⟩:=h_2
 have s5:=p2.join.od [0,1,2,3]
 refine .Z rfl<| .block<| .lq [0,1,4,5] rfl (α:=Nat×Co×List Nat×Nat) (λ (kk,c,F,j)=>[(6,(.int .i64 kk))]) (λ (kk,c,F,j) w'=>Sat w0 (s5.V [(2,jH F (λ w1=>RdC w1 c)),(3,aq b2 30 [c.va,c.vt,c.vx,c.vr,c.vn,c.vh,c.vl])]++cs) w'/\(OkC j c)/\(kk<=2)/\(j+kk<=3)/\(c.at_=jC)/\(∀ t∈c.tx,∀ (m:Nat) s,1<=m->m<=kk->wT[m]? =some s->s≠t.nm)) (λ (kk,c,F,j)=>kk) (nk1,dc1,dF1,1) ⟨s5,hdc1,by omega,by omega,hdc1a,λ t ht m s h1 _ hm=>by rw [hdc1n t ht];exact E9 m 0 _ _ hm rfl (by omega)⟩ ?_
 rintro ⟨kk,c,F,j⟩ w6 ⟨s6,hoc,hk2,hj,hca,hcn⟩
 refine .seq<| .Z rfl<| .ae rfl (λ c1=> ?_) λ c1=> ?_
 ·refine .skip<| .seq<| .block<| .h<| .b 1 rfl (.gW (ax) [(ByteArray.mk #[116,48]),(ByteArray.mk #[116,49]),(ByteArray.mk #[116,50])] bu rfl ⟨rfl,rfl,rfl,trivial⟩ rfl rfl rfl rfl (by decide) (by decide) s6 λ v1 _ s7 _=> ?_)
  have s7d:=s7.mn
  refine .ix 1 (s7d.ah 4 rfl) rfl (hj:=by simp;omega) ?_
  obtain ⟨nx1,hnx1⟩:∃ x,([(ByteArray.mk #[116,48]),(ByteArray.mk #[116,49]),(ByteArray.mk #[116,50])]:List ByteArray)[kk]? =some x:=⟨_,py (show kk<3 by omega)⟩
  refine .le 0 (s7d.ah 4 rfl) hnx1 rfl<| .z 1 rfl ?_
  have A3:=s7d.oc [0,1,2,3,4] 1
  refine .c 0 (pb _ _ _ _ (most) (nx1) A3 (by omega) (by omega) (kK (by decide) hnx1)) rfl λ r3 _ h3=> ?_
  obtain ⟨dc2,dF2,rfl,hdc2,hdc2a,hdc2n,p3⟩:=h3
  have s8:=p3.join.od [0,2,3,4,5,1]
  refine .al 0 s8 rfl λ b3 _ s9 _ _=> ?_
  have s9d:=s9.mn
  refine .sa 0 s9d 6 (vs:=[dc2.va,dc2.vt,dc2.vx,dc2.vr,dc2.vn,dc2.vh,dc2.vl]) rfl (λ v h=>by simp only [PR,PU,Q9] at h;rcases h with rfl|rfl|rfl|rfl|rfl|rfl|rfl;exact (s9d.bV 5 rfl).a.ab;exact (s9d.bV 5 rfl).t.ab;exact (s9d.bV 5 rfl).x.ab;exact (s9d.bV 5 rfl).r.ab;exact (s9d.bV 5 rfl).n.ab;exact (s9d.bV 5 rfl).h.ab;exact (s9d.bV 5 rfl).l.ab) λ _ s10 _=> ?_
  have s10d:=s10.sn
  refine .nil<| .h<| .lo 0 s10d 3 rfl<| .lo 0 s10d 6 rfl<| .c 0 (Ck c dc2 _ _ _ (s10d.bV 2 rfl) (s10d.bV 5 rfl) hoc hdc2 (by omega) (by omega) (by rw [hca,hdc2a]) (λ x hx y hy e=>hcn y hy kk _ (by omega) (KB _) hnx1 (by rw [e,hdc2n x hx]))) rfl λ r4 _ h4=> ?_
  obtain ⟨cx1,cF1,rfl,hcx1,p4⟩:=h4
  have s11:=(s10d.az p4).mn
  refine .al 3 s11 rfl λ b4 _ s12 _ _=> ?_
  have s12d:=s12.mn
  refine .sa 0 s12d 8 (vs:=[cx1.va,cx1.vt,cx1.vx,cx1.vr,cx1.vn,cx1.vh,cx1.vl]) rfl (λ v h=>by simp only [PR,PU,Q9] at h;rcases h with rfl|rfl|rfl|rfl|rfl|rfl|rfl;exact ((s12d.bV 7 rfl) (s12d.bV 2 rfl) (s12d.bV 5 rfl)).a.ab;exact ((s12d.bV 7 rfl) (s12d.bV 2 rfl) (s12d.bV 5 rfl)).t.ab;exact ((s12d.bV 7 rfl) (s12d.bV 2 rfl) (s12d.bV 5 rfl)).x.ab;exact ((s12d.bV 7 rfl) (s12d.bV 2 rfl) (s12d.bV 5 rfl)).r.ab;exact ((s12d.bV 7 rfl) (s12d.bV 2 rfl) (s12d.bV 5 rfl)).n.ab;exact ((s12d.bV 7 rfl) (s12d.bV 2 rfl) (s12d.bV 5 rfl)).h.ab;exact ((s12d.bV 7 rfl) (s12d.bV 2 rfl) (s12d.bV 5 rfl)).l.ab) λ _ s13 _=> ?_
  have s13d:=s13.sn
  refine .Z rfl<| .Z rfl<| .ea rfl (rfl)<| .region<| .lo 0 s13d 8 rfl<| .sa 0 s13d 3 (vs:=[cx1.va,cx1.vt,cx1.vx,cx1.vr,cx1.vn,cx1.vh,cx1.vl]) rfl (λ v h=>by simp only [PR,PU,Q9] at h;rcases h with rfl|rfl|rfl|rfl|rfl|rfl|rfl;exact ((s13d.bV 7 rfl) (s13d.bV 2 rfl) (s13d.bV 5 rfl)).a.ab;exact ((s13d.bV 7 rfl) (s13d.bV 2 rfl) (s13d.bV 5 rfl)).t.ab;exact ((s13d.bV 7 rfl) (s13d.bV 2 rfl) (s13d.bV 5 rfl)).x.ab;exact ((s13d.bV 7 rfl) (s13d.bV 2 rfl) (s13d.bV 5 rfl)).r.ab;exact ((s13d.bV 7 rfl) (s13d.bV 2 rfl) (s13d.bV 5 rfl)).n.ab;exact ((s13d.bV 7 rfl) (s13d.bV 2 rfl) (s13d.bV 5 rfl)).h.ab;exact ((s13d.bV 7 rfl) (s13d.bV 2 rfl) (s13d.bV 5 rfl)).l.ab) λ _ s14 _=> ?_
  have s14d:=s14.sn
  refine .nil<| .U rfl ?_
  have s15:=(s14d.od [2,5,7,0,1,3,4,6,8])
  obtain ⟨hF1,s16⟩:=s15.o5 3 (Q:=λ w1=>RdC w1 cx1) rfl rfl (λ w1 hA=>hA.bV 2 rfl (hA.bV 0 rfl) (hA.bV 1 rfl))
  have s17:=(s16.od [1,2,0,3,4,5,6])
  have s18:=s17.pt [0,1,2,3]
  exact aT (kk-1,cx1,hF1,j+1) ⟨s18,OkC.cat hoc hdc2 (by rw [hca,hdc2a]) (λ x hx y hy e=>hcn y hy kk _ (by omega) (KB _) hnx1 (by rw [e,hdc2n x hx])) hcx1,by omega,by omega,by rw [hcx1.at_];exact hca,I0 hcx1 hcn hdc2n (Nat.le_of_lt_succ (by omega)) hnx1⟩
 refine .ao<| .h<| .lo 0 s6 3 rfl<| .sa 0 s6 1 (vs:=[c.va,c.vt,c.vx,c.vr,c.vn,c.vh,c.vl]) rfl (λ v h=>by simp only [PR,PU,Q9] at h;rcases h with rfl|rfl|rfl|rfl|rfl|rfl|rfl;exact (s6.bV 2 rfl).a.ab;exact (s6.bV 2 rfl).t.ab;exact (s6.bV 2 rfl).x.ab;exact (s6.bV 2 rfl).r.ab;exact (s6.bV 2 rfl).n.ab;exact (s6.bV 2 rfl).h.ab;exact (s6.bV 2 rfl).l.ab) λ _ s19 _=> ?_
 have s19d:=s19.sn
 refine .nil<| .ret ?_
 show aL _ _ _ _ _ _
 refine zV (vs:=[c.va,c.vt,c.vx,c.vr,c.vn,c.vh,c.vl]) rfl rfl gP (λ j u hu=>s19d.cell (i:=1) rfl hu) ?_
 have s20:=s19d.pt [2]
 exact ⟨c,_,j,rfl,by omega,hoc,s20⟩
theorem I1 (w0 w:World) (cs:List Chunk) (g:Nat) (bv:Value) (s:RS) (x2 x3 x5 x6 x7 x8 x9 tv:Value) (at_:Nat) (tx:List Iv) (F:List Nat) (hs:Sat w0 ([aq g 158 [bv,.bool (!s.1),x2,x3,tv,x5,x6,x7,x8,x9,.int .i64 ((at_:Nat):Int)],cL tv 71 aG (tx),jH F (λ w1=>∀ t∈tx,RdL w1 t.sv.val aU t.ps)]++cs) w) (hb:RdL w0 bv (aa .u8) s.2) (hB:RB s) (ha:at_<=1152921504606846976) (htl:tx.length<=1073741824):
  CallsV prog 99 [(.pointer (some ⟨g,0,none⟩))] w λ r w'=>r= .tuple #[]/\∃ bv' tv' x F',RdL w0 bv' (aa .u8) (Ak (s,at_)).2.1.2/\x.v=(Ak (s,at_)).1/\Sat w0 ([aq g 158 [bv',.bool (!(Ak (s,at_)).2.1.1),x2,x3,tv',x5,x6,x7,x8,x9,.int .i64 (((Ak (s,at_)).2.2:Nat):Int)],cL tv' 71 aG ((tx++[x])),jH F' (λ w1=>∀ t∈(tx++[x]),RdL w1 t.sv.val aU t.ps)]++cs) w':=by
 refine ai func99 rfl rfl ?_
 refine .seq<| .wI (λ L' w'=>∃ (bq:Value) (b0:Nat),Weak [(0,(.pointer (some ⟨g,0,none⟩))),(2,(.pointer (some ⟨b0,0,none⟩)))] L'/\Sat w0 ([aq g 158 [bq,(.bool (!(aP s).2.1)),x2,x3,tv,x5,x6,x7,x8,x9,(.int .i64 at_)],cL tv 71 (aG) (tx),jH F (λ w1=>∀ t∈tx,RdL w1 t.sv.val aU t.ps),aq b0 71 [(.string (aP s).1),(.int .i64 at_),(.int .i64 (0:Nat)),(.slice none 0 0)]]++cs) w'/\(RdL w0 bq (aa .u8) (aP s).2.2)) ?_ ?_
 ·refine .Oy [0,1,2] (hs.uI 0 rfl rfl rfl) rfl (pl [0,1,2,4,5,6,7] (.two 3 9 (pl [8,1009,1010] .fin) (pl [1003,8,1010] .fin))) mixed (by kernel_rfl) ?_
  have s1:=hs.drew
  have S1:=(s1.uI 0 rfl rfl rfl).pt [0,1,2]
  refine .m rfl rfl S1<| .e rfl (λ _ q=> .nilCheck rfl) S1<| .e rfl (λ _ q=> .fieldAddr sA rfl rfl) S1<| .m rfl rfl S1<| .e rfl (λ _ q=> .nilCheck rfl) S1<| .e rfl (λ _ q=> .fieldAddr Hd rfl rfl) S1<| .e rfl (λ _ q=> .load gO rfl (q.HB (i:=0) (j:=8) rfl rfl)) S1 ?_
  have A1:=s1.oc [0,1,2] 1
  refine .two rfl rfl rfl rfl rfl rfl (OpE.call wF rfl ((cc _ _ _ _ _ s _ _ _ _ _ _ _ _ _ A1 hb hB).mono λ r1 _ h_1=> ?_)) (OpE.alloc s1 sx λ b1 _ s2 _ _=> ?_)
  ·obtain ⟨rfl,bv1,hbv1,p1⟩:=h_1
   have s3:=p1.join.od [0,1,2]
   have S2:=(s3.uI 0 rfl rfl rfl).pt [0,1,2]
   refine ⟨S2,?_⟩
   refine .e rfl (λ _ q=> .build JQ rfl ⟨rfl,rfl,trivial⟩ rfl) S2<| .f rfl (.alloc s3 sx λ b2 _ s4 _ _=> ?_)
   have s4d:=s4.mn
   have S3:=(s4d.uI 0 rfl rfl rfl).pt [0,1,2]
   refine ⟨S3,?_⟩
   refine .f rfl (.cz (vs:=[(.string (aP s).1),(.int .i64 at_),(.int .i64 (0:Nat)),(.slice none 0 0)]) yP s4d (i:=3) rfl rfl rfl rfl (λ v h=>by simp only [PR,PU,Q9] at h;rcases h with rfl|rfl|rfl|rfl;exact rfl;exact rfl;exact rfl;exact rfl) λ _ s5 _=> ?_)
   have s5d:=s5.sn
   have S4:=(s5d.uI 0 rfl rfl rfl).pt [0,1,2]
   refine ⟨S4,?_⟩
   refine .fin ?_
   exact ⟨bv1,b2,(wk rfl),s5d,hbv1⟩
  have s2d:=s2.mn
  have S5:=(s2d.uI 0 rfl rfl rfl).pt [0,1,2]
  refine ⟨S5,?_⟩
  have A2:=s2d.oc [0,1,2,3] 1
  refine .f rfl (.call wF rfl ((cc _ _ _ _ _ s _ _ _ _ _ _ _ _ _ A2 hb hB).mono λ r2 _ h2=> ?_))
  obtain ⟨rfl,bv2,hbv2,p2⟩:=h2
  have s6:=p2.join.od [0,1,2,3]
  have S6:=(s6.uI 0 rfl rfl rfl).pt [0,1,2]
  refine ⟨S6,?_⟩
  refine .e rfl (λ _ q=> .build JQ rfl ⟨rfl,rfl,trivial⟩ rfl) S6<| .f rfl (.cz (vs:=[(.string (aP s).1),(.int .i64 at_),(.int .i64 (0:Nat)),(.slice none 0 0)]) yP s6 (i:=3) rfl rfl rfl rfl (λ v h=>by simp only [PR,PU,Q9] at h;rcases h with rfl|rfl|rfl|rfl;exact rfl;exact rfl;exact rfl;exact rfl) λ _ s7 _=> ?_)
  have s7d:=s7.sn
  have S7:=(s7d.uI 0 rfl rfl rfl).pt [0,1,2]
  refine ⟨S7,?_⟩
  refine .fin ?_
  exact ⟨bv2,b1,(wk rfl),s7d,hbv2⟩
 rintro L' w7 ⟨bq,b0,hw1,s8,hbq⟩
 refine .weaken _ hw1<| .seq ?_
 have hnl:=ez (aP s).2
 refine .region<| .z 3 rfl ?_
 have A3:=s8.oc [0,1,2,3] 1
 refine .c 0 (bO _ _ _ _ _ (aP s).2 _ _ _ _ _ _ _ _ _ A3 hbq (RB.tx hB)) rfl λ r3 _ h3=> ?_
 obtain ⟨rfl,bv3,hbv3,p3⟩:=h3
 have s9:=p3.join.od [0,1,2,3]
 refine .Z rfl<| .h<| .ld 3 s9 0 rfl<| .st 4 s9 0 rfl λ _ s10 _=> ?_
 have s10d:=s10.sn
 refine .nil<| .h<| .ld 3 s10d 0 rfl<| .st 1 s10d 3 rfl λ _ s11 _=> ?_
 have s11d:=s11.sn
 refine .nil<| .h<| .z 3 rfl ?_
 have A4:=s11d.oc [0,1,2,3] 1
 refine .c 0 (pf _ _ _ _ _ (aS (aP s).2).2 _ _ _ _ _ _ _ _ _ A4 hbv3 (RB.nm (RB.tx hB))) rfl λ r4 _ h4=> ?_
 obtain ⟨pv1,rfl,bv4,hbv4,p4⟩:=h4
 have s12:=p4.join.od [0,2,3,4,1]
 refine .st 1 s12 3 rfl (h1:=(s12.ah 4 rfl).ab) λ _ s13 _=> ?_
 have s13d:=s13.sn
 refine .nil ?_
 obtain ⟨sv1,hsv1,hsv1n⟩:=(s13d.ah 4 rfl).sv
 subst hsv1
 have hshp1:=(s13d.ah (E:=aG) 1 rfl).iH (by decide)
 refine .fk [0,2,3,4] [1,2,3] s13d rfl rfl 12 (pl [0,1,2,3,4,5,6,1007,1008] (.loose 9 (.loose 10 (pl [11] (.bar 12 .fin))))) mixed (by kernel_rfl) ?_
 have s14:=s13d.drew
 have S8:=s14.pt [0,2,3,4]
 refine .ld 5 S8 0 rfl<| .e rfl (λ _ q=> .fH yP rfl q (i:=2) rfl rfl) S8<| .f rfl (.cn (aG) (⟨(aP s).1,((at_:Nat):Int),(((at_+(aS (aP s).2).1):Nat):Int),sv1,(pq (aS (aP s).2).2).1⟩:Iv) tf (by decide) (by decide) s14 rfl λ v1 _ s15 _=> ?_)
 have s15d:=s15.mn
 have S9:=s15d.pt [0,2,3,4]
 refine ⟨S9,?_⟩
 refine .f rfl (.aw 1 tf s15d rfl rfl rfl underlying25 (s15d.ah 5 rfl) (by simp only [KM];omega) (by simp only [KM];omega) λ v2 _ s16 _=> ?_)
 have s16d:=(s16.sn).pt [0,1,2,3,4]
 have S10:=s16d.pt [0,2,3,4]
 refine ⟨S10,?_⟩
 refine .loose rfl rfl rfl (λ _ q=> .nilCheck rfl) S10<| .loose rfl rfl rfl (λ _ q=> .fieldAddr gQ rfl rfl) S10<| .z 1 S10 rfl<| .bar rfl rfl rfl (OpE.aK KR s16d (i:=0) rfl rfl rfl ((s16d.ah 1 rfl).ab) rfl λ _ s17 _=> ?_)
 have s17d:=s17.sn
 have S11:=s17d.pt [2,3,4]
 refine ⟨S11,?_⟩
 refine .fin ?_
 show aL _ _ _ _ _ _
 refine cv rfl ?_
 have s18:=s17d.pt [0,1,2,4]
 have s19:=(s18.od [2,3,0,1])
 obtain ⟨hF1,s20⟩:=s19.o5 2 (Q:=λ w1=>∀ t∈(tx++[(⟨(aP s).1,((at_:Nat):Int),(((at_+(aS (aP s).2).1):Nat):Int),sv1,(pq (aS (aP s).2).2).1⟩:Iv)]),RdL w1 t.sv.val aU t.ps) rfl rfl (λ w1 hA=>λ t ht=>(PT.1 ht).elim (hA.bV 0 rfl t) (λ h=>by rw [Q0.1 h];exact hA.ah 1 rfl))
 have s21:=(s20.od [1,2,0])
 exact ⟨rfl,_,_,(⟨(aP s).1,((at_:Nat):Int),(((at_+(aS (aP s).2).1):Nat):Int),sv1,(pq (aS (aP s).2).2).1⟩:Iv),_,hbv4,rfl,s21⟩
theorem I2 (w0 w:World) (cs:List Chunk) (g:Nat) (bv:Value) (s:RS) (x2 x3 x4 x6 x7 x8 x9 tv:Value) (at_:Nat) (tx:List Iv) (F:List Nat) (hs:Sat w0 ([aq g 158 [bv,.bool (!s.1),x2,x3,x4,tv,x6,x7,x8,x9,.int .i64 ((at_:Nat):Int)],cL tv 75 aG (tx),jH F (λ w1=>∀ t∈tx,RdL w1 t.sv.val aU t.ps)]++cs) w) (hb:RdL w0 bv (aa .u8) s.2) (hB:RB s) (ha:at_<=1152921504606846976) (htl:tx.length<=1073741824):
  CallsV prog 100 [(.pointer (some ⟨g,0,none⟩))] w λ r w'=>r= .tuple #[]/\∃ bv' tv' x F',RdL w0 bv' (aa .u8) (y4 (s,at_)).2.1.2/\x.v=(y4 (s,at_)).1/\Sat w0 ([aq g 158 [bv',.bool (!(y4 (s,at_)).2.1.1),x2,x3,x4,tv',x6,x7,x8,x9,.int .i64 (((y4 (s,at_)).2.2:Nat):Int)],cL tv' 75 aG ((tx++[x])),jH F' (λ w1=>∀ t∈(tx++[x]),RdL w1 t.sv.val aU t.ps)]++cs) w':=by
 refine ai func100 rfl rfl ?_
 refine .h<| .z 3 rfl ?_
 have A1:=hs.oc [0,1,2] 1
 refine .c 0 (cc _ _ _ _ _ s _ _ _ _ _ _ _ _ _ A1 hb hB) rfl λ r1 _ h_1=> ?_
 obtain ⟨rfl,bv1,hbv1,p1⟩:=h_1
 have s1:=p1.join.od [0,1,2]
 refine .e rfl (.build Mg rfl ⟨rfl,trivial⟩ rfl)<| .al 0 s1 rfl λ b1 _ s2 _ _=> ?_
 have s2d:=s2.mn
 refine .sa 0 s2d 3 (vs:=[(.string (aP s).1),(.int .i64 (0:Nat)),(.int .i64 (0:Nat)),(.slice none 0 0)]) rfl (λ v h=>by simp only [PR,PU,Q9] at h;rcases h with rfl|rfl|rfl|rfl;exact rfl;exact rfl;exact rfl;exact rfl) λ _ s3 _=> ?_
 have s3d:=s3.sn
 refine .nil<| .h<| .z 3 rfl ?_
 have A2:=s3d.oc [0,1,2,3] 1
 refine .c 0 (bO _ _ _ _ _ (aP s).2 _ _ _ _ _ _ _ _ _ A2 hbv1 (RB.tx hB)) rfl λ r2 _ h2=> ?_
 obtain ⟨rfl,bv2,hbv2,p2⟩:=h2
 have s4:=p2.join.od [0,1,2,3]
 refine .Z rfl<| .seq ?_
 have hnl:=ez (aP s).2
 refine .region<| .ld 3 s4 0 rfl<| .st 4 s4 0 rfl λ _ s5 _=> ?_
 have s5d:=s5.sn
 refine .nil<| .h<| .ld 3 s5d 0 rfl<| .st 1 s5d 3 rfl λ _ s6 _=> ?_
 have s6d:=s6.sn
 refine .nil<| .seq ?_
 have hnl2:=ez (aS (aP s).2).2
 refine .fk [1,2,3] [0,1] s6d rfl rfl 8 (pl [0,1,2,3,4,1005,6,7] (.bar 8 .fin)) mixed (by kernel_rfl) ?_
 have s7:=s6d.drew
 have S1:=s7.pt [1,2,3]
 refine .ld 1 S1 2 rfl<| .z 3 S1 rfl ?_
 have A3:=s7.oc [0,1,2,3] 1
 refine .c 0 S1 (bO _ _ _ _ _ (aS (aP s).2).2 _ _ _ _ _ _ _ _ _ A3 hbv2 (RB.nm (RB.tx hB))) rfl λ r3 _ h3=> ?_
 obtain ⟨rfl,bv3,hbv3,p3⟩:=h3
 have s8:=p3.join.od [0,1,2,3]
 have S2:=s8.pt [1,2,3]
 refine ⟨S2,?_⟩
 refine .z 2 S2 rfl<| .bar rfl rfl rfl (OpE.aK cQ s8 (i:=3) rfl rfl rfl (rfl) rfl λ _ s9 _=> ?_)
 have s9d:=s9.sn
 have S3:=s9d.pt [1,2]
 refine ⟨S3,?_⟩
 refine .fin<| .h<| .z 3 rfl ?_
 have A4:=s9d.oc [0,1,2,3] 1
 refine .c 0 (pf _ _ _ _ _ (aS (aS (aP s).2).2).2 _ _ _ _ _ _ _ _ _ A4 hbv3 (RB.nm (RB.nm (RB.tx hB)))) rfl λ r4 _ h4=> ?_
 obtain ⟨pv1,rfl,bv4,hbv4,p4⟩:=h4
 have s10:=p4.join.od [0,2,3,4,1]
 refine .st 1 s10 3 rfl (h1:=(s10.ah 4 rfl).ab) λ _ s11 _=> ?_
 have s11d:=s11.sn
 refine .nil ?_
 obtain ⟨sv1,hsv1,hsv1n⟩:=(s11d.ah 4 rfl).sv
 subst hsv1
 have hshp1:=(s11d.ah (E:=aG) 1 rfl).iH (by decide)
 refine .fk [0,2,3,4] [1,2,3] s11d rfl rfl 12 (pl [0,1,2,3,4,5,6,1007,1008] (.loose 9 (.loose 10 (pl [11] (.bar 12 .fin))))) mixed (by kernel_rfl) ?_
 have s12:=s11d.drew
 have S4:=s12.pt [0,2,3,4]
 refine .ld 5 S4 0 rfl<| .e rfl (λ _ q=> .fH yQ rfl q (i:=2) rfl rfl) S4<| .f rfl (.cn (aG) (⟨(aP s).1,(((at_+(aS (aP s).2).1):Nat):Int),((((at_+(aS (aP s).2).1)+(aS (aS (aP s).2).2).1):Nat):Int),sv1,(pq (aS (aS (aP s).2).2).2).1⟩:Iv) oU (by decide) (by decide) s12 rfl λ v1 _ s13 _=> ?_)
 have s13d:=s13.mn
 have S5:=s13d.pt [0,2,3,4]
 refine ⟨S5,?_⟩
 refine .f rfl (.aw 1 oU s13d rfl rfl rfl underlying26 (s13d.ah 5 rfl) (by simp only [KM];omega) (by simp only [KM];omega) λ v2 _ s14 _=> ?_)
 have s14d:=(s14.sn).pt [0,1,2,3,4]
 have S6:=s14d.pt [0,2,3,4]
 refine ⟨S6,?_⟩
 refine .loose rfl rfl rfl (λ _ q=> .nilCheck rfl) S6<| .loose rfl rfl rfl (λ _ q=> .fieldAddr gQ rfl rfl) S6<| .z 1 S6 rfl<| .bar rfl rfl rfl (OpE.aK KS s14d (i:=0) rfl rfl rfl ((s14d.ah 1 rfl).ab) rfl λ _ s15 _=> ?_)
 have s15d:=s15.sn
 have S7:=s15d.pt [2,3,4]
 refine ⟨S7,?_⟩
 refine .fin ?_
 show aL _ _ _ _ _ _
 refine cv rfl ?_
 have s16:=s15d.pt [0,1,2,4]
 have s17:=(s16.od [2,3,0,1])
 obtain ⟨hF1,s18⟩:=s17.o5 2 (Q:=λ w1=>∀ t∈(tx++[(⟨(aP s).1,(((at_+(aS (aP s).2).1):Nat):Int),((((at_+(aS (aP s).2).1)+(aS (aS (aP s).2).2).1):Nat):Int),sv1,(pq (aS (aS (aP s).2).2).2).1⟩:Iv)]),RdL w1 t.sv.val aU t.ps) rfl rfl (λ w1 hA=>λ t ht=>(PT.1 ht).elim (hA.bV 0 rfl t) (λ h=>by rw [Q0.1 h];exact hA.ah 1 rfl))
 have s19:=(s18.od [1,2,0])
 exact ⟨rfl,_,_,(⟨(aP s).1,(((at_+(aS (aP s).2).1):Nat):Int),((((at_+(aS (aP s).2).1)+(aS (aS (aP s).2).2).1):Nat):Int),sv1,(pq (aS (aS (aP s).2).2).2).1⟩:Iv),_,hbv4,rfl,s19⟩
theorem Ea (w0 w:World) (cs:List Chunk) (g:Nat) (bv:Value) (s:RS) (x2 x3 x4 x5 x7 x8 x9 x10 nv:Value) (nd:List Nd) (hs:Sat w0 ([aq g 158 [bv,.bool (!s.1),x2,x3,x4,x5,nv,x7,x8,x9,x10],cL nv 84 bE (nd)]++cs) w) (hb:RdL w0 bv (aa .u8) s.2) (hB:RB s) (htl:nd.length<=1073741824):
  CallsV prog 101 [(.pointer (some ⟨g,0,none⟩))] w λ r w'=>r= .tuple #[]/\∃ bv' nv',RdL w0 bv' (aa .u8) (FJ s).2.2/\Sat w0 ([aq g 158 [bv',.bool (!(FJ s).2.1),x2,x3,x4,x5,nv',x7,x8,x9,x10],cL nv' 84 bE (nd++[(FJ s).1])]++cs) w':=by
 refine ai func101 rfl rfl ?_
 refine .seq ?_
 have hn1:=ez (aP s).2
 have hn2:=ez (aS (aP s).2).2
 have hn3:=ez (aS (aS (aP s).2).2).2
 refine .wI (λ L' w'=>∃ (bq:Value) (b0:Nat),Weak [(0,(.pointer (some ⟨g,0,none⟩))),(2,(.pointer (some ⟨b0,0,none⟩)))] L'/\Sat w0 ([aq g 158 [bq,(.bool (!(aS (aS (aP s).2).2).2.1)),x2,x3,x4,x5,nv,x7,x8,x9,x10],cL nv 84 (bE) (nd),aq b0 84 [(.string (aP s).1),(.int .i64 ((aS (aS (aP s).2).2).1:Nat)),(.int .i64 (0:Nat)),(.int .i64 ((((aS (aP s).2).1:Nat):Int)-1))]]++cs) w'/\(RdL w0 bq (aa .u8) (aS (aS (aP s).2).2).2.2)) ?_ ?_
 ·refine .dt [1] hs rfl (pl [0,1,2,4,5,6,9,10,11] (.two 3 14 (.two 7 14 (pl [8] (.two 12 14 (pl [13,1014,1015] .fin) (pl [1012,13,1015] .fin))) (pl [1007,8,1012,13,1015] .fin)) (pl [1003,1007,8,1012,13,1015] .fin))) λ s1 S1=> .z 9 S1 rfl ?_
  have A1:=s1.oc [0,1] 1
  refine .two rfl rfl rfl rfl rfl rfl (OpE.call wF rfl ((cc _ _ _ _ _ s _ _ _ _ _ _ _ _ _ A1 hb hB).mono λ r1 _ h1=> ?_)) (OpE.alloc s1 sy λ b1 _ s2 _ _=> ?_)
  ·obtain ⟨rfl,bv1,hbv1,p1⟩:=h1
   have s3:=p1.join.od [0,1]
   have S2:=s3.pt [1]
   refine ⟨S2,?_⟩
   have A2:=s3.oc [0,1] 1
   refine .two rfl rfl rfl rfl rfl rfl (OpE.call AN rfl ((bO _ _ _ _ _ (aP s).2 _ _ _ _ _ _ _ _ _ A2 hbv1 (RB.tx hB)).mono λ r2 _ h2=> ?_)) (OpE.alloc s3 sy λ b2 _ s4 _ _=> ?_)
   ·obtain ⟨rfl,bv2,hbv2,p2⟩:=h2
    have s5:=p2.join.od [0,1]
    have S3:=s5.pt [1]
    refine ⟨S3,?_⟩
    refine .e rfl (λ _ q=> .sub (b:=(1:Int)) rfl rfl (by unfold aY;omega)) S3 ?_
    have A3:=s5.oc [0,1] 1
    refine .two rfl rfl rfl rfl rfl rfl (OpE.call AN rfl ((bO _ _ _ _ _ (aS (aP s).2).2 _ _ _ _ _ _ _ _ _ A3 hbv2 (RB.nm (RB.tx hB))).mono λ r3 _ h3=> ?_)) (OpE.alloc s5 sy λ b3 _ s6 _ _=> ?_)
    ·obtain ⟨rfl,bv3,hbv3,p3⟩:=h3
     have s7:=p3.join.od [0,1]
     have S4:=s7.pt [1]
     refine ⟨S4,?_⟩
     refine .e rfl (λ _ q=> .build wz rfl ⟨rfl,rfl,rfl,trivial⟩ rfl) S4<| .f rfl (.alloc s7 sy λ b4 _ s8 _ _=> ?_)
     have s8d:=s8.mn
     have S5:=s8d.pt [1]
     refine ⟨S5,?_⟩
     refine .f rfl (.cz (vs:=[(.string (aP s).1),(.int .i64 ((aS (aS (aP s).2).2).1:Nat)),(.int .i64 (0:Nat)),(.int .i64 (((((aS (aP s).2).1:Nat):Int)-1)))]) yR s8d (i:=2) rfl rfl rfl rfl (λ v h=>by simp only [PR,PU,Q9] at h;rcases h with rfl|rfl|rfl|rfl;exact rfl;exact rfl;exact rfl;exact rfl) λ _ s9 _=> ?_)
     have s9d:=s9.sn
     have S6:=s9d.pt [1]
     refine ⟨S6,?_⟩
     refine .fin ?_
     exact ⟨bv3,b4,(wk rfl),s9d,hbv3⟩
    have s6d:=s6.mn
    have S7:=s6d.pt [1]
    refine ⟨S7,?_⟩
    have A4:=s6d.oc [0,1,2] 1
    refine .c 0 S7 (bO _ _ _ _ _ (aS (aP s).2).2 _ _ _ _ _ _ _ _ _ A4 hbv2 (RB.nm (RB.tx hB))) rfl λ r4 _ h4=> ?_
    obtain ⟨rfl,bv4,hbv4,p4⟩:=h4
    have s10:=p4.join.od [0,1,2]
    have S8:=s10.pt [1]
    refine ⟨S8,?_⟩
    refine .e rfl (λ _ q=> .build wz rfl ⟨rfl,rfl,rfl,trivial⟩ rfl) S8<| .f rfl (.cz (vs:=[(.string (aP s).1),(.int .i64 ((aS (aS (aP s).2).2).1:Nat)),(.int .i64 (0:Nat)),(.int .i64 (((((aS (aP s).2).1:Nat):Int)-1)))]) yR s10 (i:=2) rfl rfl rfl rfl (λ v h=>by simp only [PR,PU,Q9] at h;rcases h with rfl|rfl|rfl|rfl;exact rfl;exact rfl;exact rfl;exact rfl) λ _ s11 _=> ?_)
    have s11d:=s11.sn
    have S9:=s11d.pt [1]
    refine ⟨S9,?_⟩
    refine .fin ?_
    exact ⟨bv4,b3,(wk rfl),s11d,hbv4⟩
   have s4d:=s4.mn
   have S10:=s4d.pt [1]
   refine ⟨S10,?_⟩
   have A5:=s4d.oc [0,1,2] 1
   refine .c 0 S10 (bO _ _ _ _ _ (aP s).2 _ _ _ _ _ _ _ _ _ A5 hbv1 (RB.tx hB)) rfl λ r5 _ h5=> ?_
   obtain ⟨rfl,bv5,hbv5,p5⟩:=h5
   have s12:=p5.join.od [0,1,2]
   have S11:=s12.pt [1]
   refine ⟨S11,?_⟩
   refine .e rfl (λ _ q=> .sub (b:=(1:Int)) rfl rfl (by unfold aY;omega)) S11 ?_
   have A6:=s12.oc [0,1,2] 1
   refine .c 0 S11 (bO _ _ _ _ _ (aS (aP s).2).2 _ _ _ _ _ _ _ _ _ A6 hbv5 (RB.nm (RB.tx hB))) rfl λ r6 _ h6=> ?_
   obtain ⟨rfl,bv6,hbv6,p6⟩:=h6
   have s13:=p6.join.od [0,1,2]
   have S12:=s13.pt [1]
   refine ⟨S12,?_⟩
   refine .e rfl (λ _ q=> .build wz rfl ⟨rfl,rfl,rfl,trivial⟩ rfl) S12<| .f rfl (.cz (vs:=[(.string (aP s).1),(.int .i64 ((aS (aS (aP s).2).2).1:Nat)),(.int .i64 (0:Nat)),(.int .i64 (((((aS (aP s).2).1:Nat):Int)-1)))]) yR s13 (i:=2) rfl rfl rfl rfl (λ v h=>by simp only [PR,PU,Q9] at h;rcases h with rfl|rfl|rfl|rfl;exact rfl;exact rfl;exact rfl;exact rfl) λ _ s14 _=> ?_)
   have s14d:=s14.sn
   have S13:=s14d.pt [1]
   refine ⟨S13,?_⟩
   refine .fin ?_
   exact ⟨bv6,b2,(wk rfl),s14d,hbv6⟩
  have s2d:=s2.mn
  have S14:=s2d.pt [1]
  refine ⟨S14,?_⟩
  have A7:=s2d.oc [0,1,2] 1
  refine .c 0 S14 (cc _ _ _ _ _ s _ _ _ _ _ _ _ _ _ A7 hb hB) rfl λ r7 _ h7=> ?_
  obtain ⟨rfl,bv7,hbv7,p7⟩:=h7
  have s15:=p7.join.od [0,1,2]
  have S15:=s15.pt [1]
  refine ⟨S15,?_⟩
  have A8:=s15.oc [0,1,2] 1
  refine .c 0 S15 (bO _ _ _ _ _ (aP s).2 _ _ _ _ _ _ _ _ _ A8 hbv7 (RB.tx hB)) rfl λ r8 _ h8=> ?_
  obtain ⟨rfl,bv8,hbv8,p8⟩:=h8
  have s16:=p8.join.od [0,1,2]
  have S16:=s16.pt [1]
  refine ⟨S16,?_⟩
  refine .e rfl (λ _ q=> .sub (b:=(1:Int)) rfl rfl (by unfold aY;omega)) S16 ?_
  have A9:=s16.oc [0,1,2] 1
  refine .c 0 S16 (bO _ _ _ _ _ (aS (aP s).2).2 _ _ _ _ _ _ _ _ _ A9 hbv8 (RB.nm (RB.tx hB))) rfl λ r9 _ h9=> ?_
  obtain ⟨rfl,bv9,hbv9,p9⟩:=h9
  have s17:=p9.join.od [0,1,2]
  have S17:=s17.pt [1]
  refine ⟨S17,?_⟩
  refine .e rfl (λ _ q=> .build wz rfl ⟨rfl,rfl,rfl,trivial⟩ rfl) S17<| .f rfl (.cz (vs:=[(.string (aP s).1),(.int .i64 ((aS (aS (aP s).2).2).1:Nat)),(.int .i64 (0:Nat)),(.int .i64 (((((aS (aP s).2).1:Nat):Int)-1)))]) yR s17 (i:=2) rfl rfl rfl rfl (λ v h=>by simp only [PR,PU,Q9] at h;rcases h with rfl|rfl|rfl|rfl;exact rfl;exact rfl;exact rfl;exact rfl) λ _ s18 _=> ?_)
  have s18d:=s18.sn
  have S18:=s18d.pt [1]
  refine ⟨S18,?_⟩
  refine .fin ?_
  exact ⟨bv9,b1,(wk rfl),s18d,hbv9⟩
 rintro L' w18 ⟨bq,b0,hw1,s19,hbq⟩
 refine .weaken _ hw1<| .seq<| .fk [1,2] [0] s19 rfl rfl 8 (pl [0,1,2,3,4,1005,6,7] (.bar 8 .fin)) mixed (by kernel_rfl) ?_
 have s20:=s19.drew
 have S19:=s20.pt [1,2]
 refine .ld 1 S19 1 rfl<| .z 3 S19 rfl ?_
 have A10:=s20.oc [0,1,2] 1
 refine .c 0 S19 (bO _ _ _ _ _ (aS (aS (aP s).2).2).2 _ _ _ _ _ _ _ _ _ A10 hbq (RB.nm (RB.nm (RB.tx hB)))) rfl λ r10 _ h10=> ?_
 obtain ⟨rfl,bv10,hbv10,p10⟩:=h10
 have s21:=p10.join.od [0,1,2]
 have S20:=s21.pt [1,2]
 refine ⟨S20,?_⟩
 refine .z 2 S20 rfl<| .bar rfl rfl rfl (OpE.aK cQ s21 (i:=2) rfl rfl rfl (rfl) rfl λ _ s22 _=> ?_)
 have s22d:=s22.sn
 have S21:=s22d.pt [1]
 refine ⟨S21,?_⟩
 refine .fin ?_
 have hshp1:=(s22d.ah (E:=bE) 1 rfl).iH (by decide)
 refine .fk [0,2] [1] s22d rfl rfl 12 (pl [0,1,2,3,4,5,6,1007,1008] (.loose 9 (.loose 10 (pl [11] (.bar 12 .fin))))) mixed (by kernel_rfl) ?_
 have s23:=s22d.drew
 have S22:=s23.pt [0,2]
 refine .ld 5 S22 0 rfl<| .e rfl (λ _ q=> .fH yR rfl q (i:=1) rfl rfl) S22<| .f rfl (.cn (bE) (⟨(aP s).1,(((aS (aS (aP s).2).2).1:Nat):Int),(((aS (aS (aP s).2).2).1+(aS (aS (aS (aP s).2).2).2).1:Nat):Int),(((aS (aP s).2).1:Nat):Int)-1⟩:Nd) iE (by decide) (by decide) s23 rfl λ v1 _ s24 _=> ?_)
 have s24d:=s24.mn
 have S23:=s24d.pt [0,2]
 refine ⟨S23,?_⟩
 refine .f rfl (.aw 1 iE s24d rfl rfl rfl underlying27 (s24d.ah 3 rfl) (by simp only [KM];omega) (by simp only [KM];omega) λ v2 _ s25 _=> ?_)
 have s25d:=(s25.sn).pt [0,1,2]
 have S24:=s25d.pt [0,2]
 refine ⟨S24,?_⟩
 refine .loose rfl rfl rfl (λ _ q=> .nilCheck rfl) S24<| .loose rfl rfl rfl (λ _ q=> .fieldAddr gQ rfl rfl) S24<| .z 1 S24 rfl<| .bar rfl rfl rfl (OpE.aK su s25d (i:=0) rfl rfl rfl ((s25d.ah 1 rfl).ab) rfl λ _ s26 _=> ?_)
 have s26d:=s26.sn
 have S25:=s26d.pt [2]
 refine ⟨S25,?_⟩
 refine .fin ?_
 show aL _ _ _ _ _ _
 refine cv rfl ?_
 have s27:=s26d.pt [0,1]
 exact ⟨rfl,_,_,hbv10,s27⟩
theorem Eb (w0 w:World) (cs:List Chunk) (g:Nat) (bv:Value) (s:RS) (x2 x3 x4 x5 x6 x9 x10 hv9 lv9:Value) (hd:List Int) (rl:List ByteArray) (hs:Sat w0 ([aq g 158 [bv,.bool (!s.1),x2,x3,x4,x5,x6,hv9,lv9,x9,x10],cL hv9 3 (Kw.encI .i64) (hd),cL lv9 9 ax (rl)]++cs) w) (hb:RdL w0 bv (aa .u8) s.2) (hB:RB s) (hl1:hd.length<=1073741824) (hl2:rl.length<=1073741824):
  CallsV prog 102 [(.pointer (some ⟨g,0,none⟩))] w λ r w'=>r= .tuple #[]/\∃ bv' hv' lv',RdL w0 bv' (aa .u8) (BA s).2.2/\Sat w0 ([aq g 158 [bv',.bool (!(BA s).2.1),x2,x3,x4,x5,x6,hv',lv',x9,x10],cL hv' 3 (Kw.encI .i64) (hd++[(BA s).1.1]),cL lv' 9 ax (rl++[(BA s).1.2])]++cs) w':=by
 refine ai func102 rfl rfl ?_
 refine .seq ?_
 have hn1:=ez s
 have hshp1:=(hs.ah (E:=Kw.encI .i64) 1 rfl).iH (by decide)
 refine .fk [0,2] [1] (hs.uI 0 rfl rfl rfl) rfl rfl 16 (pl [0,1,2,3,4,5,6,7,8,1009,10,1011,1012] (.loose 13 (.loose 14 (pl [15] (.bar 16 .fin))))) mixed (by kernel_rfl) ?_
 have s1:=hs.drew
 have S1:=(s1.uI 0 rfl rfl rfl).pt [0,2]
 refine .m rfl rfl S1<| .m rfl rfl S1<| .e rfl (λ _ q=> .nilCheck rfl) S1<| .e rfl (λ _ q=> .fieldAddr gQ rfl rfl) S1<| .e rfl (λ _ q=> .fieldAddr C4 rfl rfl) S1<| .e rfl (λ _ q=> .load oT rfl (q.HB (i:=0) (j:=5) rfl rfl)) S1<| .m rfl rfl S1<| .e rfl (λ _ q=> .nilCheck rfl) S1<| .e rfl (λ _ q=> .fieldAddr sA rfl rfl) S1 ?_
 have A1:=s1.oc [0,1,2] 1
 refine .f rfl (.call AN rfl ((bO _ _ _ _ _ s _ _ _ _ _ _ _ _ _ A1 hb hB).mono λ r1 _ h1=> ?_))
 obtain ⟨rfl,bv1,hbv1,p1⟩:=h1
 have s2:=p1.join.od [0,1,2]
 have S2:=(s2.uI 0 rfl rfl rfl).pt [0,2]
 refine ⟨S2,?_⟩
 refine .e rfl (λ _ q=> .sub (b:=(1:Int)) rfl rfl (by unfold aY;omega)) S2<| .f rfl (.bU (Kw.encI .i64) ((((aS s).1:Nat):Int)-1) aQ rfl s2 rfl λ v1 _ s3 _=> ?_)
 have s3d:=s3.mn
 have S3:=(s3d.uI 0 rfl rfl rfl).pt [0,2]
 refine ⟨S3,?_⟩
 refine .f rfl (.aw 1 aQ s3d rfl rfl rfl underlying22 (s3d.ah 3 rfl) (by simp only [KM];omega) (by simp only [KM];omega) λ v2 _ s4 _=> ?_)
 have s4d:=(s4.sn).pt [0,1,2]
 have S4:=(s4d.uI 0 rfl rfl rfl).pt [0,2]
 refine ⟨S4,?_⟩
 refine .loose rfl rfl rfl (λ _ q=> .nilCheck rfl) S4<| .loose rfl rfl rfl (λ _ q=> .fieldAddr gQ rfl rfl) S4<| .e rfl (λ _ q=> .fieldAddr C4 rfl rfl) S4<| .bar rfl rfl rfl (OpE.aK fR s4d (i:=0) rfl rfl rfl ((s4d.ah 1 rfl).ab) rfl λ _ s5 _=> ?_)
 have s5d:=s5.sn
 have S5:=(s5d.uI 0 rfl rfl rfl).pt [2]
 refine ⟨S5,?_⟩
 refine .fin ?_
 have hshp2:=(s5d.ah (E:=ax) 2 rfl).iH (by decide)
 refine .fk [0,1] [1] (s5d.uI 0 rfl rfl rfl) rfl rfl 15 (pl [0,1,2,3,4,5,6,7,8,1009,1010,1011] (.loose 12 (.loose 13 (pl [14] (.bar 15 .fin))))) mixed (by kernel_rfl) ?_
 have s6:=s5d.drew
 have S6:=(s6.uI 0 rfl rfl rfl).pt [0,1]
 refine .m rfl rfl S6<| .m rfl rfl S6<| .e rfl (λ _ q=> .nilCheck rfl) S6<| .e rfl (λ _ q=> .fieldAddr gQ rfl rfl) S6<| .e rfl (λ _ q=> .fieldAddr C5 rfl rfl) S6<| .e rfl (λ _ q=> .load fj rfl (q.HB (i:=0) (j:=6) rfl rfl)) S6<| .m rfl rfl S6<| .e rfl (λ _ q=> .nilCheck rfl) S6<| .e rfl (λ _ q=> .fieldAddr sA rfl rfl) S6 ?_
 have A2:=s6.oc [0,1,2] 1
 refine .f rfl (.call wF rfl ((cc _ _ _ _ _ (aS s).2 _ _ _ _ _ _ _ _ _ A2 hbv1 (RB.nm hB)).mono λ r2 _ h2=> ?_))
 obtain ⟨rfl,bv2,hbv2,p2⟩:=h2
 have s7:=p2.join.od [0,1,2]
 have S7:=(s7.uI 0 rfl rfl rfl).pt [0,1]
 refine ⟨S7,?_⟩
 refine .f rfl (.bU (ax) ((aP (aS s).2).1) bu rfl s7 rfl λ v3 _ s8 _=> ?_)
 have s8d:=s8.mn
 have S8:=(s8d.uI 0 rfl rfl rfl).pt [0,1]
 refine ⟨S8,?_⟩
 refine .f rfl (.aw 2 bu s8d rfl rfl rfl underlying28 (s8d.ah 3 rfl) (by simp only [KM];omega) (by simp only [KM];omega) λ v_4 _ s9 _=> ?_)
 have s9d:=(s9.sn).pt [0,1,2]
 have S9:=(s9d.uI 0 rfl rfl rfl).pt [0,1]
 refine ⟨S9,?_⟩
 refine .loose rfl rfl rfl (λ _ q=> .nilCheck rfl) S9<| .loose rfl rfl rfl (λ _ q=> .fieldAddr gQ rfl rfl) S9<| .e rfl (λ _ q=> .fieldAddr C5 rfl rfl) S9<| .bar rfl rfl rfl (OpE.aK lH s9d (i:=0) rfl rfl rfl ((s9d.ah 2 rfl).ab) rfl λ _ s10 _=> ?_)
 have s10d:=s10.sn
 have S10:=(s10d.uI 0 rfl rfl rfl).pt [1]
 refine ⟨S10,?_⟩
 refine .fin ?_
 show aL _ _ _ _ _ _
 refine cv rfl ?_
 have s11:=s10d.pt [0,1,2]
 exact ⟨rfl,_,_,_,hbv2,s11⟩
theorem zl (w0 w:World) (cs:List Chunk) (g:Nat) (bv:Value) (s:RS) (x2 x3 x5 x6 x7 x8 x9 tv:Value) (at_:Nat) (F:List Nat) (hs:Sat w0 ([aq g 158 [bv,.bool (!s.1),x2,x3,tv,x5,x6,x7,x8,x9,.int .i64 ((at_:Nat):Int)],cL tv 71 aG (([]:List Iv)),jH F (λ w1=>∀ t∈([]:List Iv),RdL w1 t.sv.val aU t.ps)]++cs) w) (hb:RdL w0 bv (aa .u8) s.2) (hB:RB s) (ha:at_=0):
  CallsV prog 97 [(.pointer (some ⟨g,0,none⟩)),(.func (.func 99) #[(.pointer (some ⟨g,0,none⟩))] #[])] w λ r w'=>r= .tuple #[]/\∃ bv' tv' tx' F',RdL w0 bv' (aa .u8) (dJ s at_).2.1.2/\tx'.map Iv.v=(dJ s at_).1/\Sat w0 ([aq g 158 [bv',.bool (!(dJ s at_).2.1.1),x2,x3,tv',x5,x6,x7,x8,x9,.int .i64 (((dJ s at_).2.2:Nat):Int)],cL tv' 71 aG (tx'),jH F' (λ w1=>∀ t∈tx',RdL w1 t.sv.val aU t.ps)]++cs) w':=by
 refine ai func97 rfl rfl ?_
 refine .h<| .z 1 rfl ?_
 have A1:=hs.oc [0,1,2] 1
 refine .c 0 (bO _ _ _ _ _ s _ _ _ _ _ _ _ _ _ A1 hb hB) rfl λ r1 _ h1=> ?_
 obtain ⟨rfl,bv_1,hbv1,p1⟩:=h1
 have s_1:=p1.join.od [0,1,2]
 refine .Z rfl<| .block ?_
 have hle:=ez s
 refine .lq [0,1] rfl (α:=Nat×RS×Nat×Value×Value×List Iv×List Nat) (λ (m,s1,a1,bv1,tv1,gS,F1)=>[(4,(.int .i64 m))]) (λ (m,s1,a1,bv1,tv1,gS,F1) w'=>Sat w0 ([aq g 158 [bv1,(.bool (!s1.1)),x2,x3,tv1,x5,x6,x7,x8,x9,(.int .i64 a1)],cL tv1 71 (aG) (gS),jH F1 (λ w1=>∀ t∈gS,RdL w1 t.sv.val aU t.ps)]++cs) w'/\(RB s1)/\(RdL w0 bv1 (aa .u8) s1.2)/\(gS.map Iv.v++(iN wQ Ak m (s1,a1)).1=(dJ s at_).1)/\((iN wQ Ak m (s1,a1)).2=(dJ s at_).2)/\(gS.length+m<=1073741824)/\(a1+m*1073741824<=1152921504606846976)) (λ (m,s1,a1,bv1,tv1,gS,F1)=>m) ((aS s).1,(aS s).2,at_,bv_1,tv,[],F) ⟨s_1,hB.nm,hbv1,rfl,rfl,by simpa using hle,by omega⟩ ?_
 rintro ⟨m,s1,a1,bv1,tv1,gS,F1⟩ w2 ⟨s2,hB1,hb1,he1,he2,hlm,ham⟩
 refine .seq<| .seq<| .bN 15 ((0<m)/\((!(!s1.1))=true)) ?_ ?_
 ·refine .z 3 rfl<| .B 9 rfl (λ g1=> ?_) λ g1=> ?_
  ·refine .ld 3 s2 0 rfl<| .a 0 rfl (.cO rfl)<| .M rfl (by simp [g1])
  refine .M rfl (by simp [g1])
 refine .ae rfl (λ c1=> ?_) λ c1=> ?_
 ·refine .skip<| .seq<| .block ?_
  have ho:s1.1=true:=by simpa using c1.2
  rw [nr (ok:=wQ) (show wQ (s1,a1)=true from ho) (by omega)] at he1 he2
  have hda:(Ak (s1,a1)).2.2<=a1+1073741824:=Nat.add_le_add_left (ez _) _
  refine .region<| .z 1 rfl ?_
  have A2:=s2.oc [0,1,2] 3
  refine .f rfl (.uH Ob rfl rfl ((I1 _ _ _ _ _ s1 _ _ _ _ _ _ _ _ a1 gS _ A2 hb1 hB1 (by omega) (by omega)).mono λ r2 _ h2=> ?_))
  obtain ⟨rfl,bv2,tv_1,xi1,F_1,hbv2,hxi1,p2⟩:=h2
  have s3:=p2.join.od [0,1,2]
  refine .nil<| .U rfl ?_
  exact aT ((m-1),(Ak (s1,a1)).2.1,(Ak (s1,a1)).2.2,bv2,tv_1,gS++[xi1],F_1) ⟨s3,hB1.dc a1,hbv2,by rw [<-he1,Ql,Th,hxi1];simp,he2,by simp only [sp,KM];omega,by omega⟩
 refine .ao ?_
 show aL _ _ _ _ _ _
 refine cv rfl ?_
 rw [nt (ok:=wQ) (s:=(s1,a1)) (λ q=>c1 ⟨q.1,by simpa using (show s1.1=true from q.2)⟩)] at he1 he2
 rw [QO] at he1
 rw [<-he2]
 exact ⟨rfl,_,_,_,_,hb1,he1,s2⟩
theorem zm (w0 w:World) (cs:List Chunk) (g:Nat) (bv:Value) (s:RS) (x2 x3 x4 x6 x7 x8 x9 tv:Value) (at_:Nat) (F:List Nat) (hs:Sat w0 ([aq g 158 [bv,.bool (!s.1),x2,x3,x4,tv,x6,x7,x8,x9,.int .i64 ((at_:Nat):Int)],cL tv 75 aG (([]:List Iv)),jH F (λ w1=>∀ t∈([]:List Iv),RdL w1 t.sv.val aU t.ps)]++cs) w) (hb:RdL w0 bv (aa .u8) s.2) (hB:RB s) (ha:at_=0):
  CallsV prog 97 [(.pointer (some ⟨g,0,none⟩)),(.func (.func 100) #[(.pointer (some ⟨g,0,none⟩))] #[])] w λ r w'=>r= .tuple #[]/\∃ bv' tv' tx' F',RdL w0 bv' (aa .u8) (ec s at_).2.1.2/\tx'.map Iv.v=(ec s at_).1/\Sat w0 ([aq g 158 [bv',.bool (!(ec s at_).2.1.1),x2,x3,x4,tv',x6,x7,x8,x9,.int .i64 (((ec s at_).2.2:Nat):Int)],cL tv' 75 aG (tx'),jH F' (λ w1=>∀ t∈tx',RdL w1 t.sv.val aU t.ps)]++cs) w':=by
 refine ai func97 rfl rfl ?_
 refine .h<| .z 1 rfl ?_
 have A1:=hs.oc [0,1,2] 1
 refine .c 0 (bO _ _ _ _ _ s _ _ _ _ _ _ _ _ _ A1 hb hB) rfl λ r1 _ h1=> ?_
 obtain ⟨rfl,bv_1,hbv1,p1⟩:=h1
 have s_1:=p1.join.od [0,1,2]
 refine .Z rfl<| .block ?_
 have hle:=ez s
 refine .lq [0,1] rfl (α:=Nat×RS×Nat×Value×Value×List Iv×List Nat) (λ (m,s1,a1,bv1,tv1,gS,F1)=>[(4,(.int .i64 m))]) (λ (m,s1,a1,bv1,tv1,gS,F1) w'=>Sat w0 ([aq g 158 [bv1,(.bool (!s1.1)),x2,x3,x4,tv1,x6,x7,x8,x9,(.int .i64 a1)],cL tv1 75 (aG) (gS),jH F1 (λ w1=>∀ t∈gS,RdL w1 t.sv.val aU t.ps)]++cs) w'/\(RB s1)/\(RdL w0 bv1 (aa .u8) s1.2)/\(gS.map Iv.v++(iN wQ y4 m (s1,a1)).1=(ec s at_).1)/\((iN wQ y4 m (s1,a1)).2=(ec s at_).2)/\(gS.length+m<=1073741824)/\(a1+m*1073741824<=1152921504606846976)) (λ (m,s1,a1,bv1,tv1,gS,F1)=>m) ((aS s).1,(aS s).2,at_,bv_1,tv,[],F) ⟨s_1,hB.nm,hbv1,rfl,rfl,by simpa using hle,by omega⟩ ?_
 rintro ⟨m,s1,a1,bv1,tv1,gS,F1⟩ w2 ⟨s2,hB1,hb1,he1,he2,hlm,ham⟩
 refine .seq<| .seq<| .bN 15 ((0<m)/\((!(!s1.1))=true)) ?_ ?_
 ·refine .z 3 rfl<| .B 9 rfl (λ g1=> ?_) λ g1=> ?_
  ·refine .ld 3 s2 0 rfl<| .a 0 rfl (.cO rfl)<| .M rfl (by simp [g1])
  refine .M rfl (by simp [g1])
 refine .ae rfl (λ c1=> ?_) λ c1=> ?_
 ·refine .skip<| .seq<| .block ?_
  have ho:s1.1=true:=by simpa using c1.2
  rw [nr (ok:=wQ) (show wQ (s1,a1)=true from ho) (by omega)] at he1 he2
  have hda:(y4 (s1,a1)).2.2<=a1+1073741824:=Nat.add_le_add_left (ez _) _
  refine .region<| .z 1 rfl ?_
  have A2:=s2.oc [0,1,2] 3
  refine .f rfl (.uH Mr rfl rfl ((I2 _ _ _ _ _ s1 _ _ _ _ _ _ _ _ a1 gS _ A2 hb1 hB1 (by omega) (by omega)).mono λ r2 _ h2=> ?_))
  obtain ⟨rfl,bv2,tv_1,xi1,F_1,hbv2,hxi1,p2⟩:=h2
  have s3:=p2.join.od [0,1,2]
  refine .nil<| .U rfl ?_
  exact aT ((m-1),(y4 (s1,a1)).2.1,(y4 (s1,a1)).2.2,bv2,tv_1,gS++[xi1],F_1) ⟨s3,hB1.rg a1,hbv2,by rw [<-he1,Ql,Th,hxi1];simp,he2,by simp only [sp,KM];omega,by omega⟩
 refine .ao ?_
 show aL _ _ _ _ _ _
 refine cv rfl ?_
 rw [nt (ok:=wQ) (s:=(s1,a1)) (λ q=>c1 ⟨q.1,by simpa using (show s1.1=true from q.2)⟩)] at he1 he2
 rw [QO] at he1
 rw [<-he2]
 exact ⟨rfl,_,_,_,_,hb1,he1,s2⟩
theorem zn (w0 w:World) (cs:List Chunk) (g:Nat) (bv:Value) (s:RS) (x2 x3 x4 x5 x7 x8 x9 x10 nv:Value) (hs:Sat w0 ([aq g 158 [bv,.bool (!s.1),x2,x3,x4,x5,nv,x7,x8,x9,x10],cL nv 84 bE ([])]++cs) w) (hb:RdL w0 bv (aa .u8) s.2) (hB:RB s):
  CallsV prog 97 [(.pointer (some ⟨g,0,none⟩)),(.func (.func 101) #[(.pointer (some ⟨g,0,none⟩))] #[])] w λ r w'=>r= .tuple #[]/\∃ bv' nv',RdL w0 bv' (aa .u8) (eI s).2.2/\Sat w0 ([aq g 158 [bv',.bool (!(eI s).2.1),x2,x3,x4,x5,nv',x7,x8,x9,x10],cL nv' 84 bE ((eI s).1)]++cs) w':=by
 refine ai func97 rfl rfl ?_
 refine .h<| .z 1 rfl ?_
 have A1:=hs.oc [0,1] 1
 refine .c 0 (bO _ _ _ _ _ s _ _ _ _ _ _ _ _ _ A1 hb hB) rfl λ r1 _ h1=> ?_
 obtain ⟨rfl,bv_1,hbv1,p1⟩:=h1
 have s_1:=p1.join.od [0,1]
 refine .Z rfl<| .block ?_
 have hle:=ez s
 refine .lq [0,1] rfl (α:=Nat×RS×Value×Value×List Nd) (λ (m,s1,bv1,nv1,rH)=>[(4,(.int .i64 m))]) (λ (m,s1,bv1,nv1,rH) w'=>Sat w0 ([aq g 158 [bv1,(.bool (!s1.1)),x2,x3,x4,x5,nv1,x7,x8,x9,x10],cL nv1 84 (bE) (rH)]++cs) w'/\(RB s1)/\(RdL w0 bv1 (aa .u8) s1.2)/\(rH++(iN Prod.fst FJ m s1).1=(eI s).1)/\((iN Prod.fst FJ m s1).2=(eI s).2)/\(rH.length+m<=1073741824)) (λ (m,s1,bv1,nv1,rH)=>m) ((aS s).1,(aS s).2,bv_1,nv,[]) ⟨s_1,hB.nm,hbv1,rfl,rfl,by simpa using hle⟩ ?_
 rintro ⟨m,s1,bv1,nv1,rH⟩ w2 ⟨s2,hB1,hb1,he1,he2,hlm⟩
 refine .seq<| .seq<| .bN 15 ((0<m)/\((!(!s1.1))=true)) ?_ ?_
 ·refine .z 3 rfl<| .B 9 rfl (λ g1=> ?_) λ g1=> ?_
  ·refine .ld 3 s2 0 rfl<| .a 0 rfl (.cO rfl)<| .M rfl (by simp [g1])
  refine .M rfl (by simp [g1])
 refine .ae rfl (λ c1=> ?_) λ c1=> ?_
 ·refine .skip<| .seq<| .block ?_
  have ho:s1.1=true:=by simpa using c1.2
  rw [nr (ok:=Prod.fst) ho (by omega)] at he1 he2
  refine .region<| .z 1 rfl ?_
  have A2:=s2.oc [0,1] 2
  refine .f rfl (.uH Ms rfl rfl ((Ea _ _ _ _ _ s1 _ _ _ _ _ _ _ _ _ rH A2 hb1 hB1 (by omega)).mono λ r2 _ h2=> ?_))
  obtain ⟨rfl,bv2,nv_1,hbv2,p2⟩:=h2
  have s3:=p2.join.od [0,1]
  refine .nil<| .U rfl ?_
  exact aT ((m-1),(FJ s1).2,bv2,nv_1,rH++[(FJ s1).1]) ⟨s3,hB1.nd,hbv2,by rw [<-he1];simp,he2,by simp only [sp,KM];omega⟩
 refine .ao ?_
 show aL _ _ _ _ _ _
 refine cv rfl ?_
 rw [nt (ok:=Prod.fst) (s:=s1) (λ q=>c1 ⟨q.1,by simpa using (show s1.1=true from q.2)⟩)] at he1 he2
 rw [QO] at he1
 rw [<-he2,<-he1]
 exact ⟨rfl,_,_,hb1,s2⟩
theorem zo (w0 w:World) (cs:List Chunk) (g:Nat) (bv:Value) (s:RS) (x2 x3 x4 x5 x6 x9 x10 hv9 lv9:Value) (hs:Sat w0 ([aq g 158 [bv,.bool (!s.1),x2,x3,x4,x5,x6,hv9,lv9,x9,x10],cL hv9 3 (Kw.encI .i64) ([]),cL lv9 9 ax ([])]++cs) w) (hb:RdL w0 bv (aa .u8) s.2) (hB:RB s):
  CallsV prog 97 [(.pointer (some ⟨g,0,none⟩)),(.func (.func 102) #[(.pointer (some ⟨g,0,none⟩))] #[])] w λ r w'=>r= .tuple #[]/\∃ bv' hv' lv',RdL w0 bv' (aa .u8) (fK s).2.2/\Sat w0 ([aq g 158 [bv',.bool (!(fK s).2.1),x2,x3,x4,x5,x6,hv',lv',x9,x10],cL hv' 3 (Kw.encI .i64) ((fK s).1.map Prod.fst),cL lv' 9 ax ((fK s).1.map Prod.snd)]++cs) w':=by
 refine ai func97 rfl rfl ?_
 refine .h<| .z 1 rfl ?_
 have A1:=hs.oc [0,1,2] 1
 refine .c 0 (bO _ _ _ _ _ s _ _ _ _ _ _ _ _ _ A1 hb hB) rfl λ r1 _ h1=> ?_
 obtain ⟨rfl,bv_1,hbv1,p1⟩:=h1
 have s_1:=p1.join.od [0,1,2]
 refine .Z rfl<| .block ?_
 have hle:=ez s
 refine .lq [0,1] rfl (α:=Nat×RS×Value×Value×Value×List Int×List ByteArray) (λ (m,s1,bv1,hv1,lv1,sM,rl1)=>[(4,(.int .i64 m))]) (λ (m,s1,bv1,hv1,lv1,sM,rl1) w'=>Sat w0 ([aq g 158 [bv1,(.bool (!s1.1)),x2,x3,x4,x5,x6,hv1,lv1,x9,x10],cL hv1 3 (Kw.encI .i64) (sM),cL lv1 9 (ax) (rl1)]++cs) w'/\(RB s1)/\(RdL w0 bv1 (aa .u8) s1.2)/\(sM++(iN Prod.fst BA m s1).1.map Prod.fst=(fK s).1.map Prod.fst)/\(rl1++(iN Prod.fst BA m s1).1.map Prod.snd=(fK s).1.map Prod.snd)/\((iN Prod.fst BA m s1).2=(fK s).2)/\(sM.length+m<=1073741824)/\(rl1.length+m<=1073741824)) (λ (m,s1,bv1,hv1,lv1,sM,rl1)=>m) ((aS s).1,(aS s).2,bv_1,hv9,lv9,[],[]) ⟨s_1,hB.nm,hbv1,rfl,rfl,rfl,by simpa using hle,by simpa using hle⟩ ?_
 rintro ⟨m,s1,bv1,hv1,lv1,sM,rl1⟩ w2 ⟨s2,hB1,hb1,he1,he3,he2,hlm,hlm2⟩
 refine .seq<| .seq<| .bN 15 ((0<m)/\((!(!s1.1))=true)) ?_ ?_
 ·refine .z 3 rfl<| .B 9 rfl (λ g1=> ?_) λ g1=> ?_
  ·refine .ld 3 s2 0 rfl<| .a 0 rfl (.cO rfl)<| .M rfl (by simp [g1])
  refine .M rfl (by simp [g1])
 refine .ae rfl (λ c1=> ?_) λ c1=> ?_
 ·refine .skip<| .seq<| .block ?_
  have ho:s1.1=true:=by simpa using c1.2
  rw [nr (ok:=Prod.fst) ho (by omega)] at he1 he3 he2
  refine .region<| .z 1 rfl ?_
  have A2:=s2.oc [0,1,2] 3
  refine .f rfl (.uH Mt rfl rfl ((Eb _ _ _ _ _ s1 _ _ _ _ _ _ _ _ _ sM rl1 A2 hb1 hB1 (by omega) (by omega)).mono λ r2 _ h2=> ?_))
  obtain ⟨rfl,bv2,hv_1,lv_1,hbv2,p2⟩:=h2
  have s3:=p2.join.od [0,1,2]
  refine .nil<| .U rfl ?_
  exact aT ((m-1),(BA s1).2,bv2,hv_1,lv_1,sM++[(BA s1).1.1],rl1++[(BA s1).1.2]) ⟨s3,hB1.he,hbv2,by rw [<-he1];simp,by rw [<-he3];simp,he2,by simp only [sp,KM];omega,by simp only [sp,KM];omega⟩
 refine .ao ?_
 show aL _ _ _ _ _ _
 refine cv rfl ?_
 rw [nt (ok:=Prod.fst) (s:=s1) (λ q=>c1 ⟨q.1,by simpa using (show s1.1=true from q.2)⟩)] at he1 he3 he2
 rw [Sl,QO] at he1 he3
 rw [<-he2,<-he1,<-he3]
 exact ⟨rfl,_,_,_,hb1,s2⟩
end Go.Proofs.YthffkcnbdehceaaGreat
