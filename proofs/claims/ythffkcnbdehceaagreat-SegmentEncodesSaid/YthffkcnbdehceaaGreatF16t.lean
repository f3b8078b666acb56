/-The walks of the functions of F16t,printed by our own program (kwgen.py) out of our descriptions (base.py). -/
import Derived.Test.YthffkcnbdehceaaGreatF16p
import Derived.Test.YthffkcnbdehceaaGreatF15u
import Derived.Test.YthffkcnbdehceaaGreatKv
import Derived.Test.YthffkcnbdehceaaGreatF13
open List
open Go.Proofs.Tryz
set_option linter.unusedVariables false
set_option linter.unusedSimpArgs false
set_option linter.unusedSectionVars false
namespace Go.Proofs.YthffkcnbdehceaaGreat
open Go.RowKit Go.Kw
set_option maxRecDepth 100000
theorem qD:Fu prog 142=true:=by kernel_rfl
theorem tD (v:Value) (b:List Nat) (w:World) (hv:RdL w v (aa .u8) b) (hb:∀ x∈b,x<256) (hn:b.length<=1000000000) (h4:4<=b.length) (hsum:nz (iz (b.take (b.length-4)))=b.drop (b.length-4)):
  CallsV prog 96 [v] w λ r w'=>∃ v',r= .tuple #[v',.int .i64 ((0:Nat):Int)]/\Sat w [cL v' 5 (aa .u8) (b.take (b.length-4))] w':=by
 refine cg func96 rfl λ hs0=> .Z rfl<| .seq<| .h<| .ln 1 (hv.ext hs0.ext) rfl<| .Z rfl<| .aj rfl (IN (by omega))<| .skip<| .h<| .ln 1 (hv.ext hs0.ext) rfl<| .Z rfl<| .seq<| .seq<| .dk [] hs0 rfl (pl [0,1,2,5,6,7] (.two 3 8 (.two 4 8 (pl [1008,9,10] .fin) (pl [9,1004,10] .fin)) (pl [9,1003,1004,10] .fin))) λ s1 S1=> .z 2 S1 rfl<| .e rfl (λ _ s=> .aV (E:=aa .u8) (a:=0) (c:=(b.length-4)) ch rfl (hv.ext s.ext) rfl ⟨_,rfl⟩ (KD _) (by omega)) S1<| .z 2 S1 rfl<| .e rfl (λ _ s=> .aV (E:=aa .u8) (a:=(b.length-4)) (c:=(b).length) ch rfl (hv.ext s.ext) ⟨_,rfl⟩ rfl (by omega) (KB _)) S1<| .two rfl rfl rfl rfl rfl rfl (OpE.call O9 rfl ((zH _ (((b).take (b.length-4)).drop 0) _ (((hv.ext s1.ext)).sub (a:=0) (b:=(b.length-4)) (KD _) (by omega)) (λ x hx=>hb x (Q8 (Qi hx))) (by simp;omega)).mono λ r1 _ h1=> ?_)) (OpE.ev (Ev.HL (E:=aa .u8) underlying142 rfl (((hv.ext s1.ext)).sub (a:=(b.length-4)) (b:=(b).length) (by omega) (KB _)) (by simp;omega)) ⟨S1,?_⟩)
 ·obtain ⟨rfl,p1⟩:=h1
  have s2:=s1.az p1
  have S2:=s2.pk []
  refine ⟨S2,?_⟩
  refine .two rfl rfl rfl rfl rfl rfl (OpE.call O8 rfl ((j7 ((iz (((b).take (b.length-4)).drop 0))) _ (nB (λ x hx=>hb x (Q8 (Qi hx))))).mono λ r2 _ h2=> ?_)) (OpE.ev (Ev.HL (E:=aa .u8) underlying142 rfl (((hv.ext s2.ext)).sub (a:=(b.length-4)) (b:=(b).length) (by omega) (KB _)) (by simp;omega)) ⟨S2,?_⟩)
  ·obtain ⟨rfl,p2⟩:=h2
   have s3:=s2.az p2
   have S3:=s3.pk []
   refine ⟨S3,?_⟩
   refine .f rfl (.ev (Ev.HL (E:=aa .u8) underlying142 rfl (((hv.ext s3.ext)).sub (a:=(b.length-4)) (b:=(b).length) (by omega) (KB _)) (by simp;omega)) ⟨S3,?_⟩)
   refine .e rfl (λ _ s=> .Hu (E:=aa .u8) wB rfl (((hv.ext s.ext)).sub (a:=(b.length-4)) (b:=(b).length) (by omega) (KB _)) (by show _*1=_;simp;omega) (by decide)) S3<| .e rfl (λ _ s=> .wP qD (rfl) (by simp;omega) rfl rfl) S3<| .fin<| .aj rfl (IN (λ h=>h (by rw [Ra,PW];exact hsum)))<| .skip<| .h<| .f rfl (.tg (aa .u8) ch s3 λ v1 _ s4 _=> ?_)
   have s4:=s4.nn
   refine .a 2 rfl (.aV (E:=aa .u8) (a:=0) (c:=(b.length-4)) ch rfl (hv.ext s4.ext) rfl ⟨_,rfl⟩ (KD _) (by omega))<| .ap 0 s4 0 (((hv.ext s4.ext)).sub (a:=0) (b:=(b.length-4)) (KD _) (by omega)) rfl λ v2 _ s5 _=> .Z rfl<| .cj rfl rfl rfl ?_
   have s7:=(s5.pk [0]).aZ 0 rfl (show ((b).take (b.length-4)).drop 0=b.take (b.length-4) from by simp)
   exact ⟨_,rfl,s7⟩
  refine .e rfl (λ _ s=> .Hu (E:=aa .u8) wB rfl (((hv.ext s.ext)).sub (a:=(b.length-4)) (b:=(b).length) (by omega) (KB _)) (by show _*1=_;simp;omega) (by decide)) S2<| .c 0 S2 (j7 ((iz (((b).take (b.length-4)).drop 0))) _ (nB (λ x hx=>hb x (Q8 (Qi hx))))) rfl λ r3 _ h3=> ?_
  obtain ⟨rfl,p3⟩:=h3
  have s8:=s2.az p3
  have S4:=s8.pk []
  refine ⟨S4,?_⟩
  refine .e rfl (λ _ s=> .wP qD (rfl) (by simp;omega) rfl rfl) S4<| .fin<| .aj rfl (IN (λ h=>h (by rw [Ra,PW];exact hsum)))<| .skip<| .h<| .f rfl (.tg (aa .u8) ch s8 λ v3 _ s9 _=> ?_)
  have s9:=s9.nn
  refine .a 2 rfl (.aV (E:=aa .u8) (a:=0) (c:=(b.length-4)) ch rfl (hv.ext s9.ext) rfl ⟨_,rfl⟩ (KD _) (by omega))<| .ap 0 s9 0 (((hv.ext s9.ext)).sub (a:=0) (b:=(b.length-4)) (KD _) (by omega)) rfl λ v_4 _ s10 _=> .Z rfl<| .cj rfl rfl rfl ?_
  have s12:=(s10.pk [0]).aZ 0 rfl (show ((b).take (b.length-4)).drop 0=b.take (b.length-4) from by simp)
  exact ⟨_,rfl,s12⟩
 refine .e rfl (λ _ s=> .Hu (E:=aa .u8) wB rfl (((hv.ext s.ext)).sub (a:=(b.length-4)) (b:=(b).length) (by omega) (KB _)) (by show _*1=_;simp;omega) (by decide)) S1<| .c 0 S1 (zH _ (((b).take (b.length-4)).drop 0) _ (((hv.ext s1.ext)).sub (a:=0) (b:=(b.length-4)) (KD _) (by omega)) (λ x hx=>hb x (Q8 (Qi hx))) (by simp;omega)) rfl λ r4 _ h_4=> ?_
 obtain ⟨rfl,p4⟩:=h_4
 have s13:=s1.az p4
 have S5:=s13.pk []
 refine ⟨S5,?_⟩
 refine .c 0 S5 (j7 ((iz (((b).take (b.length-4)).drop 0))) _ (nB (λ x hx=>hb x (Q8 (Qi hx))))) rfl λ r5 _ h5=> ?_
 obtain ⟨rfl,p5⟩:=h5
 have s14:=s13.az p5
 have S6:=s14.pk []
 refine ⟨S6,?_⟩
 refine .e rfl (λ _ s=> .wP qD (rfl) (by simp;omega) rfl rfl) S6<| .fin<| .aj rfl (IN (λ h=>h (by rw [Ra,PW];exact hsum)))<| .skip<| .h<| .f rfl (.tg (aa .u8) ch s14 λ v5 _ s15 _=> ?_)
 have s15:=s15.nn
 refine .a 2 rfl (.aV (E:=aa .u8) (a:=0) (c:=(b.length-4)) ch rfl (hv.ext s15.ext) rfl ⟨_,rfl⟩ (KD _) (by omega))<| .ap 0 s15 0 (((hv.ext s15.ext)).sub (a:=0) (b:=(b.length-4)) (KD _) (by omega)) rfl λ v6 _ s16 _=> ?_
 have s16d:Sat w [cL v6 5 (aa .u8) (((b).take (b.length-4)).drop 0)] _:=s16
 refine .Z rfl<| .cj rfl rfl rfl ?_
 have s18:=(s16d.pk [0]).aZ 0 rfl (show ((b).take (b.length-4)).drop 0=b.take (b.length-4) from by simp)
 exact ⟨_,rfl,s18⟩
theorem qE (v:Value) (b p:List Nat) (w:World) (hv:RdL w v (aa .u8) b) (he:b=aM p) (hb:∀ x∈p,x<256) (hn:p.length<=10000000):
  CallsV prog 96 [v] w λ r w'=>∃ v',r= .tuple #[v',.int .i64 ((0:Nat):Int)]/\Sat w [cL v' 5 (aa .u8) p] w':=by
 subst he
 have hl:=bL p
 have ht:(aM p).take ((aM p).length-4)=p:=by rw [hl,Qy,aM,take_left']<;>rfl
 have hd:(aM p).drop ((aM p).length-4)=nz (iz p):=by rw [hl,Qy,aM,drop_left']<;>rfl
 have h:=tD v (aM p) w hv (λ x hx=>by
  rcases PT.1 hx with hx|hx
  ·exact hb x hx
  ·exact nA _ x hx) (by omega) (by omega) (by rw [ht,hd])
 rw [ht] at h;exact h
theorem CN (w0 w:World) (cs:List Chunk) (g:Nat) (bv:Value) (bl:List Nat) (m:Nat) (hs:Sat w0 ([aq g 264 [bv,.bool true]]++cs) w) (hb:RdL w0 bv (aa .u8) bl) (hm:m<=bl.length) (hn:bl.length<=1000000000):
  CallsV prog 243 [(.pointer (some ⟨g,0,none⟩)),(.int .i64 m)] w λ r w'=>RdL w0 r (aa .u8) ((bl.take m).drop 0)/\∃ bv',RdL w0 bv' (aa .u8) (bl.drop m)/\Sat w0 ([aq g 264 [bv',.bool true]]++cs) w':=by
 refine ai func243 rfl rfl ?_
 refine .Z rfl<| .seq<| .h<| .ld 3 hs 0 rfl<| .ld 6 hs 0 rfl<| .ln 0 (hb.ext hs.ext) rfl<| .Z rfl<| .aj rfl (IN (by omega))<| .skip<| .h<| .ld 3 hs 0 rfl<| .a 1 rfl (.aV (E:=aa .u8) (a:=0) (c:=m) ch rfl (hb.ext hs.ext) rfl ⟨_,rfl⟩ (KD _) (hm))<| .Z rfl<| .h<| .ld 4 hs 0 rfl<| .a 1 rfl (.aV (E:=aa .u8) (a:=m) (c:=(bl).length) ch rfl (hb.ext hs.ext) ⟨_,rfl⟩ rfl (hm) (KB _))<| .st 2 hs 0 rfl (h1:=(((hb.ext hs.ext)).sub (a:=m) (b:=(bl).length) (hm) (KB _)).ab) λ _ s1 _=> ?_
 have s1d:=s1.sn
 refine .nil<| .Z rfl<| .aC rfl rfl ?_
 have hr1:=hb.sub (a:=0) (b:=m) (KD _) hm
 have hr2:=hb.sub (a:=m) (b:=bl.length) hm (KB _)
 rw [PW] at hr2
 exact ⟨hr1,_,hr2,s1d⟩
theorem uV (w0 w:World) (cs:List Chunk) (g:Nat) (bv:Value) (bl rest:List Nat) (x lim:Nat) (hs:Sat w0 ([aq g 264 [bv,.bool true]]++cs) w) (hb:RdL w0 bv (aa .u8) bl) (he:bl=uv x++rest) (hbb:∀ y∈bl,y<256) (hn:bl.length<=1000000000) (hl:x<=lim) (hlim:lim<=1000000000000):
  CallsV prog 242 [.pointer (some ⟨g,0,none⟩),.int .i64 (lim:Int)] w λ r w'=>r= .int .i64 (x:Int)/\∃ bv',RdL w0 bv' (aa .u8) rest/\Sat w0 ([aq g 264 [bv',.bool true]]++cs) w':=by
 subst he
 have h:=Io w0 w cs g bv true (uv x++rest) lim hs hb hbb hn hlim
 rw [fZ (by omega) hl] at h
 exact h
theorem CO (w0 w:World) (cs:List Chunk) (g:Nat) (bv:Value) (bl a rest:List Nat) (m:Nat) (hs:Sat w0 ([aq g 264 [bv,.bool true]]++cs) w) (hb:RdL w0 bv (aa .u8) bl) (he:bl=a++rest) (hm:a.length=m) (hn:bl.length<=1000000000):
  CallsV prog 243 [.pointer (some ⟨g,0,none⟩),.int .i64 (m:Int)] w λ r w'=>RdL w0 r (aa .u8) a/\∃ bv',RdL w0 bv' (aa .u8) rest/\Sat w0 ([aq g 264 [bv',.bool true]]++cs) w':=by
 subst he
 have h:=CN w0 w cs g bv (a++rest) m hs hb (by simp;omega) hn
 rw [Ra,take_left' hm,drop_left' hm] at h
 exact h
theorem uW {kind k:Nat} {ps:List (List Nat×Nat)} {y:Nat} (h:y∈ee kind (ps.drop k)):y∈ee kind ps:=by
 obtain ⟨p,hp,hy⟩:=Re.1 h
 exact Re.2 ⟨p,Qi hp,hy⟩
theorem vd (kind k:Nat) (ps:List (List Nat×Nat)):(ee kind (ps.drop k)).length<=(ee kind ps).length:=by
 have e:ee kind ps=ee kind (ps.take k)++ee kind (ps.drop k):=by
  unfold ee;rw [<-T3,Qc]
 rw [e,sp];omega
theorem Et {kind k:Nat} {ps:List (List Nat×Nat)} {p:List Nat×Nat} (h:ps[k]? =some p):ee kind (ps.drop k)=uv (if kind=0 then p.1.length else p.2)++(p.1++ee kind (ps.drop (k+1))):=by
 rw [kb h];simp [ee,mC]
theorem Eu (l:List Nat) (k:Nat):l.take (64*k)++fP l k=l.take (64*(k+1)):=by
 rw [show 64*(k+1)=64*k+64 by omega,take_add]<;>rfl
set_option maxHeartbeats 1000000 in
theorem Ew (w0 w:World) (cs:List Chunk) (g:Nat) (bv:Value) (l:List Nat) (hs:Sat w0 ([aq g 264 [bv,.bool true]]++cs) w) (hl:OkN l) (hb:RdL w0 bv (aa .u8) (jM l 0)):
  CallsV prog 210 [(.pointer (some ⟨g,0,none⟩))] w λ r w'=>∃ v',r= .tuple #[v',.bool true]/\∃ bv',Sat w0 ([aq g 264 [bv',.bool true],cL v' 3 (aa .i64) l]++cs) w':=by
 have hnl:=hl.len
 have hP:jM l 0=uv l.length++(uv 0++ee 0 (jK l (dq l.length))):=by rw [xZ,jt];simp
 have hlt:∀ y∈jM l 0,y<256:=jO (by decide)
 have hPl:=np hl (k:=0) (by decide)
 have hPl2:=If List.length hP
 simp only [sp] at hPl2
 have hnb:dq l.length<=64:=by unfold dq;omega
 refine ai func210 rfl rfl ?_
 refine .Z rfl<| .h<| .z 1 rfl ?_
 have A1:=hs.oc [0] 1
 refine .c 0 (uV _ _ _ _ _ (jM l 0) (uv 0++ee 0 (jK l (dq l.length))) (l.length) 4096 A1 hb (hP) (hlt) (by omega) (hnl) (by omega)) rfl λ r1 _ h1=> ?_
 obtain ⟨rfl,bv1,hbv1,p1⟩:=h1
 have s1:=p1.join.od [0]
 refine .z 1 rfl ?_
 have A2:=s1.oc [0] 1
 refine .c 0 (uV _ _ _ _ _ (uv 0++ee 0 (jK l (dq l.length))) (ee 0 (jK l (dq l.length))) (0) 1 A2 hbv1 (rfl) (λ y hy=>hlt y (by rw [hP];exact QQ _ hy)) (by simp only [sp];omega) (by omega) (by omega)) rfl λ r2 _ h2=> ?_
 obtain ⟨rfl,bv_2,hbv2,p2⟩:=h2
 have s2:=p2.join.od [0]
 refine .e rfl (.build Hh rfl ⟨rfl,rfl,trivial⟩ rfl)<| .al 0 s2 rfl λ b1 _ s3 _ _=> ?_
 have s3d:=s3.mn
 refine .sa 0 s3d 1 (vs:=[(.int .i64 l.length),(.int .i64 (0:Nat)),(.slice none 0 0),(.slice none 0 0),(.int .i64 (0:Nat)),(.slice none 0 0)]) rfl (λ v h=>by simp only [PR,PU,Q9] at h;rcases h with rfl|rfl|rfl|rfl|rfl|rfl;exact rfl;exact rfl;exact rfl;exact rfl;exact rfl;exact rfl) λ w4 s4 _=> ?_
 have s4d:=s4.sn
 refine .nil<| .seq<| .h<| .ld 1 s4d 1 rfl<| .Z rfl<| .aj rfl (rfl)<| .skip<| .Z rfl<| .seq<| .Z rfl<| .block ?_
 have s5:=(s4d.aA 3 (aa .i64)).mn
 have s6:Sat w0 ([aq g 264 [bv_2,(.bool true)],aq b1 245 [(.int .i64 l.length),(.int .i64 (0:Nat)),(.slice none 0 0),(.slice none 0 0),(.int .i64 (0:Nat)),(.slice none 0 0)],cL (Value.slice none 0 0) 3 (aa .i64) (l.take (64*0))]++cs) w4:=by
  have hq:[]=l.take (64*0):=rfl
  rw [<-hq];exact s5
 refine .lq [0,4] rfl (α:=Nat×Value×Value) (λ (k,bv2,ov)=>[(7,ov),(8,(.int .i64 k))]) (λ (k,bv2,ov) w'=>Sat w0 (s6.V [(0,aq g 264 [bv2,(.bool true)]),(2,cL ov 3 (aa .i64) (l.take (64*k)))]++cs) w'/\(k<=dq l.length)/\(RdL w0 bv2 (aa .u8) (ee 0 ((jK l (dq l.length)).drop k)))) (λ (k,bv2,ov)=>dq l.length-k) (0,bv_2,(.slice none 0 0)) ⟨s6,KD _,hbv2⟩ ?_
 rintro ⟨k,bv2,ov⟩ w5 ⟨s7,hk,hbv⟩
 refine .seq<| .h<| .ld 3 s7 0 rfl<| .ld 4 s7 1 rfl<| .Z rfl<| .ae rfl (λ c1=> ?_) λ c1=> ?_
 ·refine .skip<| .seq<| .block<| .Z rfl<| .Z rfl<| .seq<| .h<| .ld 1 s7 1 rfl<| .Z rfl<| .ea rfl (rfl) ?_
  have hkN:k<dq l.length:=by unfold dq;omega
  have hd:=Et (kind:=0) (vB (l:=l) hkN)
  rw [PI rfl] at hd
  have hdl:=vd 0 k (jK l (dq l.length))
  have hdl1:=If List.length hd
  simp only [sp] at hdl1
  have hcl:=cM l k
  refine .region<| .ld 5 s7 0 rfl<| .ln 0 (hbv.ext s7.ext) rfl ?_
  have A3:=s7.oc [0,1,2] 1
  refine .c 0 (uV _ _ _ _ _ (ee 0 ((jK l (dq l.length)).drop k)) (bD (fP l k)++ee 0 ((jK l (dq l.length)).drop (k+1))) ((bD (fP l k)).length) ((ee 0 ((jK l (dq l.length)).drop k)).length) A3 hbv (hd) (λ y hy=>hlt y (by rw [hP];exact QQ _ (QQ _ (uW hy)))) (by omega) (by omega) (by omega)) rfl λ r3 _ h3=> ?_
  obtain ⟨rfl,bv3,hbv3,p3⟩:=h3
  have s8:=p3.join.od [0,1,2]
  have A4:=s8.oc [0,1,2] 1
  refine .c 0 (CO _ _ _ _ _ (bD (fP l k)++ee 0 ((jK l (dq l.length)).drop (k+1))) (bD (fP l k)) (ee 0 ((jK l (dq l.length)).drop (k+1))) ((bD (fP l k)).length) A4 hbv3 (rfl) (rfl) (by simp only [sp];omega)) rfl λ r4 _ h4=> ?_
  obtain ⟨hbr1,bv4,hbv4,p4⟩:=h4
  have s9:=p4.join.od [0,1,2]
  refine .c 0 (tC _ (bD (fP l k)) (fP l k) _ (hbr1.ext s9.ext) (ka _ _) (by omega) (uA (by omega) (λ y hy=>by have:=hl.lt y (l8 hy);omega))) rfl λ r5 _ h5=> ?_
  obtain ⟨uv1,rfl,p5⟩:=h5
  have s10:=(s9.az p5).mn
  refine .Z rfl<| .seq<| .h<| .ld 3 s10 0 rfl<| .ln 7 (s10.ah 3 rfl) rfl<| .cm 1 s10 (Er _ (l.length) (k) _ (s10.cell (i:=1) (j:=0) rfl rfl) (by omega) (by omega)) rfl λ _ s11=> .Z rfl<| .aj rfl (IN (λ h=>h (by rw [cM];omega)))<| .skip<| .trim [0,4,7,8,9,10] rfl<| .region<| .ap 2 s11 2 (s11.ah 3 rfl) rfl λ v1 w10 s12 _=> ?_
  have s12d:=s12.sn
  refine .Z rfl<| .U rfl ?_
  have s13:=s12d.pt [0,1,2]
  have s14:Sat w0 ([aq g 264 [bv4,(.bool true)],aq b1 245 [(.int .i64 l.length),(.int .i64 (0:Nat)),(.slice none 0 0),(.slice none 0 0),(.int .i64 (0:Nat)),(.slice none 0 0)],cL v1 3 (aa .i64) (l.take (64*(k+1)))]++cs) w10:=by
   have hq:l.take (64*k)++fP l k=l.take (64*(k+1)):=Eu l k
   rw [<-hq];exact s13
  exact aT (k+1,bv4,v1) ⟨s14,by omega,hbv4⟩
 refine .ao<| .seq<| .dt [0,1,2] s7 rfl (pl [0,1,2,3,4,5,6] .fin) λ s15 S1=> .ld 4 S1 0 rfl<| .Z S1 rfl<| .cj rfl rfl rfl ?_
 have s16:=s15.pt [0,2]
 have s17:Sat w0 ([aq g 264 [bv2,(.bool true)],cL ov 3 (aa .i64) (l)]++cs) w5.drew:=by
  have hq:l.take (64*k)=l:=by rw [PV (by omega)]
  rw [<-hq];exact s16
 exact ⟨_,rfl,_,s17⟩
theorem CP (w0 w:World) (cs:List Chunk) (g:Nat) (bv:Value) (l:List Nat) (hs:Sat w0 ([aq g 264 [bv,.bool true]]++cs) w) (hl:OkN l) (h0:br l=0) (hb:RdL w0 bv (aa .u8) (jM l (br l))):
  CallsV prog 210 [.pointer (some ⟨g,0,none⟩)] w λ r w'=>∃ v',r= .tuple #[v',.bool true]/\∃ bv',Sat w0 ([aq g 264 [bv',.bool true],cL v' 3 (aa .i64) l]++cs) w':=by
 rw [h0] at hb;exact Ew w0 w cs g bv l hs hl hb
theorem dN {b p:List Nat} (he:b=aM p) (hp:∀ x∈p,x<256):∀ x∈b,x<256:=λ x hx=>by
 rw [he] at hx
 rcases PT.1 hx with hx|hx
 ·exact hp x hx
 exact nA _ x hx
theorem zK (v:Value) (b l:List Nat) (w:World) (hv:RdL w v (aa .u8) b) (hl:OkN l) (h0:br l=0) (he:b=aM (jM l (br l))):
  CallsV prog 153 [v] w λ r w'=>∃ g lv bv ps,r= .tuple #[.pointer (some ⟨g,0,none⟩),.int .i64 0]/\bB ps=lA l/\Sat w [aq g 245 [(.int .i64 l.length),(.int .i64 (br l)),lv,bv,(.int .i64 (0:Nat)),(.slice none 0 0)],cL lv 3 (aa .i64) (e9 l),cL bv 248 (df) (ps),cG (ps),cL (Value.slice none 0 0) 3 (aa .i64) ([])] w':=by
 refine cg func153 rfl λ hs0=> .Z rfl<| .h<| .c 1 (qE _ (b) (jM l (br l)) _ (hv.ext hs0.ext) (he) (jO (et l)) (by have:=np hl (et l);omega)) rfl λ r1 w1 h1=> ?_
 obtain ⟨uv1,rfl,p1⟩:=h1
 have s1:=hs0.az p1
 refine .Z rfl<| .seq<| .Z rfl<| .aj rfl (rfl)<| .skip<| .seq ?_
 have hpay:=s1.ah 0 rfl
 have hv1:=hv.ext s1.ext
 have hsb:Sat w1 [] w1:=Sat.start _
 refine .region<| .a 1 rfl (.build NZ rfl ⟨(hpay.ext hsb.ext).ab,rfl,trivial⟩ rfl)<| .al 0 hsb rfl λ b1 _ s2 _ _=> .sa 0 s2 0 (vs:=[uv1,(.bool true)]) rfl (λ v h=>by simp only [PR,PU,Q9] at h;rcases h with rfl|rfl;exact (hpay.ext s2.ext).ab;exact rfl) λ _ s3 _=> ?_
 have s3:=s3.nn
 refine .nil<| .h ?_
 have A1:=s3.tail.oc [0] 1
 refine .c 0 (CP _ _ _ _ _ (l) A1 (hl) h0 hpay) rfl λ r2 _ h2=> ?_
 obtain ⟨nv1,rfl,bv1,p2⟩:=h2
 have s4:=(Sat.order [0,1] (by decide) p2.join).aI.nn
 refine .Z rfl<| .seq<| .Z rfl<| .aj rfl (rfl)<| .skip<| .h<| .c 1 (xn _ (l) _ (s4.ah 1 rfl) (hl)) rfl λ r3 _ h3=> ?_
 obtain ⟨g1,lv1,bv2,ps1,rfl,hps1,p3⟩:=h3
 have s5:=s4.az p3
 refine .Z rfl<| .seq<| .seq ?_
 have hbb:∀ x∈b,x<256:=λ x hx=>dN he (jO (et l)) x hx
 have hsb2:∀ x∈aM (jL l.length (br l) (e9 l) (bB ps1)),x<256:=λ x hx=>hbb x (by rw [he,<-vV,<-hps1];exact hx)
 refine .region<| .c 4 (qB g1 ((l).length) (br l) lv1 bv2 (e9 l) ps1 _ (s5.cell (i:=2) (j:=0) rfl rfl) (s5.cell (i:=2) (j:=1) rfl rfl) (s5.cell (i:=2) (j:=2) rfl rfl) (s5.cell (i:=2) (j:=3) rfl rfl) (s5.ah 3 rfl) (s5.ah 4 rfl) (s5.o4 5 rfl) (hl.len) (et _) (ug hl) ((vU hps1 hl).1) ((vU hps1 hl).2) (by rw [hps1];exact BG _)) rfl λ r4 _ h4=> ?_
 have s6:=s5.az h4
 refine .cq 1 s6 (uU _ _ (aM (jL ((l).length) (br l) (e9 l) (bB ps1))) (b) _ (s6.ah 7 rfl) (hv1.ext s6.ext) (hsb2) (hbb)) rfl λ _ s7=> .a 0 rfl (.mF rfl)<| .Z rfl<| .aj rfl (IN (λ hne=>hne (by rw [hps1,vV,he])))<| .skip<| .Z rfl<| .cj rfl rfl rfl ?_
 exact ⟨g1,lv1,bv2,ps1,rfl,hps1,(s1.az (s7.pk [2,3,4,5,6])).sub (.cons _ (.refl _))⟩
def fU (p:ByteArray):List ByteArray->List Nat->List Nat
 |x::W,c::C=>uR p x c++fU x W C
 |_,_=>[]
theorem du {W:List ByteArray} {k:Nat} {x:ByteArray} (hx:W[k]? =some x):dY W (k+1)=x:=by
 unfold dY;rw [M2 (by omega),Qy,cF hx]
theorem AZ {W:List ByteArray} {C:List Nat} {k c:Nat} {x:ByteArray} (hx:W[k]? =some x) (hc:C[k]? =some c):fU (dY W k) (W.drop k) (C.drop k)=uv (bg (dY W k) x)++(uv (x.size-bg (dY W k) x)++(bF (x.extract (bg (dY W k) x) x.size)++(uv (c-1)++fU x (W.drop (k+1)) (C.drop (k+1))))):=by
 rw [cV hx,cV hc,fU,uR]
 simp only [LW]
theorem tE {W:List ByteArray} {C:List Nat} (h:C.length=W.length):∀ k,k<=W.length->cS W C k++fU (dY W k) (W.drop k) (C.drop k)=uv W.length++fU (dY W 0) W C
 |0,_=>rfl
 |k+1,hk=>by
  rw [<-tE h k (by omega)]
  have hx:W[k]? =some W[k]:=py (by omega)
  have hc:C[k]? =some C[k]:=py (by omega)
  rw [AZ hx hc,cS,cF hx,cF hc,du hx,uR]
  simp only [LW]
theorem Ex {W:List ByteArray} {C:List Nat} (h:C.length=W.length):cS W C W.length=uv W.length++fU (dY W 0) W C:=by
 have:=tE h W.length (KB _)
 rw [QB (KB _)] at this
 simpa [fU] using this
theorem tF:∀ (a b:List UInt8),a.take (eJ a b)=b.take (eJ a b)
 |x::a,y::b=>by
  unfold eJ
  split
  ·rename_i h;rw [QW,QW,h,tF a b]
  simp
 |[],_=>by simp [eJ]
 |_::_,[]=>by simp [eJ]
theorem xo:∀ (a b:List UInt8),eJ a b<=a.length
 |x::a,y::b=>by
  have:=xo a b
  unfold eJ
  split
  ·simp;omega
  omega
 |[],_=>by simp [eJ]
 |_::_,[]=>by simp [eJ]
theorem Ey (a b:ByteArray):bg a b<=a.size:=by have:=xo a.data.toList b.data.toList;rw [sJ] at this;exact this
theorem gy (s:ByteArray):strOf (bF s)=s:=by unfold bF;rw [ph]
theorem Is (p x:ByteArray):p.extract 0 (bg p x)++strOf (bF (x.extract (bg p x) x.size))=x:=by
 rw [gy]
 refine j2 ?_
 have e:(p.extract 0 (bg p x)++x.extract (bg p x) x.size).data.toList=(p.extract 0 (bg p x)).data.toList++(x.extract (bg p x) x.size).data.toList:=by simp
 rw [e,qT,qT,Ra,Sz]
 have h:=tF p.data.toList x.data.toList
 show p.data.toList.take (eJ p.data.toList x.data.toList)++_=_
 have h2:(x.data.toList.drop (bg p x)).take (x.size-bg p x)=x.data.toList.drop (bg p x):=PV (by rw [PK,sJ];exact KB _)
 rw [h,h2]
 exact Qc _ _
theorem Ez {W:List ByteArray} {C:List Nat} {k c:Nat} {p x:ByteArray} (hx:W[k]? =some x) (hc:C[k]? =some c) (hp:p=dY W k):fU p (W.drop k) (C.drop k)=uv (bg p x)++(uv (x.size-bg p x)++(bF (x.extract (bg p x) x.size)++(uv (c-1)++fU x (W.drop (k+1)) (C.drop (k+1))))):=by
 subst hp;exact AZ hx hc
theorem eb {a b:List Nat} (ha:∀ y∈a,y<256) (hb:∀ y∈b,y<256):∀ y∈a++b,y<256:=λ y hy=>(PT.1 hy).elim (ha y) (hb y)
theorem Iu (p x:ByteArray) (c:Nat):∀ y∈uR p x c,y<256:=eb (eb (eb (dd _) (dd _)) (kP _)) (dd _)
theorem kL:∀ (p:ByteArray) (W:List ByteArray) (C:List Nat),∀ y∈fU p W C,y<256
 |p,x::W,c::C=>eb (Iu p x c) (kL x W C)
 |_,[],_=>λ y h=>by simp [fU] at h
 |_,_::_,[]=>λ y h=>by simp [fU] at h
theorem jP:∀ (p:ByteArray) (W:List ByteArray) (C:List Nat),(∀ x∈W,x.size<=120)->(fU p W C).length<=W.length*150
 |p,x::W,c::C,h=>by
  have h1:=pd p x c
  have h2:=h x (QD ..)
  have h3:=jP x W C λ y hy=>h y (Qr _ hy)
  simp only [fU,sp,KP]
  omega
 |_,[],_,_=>by simp [fU]
 |_,_::_,[],_=>by simp [fU]
theorem CQ {W:List ByteArray} (C:List Nat) (p:ByteArray) (k:Nat) (h:∀ x∈W,x.size<=120) (hn:W.length<=1024):(fU p (W.drop k) (C.drop k)).length<=153600:=by
 have h1:=jP p (W.drop k) (C.drop k) λ x hx=>h x (Qi hx)
 rw [PK] at h1
 omega
theorem B5 {p:List Nat} (hp:∀ x∈p,x<256):∀ x∈aM p,x<256:=eb hp (nA _)
theorem pT (w0 w:World) (cs:List Chunk) (g:Nat) (bv:Value) (x lim:Nat) (rest:List Nat) (hs:Sat w0 ([aq g 261 [bv,.bool true]]++cs) w) (hb:RdL w0 bv (aa .u8) (uv x++rest)) (hbb:∀ y∈uv x++rest,y<256) (hn:(uv x++rest).length<=1000000000) (hx64:x<2^64) (hxl:x<=lim) (hlim:lim<=1000000000000):
  CallsV prog 207 [(.pointer (some ⟨g,0,none⟩)),(.int .i64 lim)] w λ r w'=>r= .int .i64 ((x:Nat):Int)/\∃ bv',RdL w0 bv' (aa .u8) rest/\Sat w0 ([aq g 261 [bv',.bool true]]++cs) w':=by
 refine ai func207 rfl rfl ?_
 refine .Z rfl<| .h<| .ld 3 hs 0 rfl<| .cm 0 hs (fa _ (uv x++rest) _ (hb.ext hs.ext) (hbb)) rfl λ _ s1=> .Z rfl<| .seq<| .seq ?_
 have hu:=oG hx64 rest
 refine .weaken [(0,_),(1,_),(4,_),(5,(.int .u64 x)),(6,_),(7,_),(8,_),(9,_),(10,_),(11,_),(12,_),(13,_),(14,_),(15,_),(16,_)] ⟨rfl,rfl,rfl,If some (If (λ q:Nat×Nat×Nat=>Value.int .u64 ((q.1:Nat):Int)) hu),rfl,rfl,rfl,rfl,rfl,rfl,rfl,rfl,rfl,rfl,rfl,trivial⟩<| .weaken [(0,_),(1,_),(4,_),(5,_),(6,(.int .i64 ((uv x).length:Nat))),(7,_),(8,_),(9,_),(10,_),(11,_),(12,_),(13,_),(14,_),(15,_),(16,_)] ⟨rfl,rfl,rfl,rfl,If some (If (λ q:Nat×Nat×Nat=>Value.int .i64 ((q.2.1:Nat):Int)) hu),rfl,rfl,rfl,rfl,rfl,rfl,rfl,rfl,rfl,rfl,trivial⟩<| .weaken [(0,_),(1,_),(4,_),(5,_),(6,_),(7,(.int .i64 (0:Nat))),(8,_),(9,_),(10,_),(11,_),(12,_),(13,_),(14,_),(15,_),(16,_)] ⟨rfl,rfl,rfl,rfl,rfl,If some (If (λ q:Nat×Nat×Nat=>Value.int .i64 ((q.2.2:Nat):Int)) hu),rfl,rfl,rfl,rfl,rfl,rfl,rfl,rfl,rfl,trivial⟩<| .region<| .ld 3 s1 0 rfl<| .Z rfl<| .aj rfl (IN (Nat.not_lt.2 hxl))<| .skip<| .h<| .ld 4 s1 0 rfl<| .a 1 rfl (.aV (E:=aa .u8) (a:=(uv x).length) (c:=(uv x++rest).length) ch rfl (hb.ext s1.ext) ⟨_,rfl⟩ rfl (by rw [sp];omega) (KB _))<| .st 2 s1 0 rfl (h1:=(((hb.ext s1.ext)).sub (a:=(uv x).length) (b:=(uv x++rest).length) (by rw [sp];omega) (KB _)).ab) λ _ s2 _=> ?_
 have s2d:=s2.sn
 refine .nil<| .Z rfl<| .aC rfl rfl ?_
 have s3:=s2d.pt [0]
 refine ⟨rfl,_,?_,s3⟩
 have hsub:=hb.sub (a:=(uv x).length) (b:=(uv x++rest).length) (by rw [sp];omega) (KB _)
 rw [PW,TU] at hsub
 exact hsub
theorem EA (w0 w:World) (cs:List Chunk) (g:Nat) (bv:Value) (n:Nat) (s rest:List Nat) (hs:Sat w0 ([aq g 261 [bv,.bool true]]++cs) w) (hb:RdL w0 bv (aa .u8) (s++rest)) (hbb:∀ y∈s++rest,y<256) (hn:(s++rest).length<=1000000000) (hns:n=s.length):
  CallsV prog 208 [(.pointer (some ⟨g,0,none⟩)),(.int .i64 n)] w λ r w'=>r= .string (strOf s)/\∃ bv',RdL w0 bv' (aa .u8) rest/\Sat w0 ([aq g 261 [bv',.bool true]]++cs) w':=by
 refine ai func208 rfl rfl ?_
 refine .Z rfl<| .seq<| .h<| .ld 3 hs 0 rfl<| .ld 6 hs 0 rfl<| .ln 0 (hb.ext hs.ext) rfl<| .Z rfl<| .aj rfl (IN (by rw [sp];omega))<| .skip<| .h<| .ld 3 hs 0 rfl<| .a 1 rfl (.aV (E:=aa .u8) (a:=0) (c:=n) ch rfl (hb.ext hs.ext) rfl ⟨_,rfl⟩ (by omega) (by rw [sp];omega))<| .e rfl (.cZ underlying45 underlying9 underlying5 rfl (((hb.ext hs.ext)).sub (a:=0) (b:=n) (by omega) (by rw [sp];omega)))<| .Z rfl<| .h<| .ld 4 hs 0 rfl<| .a 1 rfl (.aV (E:=aa .u8) (a:=n) (c:=(s++rest).length) ch rfl (hb.ext hs.ext) ⟨_,rfl⟩ rfl (by rw [sp];omega) (KB _))<| .st 2 hs 0 rfl (h1:=(((hb.ext hs.ext)).sub (a:=n) (b:=(s++rest).length) (by rw [sp];omega) (KB _)).ab) λ _ s1 _=> ?_
 have s1d:=s1.sn
 refine .nil<| .Z rfl<| .aC rfl rfl ?_
 have s2:=s1d.pt [0]
 refine ⟨by rw [hns,TA,Ra],_,?_,s2⟩
 have hsub:=hb.sub (a:=n) (b:=(s++rest).length) (by rw [sp];omega) (KB _)
 rw [PW,show List.drop n (s++rest)=rest by rw [hns,TU]] at hsub
 exact hsub
theorem Iw (v:Value) (b:List Nat) (W:List ByteArray) (C:List Nat) (w:World) (hv:RdL w v (aa .u8) b) (he:b=aM (cS W C W.length)) (hok:okW W) (hCl:C.length=W.length) (hsz:∀ x∈W,x.size<=120) (hC:∀ c∈C,1<=c/\c<=4096) (hsum:C.sum<=4096) (hn:W.length<=1024):
  CallsV prog 152 [v] w λ r w'=>∃ g vw vc vo,r= .tuple #[.pointer (some ⟨g,0,none⟩),.int .i64 0]/\Sat w [aq g 166 [vw,vc,vo],cL vw 9 ax W,cL vc 3 (aa .i64) C,cL vo 3 (aa .i64) (ordN W)] w':=by
 refine cg func152 rfl λ hs0=> .Z rfl<| .seq ?_
 have hal:=dG C hsz W.length (KB _)
 refine .region<| .c 1 (qE _ (b) (cS W C W.length) _ (hv.ext hs0.ext) (he) (fS W C _) (by omega)) rfl λ r1 w1 h1=> ?_
 obtain ⟨uv1,rfl,p1⟩:=h1
 have s1:=hs0.az p1
 refine .Z rfl<| .seq<| .Z rfl<| .aj rfl (rfl)<| .skip<| .seq ?_
 have hpay:=s1.ah 0 rfl
 rw [Ex hCl] at hpay
 have hv1:=hv.ext s1.ext
 have hsb:Sat w1 [] w1:=Sat.start _
 have hel0:=jP (dY W 0) W C hsz
 have huw:=aD W.length
 refine .region<| .a 1 rfl (.build NY rfl ⟨(hpay.ext hsb.ext).ab,rfl,trivial⟩ rfl)<| .al 0 hsb rfl λ b1 _ s2 _ _=> .sa 0 s2 0 (vs:=[uv1,(.bool true)]) rfl (λ v h=>by simp only [PR,PU,Q9] at h;rcases h with rfl|rfl;exact (hpay.ext s2.ext).ab;exact rfl) λ _ s3 _=> ?_
 have s3:=s3.nn
 refine .nil<| .h<| .e rfl (.build KU rfl trivial rfl)<| .bx 0 s3 rfl λ b2 _ s4 _ _=> .Z rfl<| .Z rfl<| .seq<| .h ?_
 have A1:=s4.tail.oc [0,1] 1
 refine .c 0 (pT _ _ _ _ _ (W.length) (1024) (fU (dY W 0) W C) A1 hpay (eb (dd _) (kL _ _ _)) (by simp only [sp,ay,PQ];omega) (by omega) (by omega) (by omega)) rfl λ r2 _ h2=> ?_
 obtain ⟨rfl,bv1,hbv1,p2⟩:=h2
 have s5:=(Sat.order [0,1] (by decide) p2.join).aI.nn
 refine .Z rfl<| .block ?_
 have s6:=s5.aA 9 (ax)
 have s7:=s6.aA 3 (aa .i64)
 have s8:=s7.aZ 2 rfl (show []=W.take 0 from rfl)
 have s9:=s8.aZ 3 rfl (show []=C.take 0 from rfl)
 refine .lq [0,6,7] rfl (α:=Nat×Value×ByteArray×Nat×Value×Value) (λ (k,bv,p,z,vw,vc)=>[(8,(.string p)),(9,(.int .i64 z)),(10,(.int .i64 ((W.length-k):Nat)))]) (λ (k,bv,p,z,vw,vc) w'=>Sat w1 [aq b1 261 [bv,(.bool true)],aq b2 166 [vw,vc,(.slice none 0 0)],cL vw 9 (ax) (W.take k),cL vc 3 (aa .i64) (C.take k)] w'/\(k<=W.length)/\(RdL w1 bv (aa .u8) (fU p (W.drop k) (C.drop k)))/\(p=dY W k)/\(p.size<=120)/\(z=(C.take k).sum)) (λ (k,bv,p,z,vw,vc)=>W.length-k) (0,bv1,(ByteArray.mk #[]),0,(.slice none 0 0),(.slice none 0 0)) ⟨s9,KD _,by rw [Ra,Ra];exact hbv1,rfl,by decide,rfl⟩ ?_
 rintro ⟨k,bv,p,z,vw,vc⟩ w6 ⟨s10,hk,hbv,hp,hpl,hz⟩
 refine .seq<| .h<| .z 3 rfl<| .B 28 rfl (λ g1=> ?_) λ g1=> ?_
 ·refine .ld 1 s10 0 rfl<| .Z rfl<| .ea rfl (rfl)<| .skip<| .seq<| .block<| .seq ?_
  obtain ⟨x,hx⟩:∃ x,W[k]? =some x:=⟨_,py (by omega)⟩
  obtain ⟨c,hcc⟩:∃ c,C[k]? =some c:=⟨_,py (by omega)⟩
  have hxs:=hsz x (PO hx)
  have hcb:=hC c (PO hcc)
  have hcm:=uQ p x
  have hcm1:=Ey p x
  have hel:=CQ C x (k+1) hsz hn
  have hu1:=aD (bg p x)
  have hu2:=aD (x.size-bg p x)
  have hu3:=aD (c-1)
  have hsl:=xb C (k+1)
  rw [da hcc] at hsl
  have hb1:=hbv
  rw [Ez hx hcc hp] at hb1
  refine .region<| .a 1 rfl (.bo underlying9 rfl) ?_
  have A2:=s10.tail.oc [0,1,2,3] 1
  refine .c 0 (pT _ _ _ _ _ (bg p x) (p.size) (uv (x.size-bg p x)++(bF (x.extract (bg p x) x.size)++(uv (c-1)++fU x (W.drop (k+1)) (C.drop (k+1))))) A2 hb1 (eb (dd _) (eb (dd _) (eb (kP _) (eb (dd _) (kL _ _ _))))) (by simp only [sp,ay,PQ];omega) (by omega) (by omega) (by omega)) rfl λ r3 _ h3=> ?_
  obtain ⟨rfl,bv2,hbv2,p3⟩:=h3
  have s11:=(Sat.order [0,1,2,3] (by decide) p3.join).aI.nn
  refine .Z rfl<| .seq<| .dk [1,2,3] s11 rfl (pl [0,1,2,1003,1004,5,6] .fin) λ s12 S1=> .z 2 S1 rfl<| .e rfl (λ _ s=> .fI (l:=0) (h:=(bg p x)) underlying9 rfl rfl ⟨_,rfl⟩ (by omega) (by omega)) S1 ?_
  have A3:=s12.tail.oc [0,1,2,3] 1
  refine .c 0 S1 (pT _ _ _ _ _ (x.size-bg p x) (120) (bF (x.extract (bg p x) x.size)++(uv (c-1)++fU x (W.drop (k+1)) (C.drop (k+1)))) A3 hbv2 (eb (dd _) (eb (kP _) (eb (dd _) (kL _ _ _)))) (by simp only [sp,ay,PQ];omega) (by omega) (by omega) (by omega)) rfl λ r4 _ h4=> ?_
  obtain ⟨rfl,bv3,hbv3,p4⟩:=h4
  have s13:=(Sat.order [0,1,2,3] (by decide) p4.join).aI.nn
  have S2:=s13.pk [1,2,3]
  refine ⟨S2,?_⟩
  have A4:=s13.tail.oc [0,1,2,3] 1
  refine .c 0 S2 (EA _ _ _ _ _ ((x.size-bg p x)) (bF (x.extract (bg p x) x.size)) (uv (c-1)++fU x (W.drop (k+1)) (C.drop (k+1))) A4 hbv3 (eb (kP _) (eb (dd _) (kL _ _ _))) (by simp only [sp,ay,PQ];omega) (by rw [ay,PQ];omega)) rfl λ r5 _ h5=> ?_
  obtain ⟨rfl,bv4,hbv4,p5⟩:=h5
  have s14:=(Sat.order [0,1,2,3] (by decide) p5.join).aI.nn
  have S3:=s14.pk [1,2,3]
  refine ⟨S3,?_⟩
  refine .e rfl (λ _ s=> .MG rfl rfl (by rw [gy,PQ,PQ];omega)) S3<| .Z S3 rfl<| .seq<| .weaken [(0,_),(6,_),(7,_),(8,_),(9,_),(10,_),(11,_),(12,(.string x)),(26,_),(27,_),(28,_),(29,_),(30,_),(34,_),(35,_),(36,_),(37,_),(38,_),(39,_),(40,_),(41,_),(42,_)] ⟨rfl,rfl,rfl,rfl,rfl,rfl,rfl,If some (If Value.string (Is p x)),rfl,rfl,rfl,rfl,rfl,rfl,rfl,rfl,rfl,rfl,rfl,rfl,rfl,rfl,trivial⟩<| .region ?_
  have A5:=s14.tail.oc [0,1,2,3] 1
  refine .c 0 (pT _ _ _ _ _ (c-1) (4095) (fU x (W.drop (k+1)) (C.drop (k+1))) A5 hbv4 (eb (dd _) (kL _ _ _)) (by simp only [sp,ay,PQ];omega) (by omega) (by omega) (by omega)) rfl λ r6 _ h6=> ?_
  obtain ⟨rfl,bv5,hbv5,p6⟩:=h6
  have s15:=(Sat.order [0,1,2,3] (by decide) p6.join).aI.nn
  refine .Z rfl<| .seq<| .weaken [(0,_),(6,_),(7,_),(8,_),(9,_),(10,_),(11,_),(12,_),(13,(.int .i64 c)),(26,_),(27,_),(28,_),(29,_),(30,_),(34,_),(35,_),(36,_),(37,_),(38,_),(39,_),(40,_),(41,_),(42,_),(43,_),(44,_)] ⟨rfl,rfl,rfl,rfl,rfl,rfl,rfl,rfl,If some (If (λ q:Nat=>Value.int .i64 (q:Int)) (show c-1+1=c by omega)),rfl,rfl,rfl,rfl,rfl,rfl,rfl,rfl,rfl,rfl,rfl,rfl,rfl,rfl,rfl,rfl,trivial⟩<| .U rfl<| .seq<| .seq ?_
  rcases QF k with hk0|hk0
  ·refine .region<| .ld 3 s15 1 rfl<| .ln 0 (s15.ah 2 rfl) rfl<| .z 2 rfl<| .Gf 54 rfl (IN (by rw [KV];omega))<| .a 6 rfl (.bo underlying9 rfl)<| .z 3 rfl<| .Gf 64 rfl (IN (by omega))<| .cp 1 s15 (gY x _ (by omega)) rfl λ _ s16=> .a 0 rfl (.cO rfl)<| .z 2 rfl<| .Gf 69 rfl (by rw [hok.2 x (PO hx)]<;>rfl)<| .Z rfl<| .aj rfl (IN (by omega))<| .skip<| .seq<| .trim [0,6,7,8,9,10,11,12,13] rfl ?_
   have hshp1:=(s16.ah (E:=ax) 2 rfl).iH (by decide)
   have hshp2:=(s16.ah (E:=aa .i64) 3 rfl).iH (by decide)
   refine .iF [0,1] [0] s16 rfl rfl 18 (pl [0] (.loose 1 (pl [2,3,4,5,6] (.loose 9 (.loose 10 (.loose 11 (pl [12] (.loose 13 (.two 7 14 (.two 8 14 (pl [1014,1015] (.loose 16 (pl [17] (.bar 18 (pl [19,20,1021] .fin))))) (pl [1008,1015] (.loose 16 (pl [17] (.bar 18 (pl [19,20,1021] .fin)))))) (pl [1007,1008,1015] (.loose 16 (pl [17] (.bar 18 (pl [19,20,1021] .fin)))))))))))))) mixed (by kernel_rfl) ?_
   have s17:=s16.drew
   have S4:=s17.pk [0,1]
   refine .z 1 S4 rfl<| .loose rfl rfl rfl (λ _ s=> .move rfl) S4<| .ld 3 S4 1 rfl<| .z 1 S4 rfl<| .loose rfl rfl rfl (λ _ s=> .move rfl) S4<| .loose rfl rfl rfl (λ _ s=> .nilCheck rfl) S4<| .loose rfl rfl rfl (λ _ s=> .fieldAddr yS rfl rfl) S4<| .ld 0 S4 1 rfl<| .loose rfl rfl rfl (λ _ s=> .move rfl) S4<| .two rfl rfl rfl rfl rfl rfl (OpE.bU (ax) x bu rfl s17 rfl λ v1 _ s18 _=> ?_) (OpE.bU (aa .i64) c aQ rfl s17 rfl λ v2 _ s19 _=> ?_)
   ·have S5:=s18.pk [0,1]
    refine ⟨S5,?_⟩
    refine .two rfl rfl rfl rfl rfl rfl (OpE.aw 2 bu s18 rfl rfl rfl underlying28 (s18.ah 4 rfl) (by simp only [sp,KV,KP,KY];omega) (by simp only [sp,KV,KP,KY];omega) λ v3 _ s20 _=> ?_) (OpE.bU (aa .i64) c aQ rfl s18 rfl λ v_4 _ s21 _=> ?_)
    ·have s20:=s20.pk [0,1,2,3]
     have S6:=s20.pk [0,1]
     refine ⟨S6,?_⟩
     refine .f rfl (.bU (aa .i64) c aQ rfl s20 rfl λ v5 _ s22 _=> ?_)
     have S7:=s22.pk [0,1]
     refine ⟨S7,?_⟩
     refine .f rfl (.aw 3 aQ s22 rfl rfl rfl underlying22 (s22.ah 4 rfl) (by simp only [sp,KV,KP,KY];omega) (by simp only [sp,KV,KP,KY];omega) λ v6 _ s23 _=> ?_)
     have s23:=s23.pk [0,1,2,3]
     have S8:=s23.pk [0,1]
     refine ⟨S8,?_⟩
     refine .loose rfl rfl rfl (λ _ s=> .nilCheck rfl) S8<| .z 1 S8 rfl<| .bar rfl rfl rfl (OpE.aK lH s23 (i:=1) rfl rfl rfl ((s23.ah 2 rfl).ab) rfl λ _ s24 _=> ?_)
     have S9:=s24.pk [0]
     refine ⟨S9,?_⟩
     refine .z 2 S9 rfl<| .f rfl (.aK fR s24 (i:=1) rfl rfl rfl ((s24.ah 3 rfl).ab) rfl λ _ s25 _=> ?_)
     have S10:=s25.pk [0]
     refine ⟨S10,?_⟩
     refine .fin<| .U rfl<| .U rfl ?_
     have s26:=s25.aZ 2 rfl (show W.take k++[x]=W.take (k+1) from (aR hx).symm)
     have s27:=s26.aZ 3 rfl (show C.take k++[c]=C.take (k+1) from (aR hcc).symm)
     exact ⟨(k+1,bv5,x,(z+c),v3,v6),⟨rfl,rfl,If some (If (λ q:Nat=>Value.int .i64 (q:Int)) (show W.length-k-1=W.length-(k+1) by omega)),rfl,rfl,rfl,trivial⟩,⟨s27.pk [0,1,2,3],by omega,hbv5,(du hx).symm,by omega,by rw [da hcc,hz]⟩,by dsimp only;omega⟩
    have s21:=s21.nn
    have S11:=s21.pk [0,1]
    refine ⟨S11,?_⟩
    refine .f rfl (.aw 2 bu s21 rfl rfl rfl underlying28 (s21.ah 4 rfl) (by simp only [sp,KV,KP,KY];omega) (by simp only [sp,KV,KP,KY];omega) λ v7 _ s29 _=> ?_)
    have s29:=s29.pk [0,1,2,3,5]
    have S12:=s29.pk [0,1]
    refine ⟨S12,?_⟩
    refine .f rfl (.aw 3 aQ s29 rfl rfl rfl underlying22 (s29.ah 4 rfl) (by simp only [sp,KV,KP,KY];omega) (by simp only [sp,KV,KP,KY];omega) λ v8 _ s30 _=> ?_)
    have s30:=s30.pk [0,1,2,3]
    have S13:=s30.pk [0,1]
    refine ⟨S13,?_⟩
    refine .loose rfl rfl rfl (λ _ s=> .nilCheck rfl) S13<| .z 1 S13 rfl<| .bar rfl rfl rfl (OpE.aK lH s30 (i:=1) rfl rfl rfl ((s30.ah 2 rfl).ab) rfl λ _ s31 _=> ?_)
    have S14:=s31.pk [0]
    refine ⟨S14,?_⟩
    refine .z 2 S14 rfl<| .f rfl (.aK fR s31 (i:=1) rfl rfl rfl ((s31.ah 3 rfl).ab) rfl λ _ s32 _=> ?_)
    have S15:=s32.pk [0]
    refine ⟨S15,?_⟩
    refine .fin<| .U rfl<| .U rfl ?_
    have s33:=s32.aZ 2 rfl (show W.take k++[x]=W.take (k+1) from (aR hx).symm)
    have s34:=s33.aZ 3 rfl (show C.take k++[c]=C.take (k+1) from (aR hcc).symm)
    exact ⟨(k+1,bv5,x,(z+c),v7,v8),⟨rfl,rfl,If some (If (λ q:Nat=>Value.int .i64 (q:Int)) (show W.length-k-1=W.length-(k+1) by omega)),rfl,rfl,rfl,trivial⟩,⟨s34.pk [0,1,2,3],by omega,hbv5,(du hx).symm,by omega,by rw [da hcc,hz]⟩,by dsimp only;omega⟩
   have S16:=s19.pk [0,1]
   refine ⟨S16,?_⟩
   refine .f rfl (.bU (ax) x bu rfl s19 rfl λ v9 _ s36 _=> ?_)
   have s36:=s36.nn
   have S17:=s36.pk [0,1]
   refine ⟨S17,?_⟩
   refine .f rfl (.aw 2 bu s36 rfl rfl rfl underlying28 (s36.ah 5 rfl) (by simp only [sp,KV,KP,KY];omega) (by simp only [sp,KV,KP,KY];omega) λ v10 _ s37 _=> ?_)
   have s37:=s37.pk [0,1,2,3,4]
   have S18:=s37.pk [0,1]
   refine ⟨S18,?_⟩
   refine .f rfl (.aw 3 aQ s37 rfl rfl rfl underlying22 (s37.ah 4 rfl) (by simp only [sp,KV,KP,KY];omega) (by simp only [sp,KV,KP,KY];omega) λ v11 _ s38 _=> ?_)
   have s38:=s38.pk [0,1,2,3]
   have S19:=s38.pk [0,1]
   refine ⟨S19,?_⟩
   refine .loose rfl rfl rfl (λ _ s=> .nilCheck rfl) S19<| .z 1 S19 rfl<| .bar rfl rfl rfl (OpE.aK lH s38 (i:=1) rfl rfl rfl ((s38.ah 2 rfl).ab) rfl λ _ s39 _=> ?_)
   have S20:=s39.pk [0]
   refine ⟨S20,?_⟩
   refine .z 2 S20 rfl<| .f rfl (.aK fR s39 (i:=1) rfl rfl rfl ((s39.ah 3 rfl).ab) rfl λ _ s40 _=> ?_)
   have S21:=s40.pk [0]
   refine ⟨S21,?_⟩
   refine .fin<| .U rfl<| .U rfl ?_
   have s41:=s40.aZ 2 rfl (show W.take k++[x]=W.take (k+1) from (aR hx).symm)
   have s42:=s41.aZ 3 rfl (show C.take k++[c]=C.take (k+1) from (aR hcc).symm)
   exact ⟨(k+1,bv5,x,(z+c),v10,v11),⟨rfl,rfl,If some (If (λ q:Nat=>Value.int .i64 (q:Int)) (show W.length-k-1=W.length-(k+1) by omega)),rfl,rfl,rfl,trivial⟩,⟨s42.pk [0,1,2,3],by omega,hbv5,(du hx).symm,by omega,by rw [da hcc,hz]⟩,by dsimp only;omega⟩
  obtain ⟨y,hy⟩:∃ y,W[k-1]? =some y:=⟨_,py (by omega)⟩
  have hpy:p=y:=by rw [hp];unfold dY;rw [M2 (by omega),cF hy]
  have hlt:=hok.1.lt hy hx (by omega)
  rw [<-hpy] at hlt
  refine .region<| .ld 3 s15 1 rfl<| .ln 0 (s15.ah 2 rfl) rfl<| .z 2 rfl<| .Gt 54 rfl (PM (by rw [KV];omega))<| .a 2 rfl (.MK rfl rfl)<| .z 2 rfl<| .Gf 59 rfl (IN (λ h9=>h9 hlt))<| .a 1 rfl (.bo underlying9 rfl)<| .z 3 rfl<| .Gf 64 rfl (IN (by omega))<| .cp 1 s15 (gY x _ (by omega)) rfl λ _ s44=> .a 0 rfl (.cO rfl)<| .z 2 rfl<| .Gf 69 rfl (by rw [hok.2 x (PO hx)]<;>rfl)<| .Z rfl<| .aj rfl (IN (by omega))<| .skip<| .seq<| .trim [0,6,7,8,9,10,11,12,13] rfl ?_
  have hshp3:=(s44.ah (E:=ax) 2 rfl).iH (by decide)
  have hshp4:=(s44.ah (E:=aa .i64) 3 rfl).iH (by decide)
  refine .iF [0,1] [0] s44 rfl rfl 18 (pl [0] (.loose 1 (pl [2,3,4,5,6] (.loose 9 (.loose 10 (.loose 11 (pl [12] (.loose 13 (.two 7 14 (.two 8 14 (pl [1014,1015] (.loose 16 (pl [17] (.bar 18 (pl [19,20,1021] .fin))))) (pl [1008,1015] (.loose 16 (pl [17] (.bar 18 (pl [19,20,1021] .fin)))))) (pl [1007,1008,1015] (.loose 16 (pl [17] (.bar 18 (pl [19,20,1021] .fin)))))))))))))) mixed (by kernel_rfl) ?_
  have s45:=s44.drew
  have S22:=s45.pk [0,1]
  refine .z 1 S22 rfl<| .loose rfl rfl rfl (λ _ s=> .move rfl) S22<| .ld 3 S22 1 rfl<| .z 1 S22 rfl<| .loose rfl rfl rfl (λ _ s=> .move rfl) S22<| .loose rfl rfl rfl (λ _ s=> .nilCheck rfl) S22<| .loose rfl rfl rfl (λ _ s=> .fieldAddr yS rfl rfl) S22<| .ld 0 S22 1 rfl<| .loose rfl rfl rfl (λ _ s=> .move rfl) S22<| .two rfl rfl rfl rfl rfl rfl (OpE.bU (ax) x bu rfl s45 rfl λ v12 _ s46 _=> ?_) (OpE.bU (aa .i64) c aQ rfl s45 rfl λ v13 _ s47 _=> ?_)
  ·have S23:=s46.pk [0,1]
   refine ⟨S23,?_⟩
   refine .two rfl rfl rfl rfl rfl rfl (OpE.aw 2 bu s46 rfl rfl rfl underlying28 (s46.ah 4 rfl) (by simp only [sp,KV,KP,KY];omega) (by simp only [sp,KV,KP,KY];omega) λ v14 _ s48 _=> ?_) (OpE.bU (aa .i64) c aQ rfl s46 rfl λ v15 _ s49 _=> ?_)
   ·have s48:=s48.pk [0,1,2,3]
    have S24:=s48.pk [0,1]
    refine ⟨S24,?_⟩
    refine .f rfl (.bU (aa .i64) c aQ rfl s48 rfl λ v16 _ s50 _=> ?_)
    have S25:=s50.pk [0,1]
    refine ⟨S25,?_⟩
    refine .f rfl (.aw 3 aQ s50 rfl rfl rfl underlying22 (s50.ah 4 rfl) (by simp only [sp,KV,KP,KY];omega) (by simp only [sp,KV,KP,KY];omega) λ v17 _ s51 _=> ?_)
    have s51:=s51.pk [0,1,2,3]
    have S26:=s51.pk [0,1]
    refine ⟨S26,?_⟩
    refine .loose rfl rfl rfl (λ _ s=> .nilCheck rfl) S26<| .z 1 S26 rfl<| .bar rfl rfl rfl (OpE.aK lH s51 (i:=1) rfl rfl rfl ((s51.ah 2 rfl).ab) rfl λ _ s52 _=> ?_)
    have S27:=s52.pk [0]
    refine ⟨S27,?_⟩
    refine .z 2 S27 rfl<| .f rfl (.aK fR s52 (i:=1) rfl rfl rfl ((s52.ah 3 rfl).ab) rfl λ _ s53 _=> ?_)
    have S28:=s53.pk [0]
    refine ⟨S28,?_⟩
    refine .fin<| .U rfl<| .U rfl ?_
    have s54:=s53.aZ 2 rfl (show W.take k++[x]=W.take (k+1) from (aR hx).symm)
    have s55:=s54.aZ 3 rfl (show C.take k++[c]=C.take (k+1) from (aR hcc).symm)
    exact ⟨(k+1,bv5,x,(z+c),v14,v17),⟨rfl,rfl,If some (If (λ q:Nat=>Value.int .i64 (q:Int)) (show W.length-k-1=W.length-(k+1) by omega)),rfl,rfl,rfl,trivial⟩,⟨s55.pk [0,1,2,3],by omega,hbv5,(du hx).symm,by omega,by rw [da hcc,hz]⟩,by dsimp only;omega⟩
   have s49:=s49.nn
   have S29:=s49.pk [0,1]
   refine ⟨S29,?_⟩
   refine .f rfl (.aw 2 bu s49 rfl rfl rfl underlying28 (s49.ah 4 rfl) (by simp only [sp,KV,KP,KY];omega) (by simp only [sp,KV,KP,KY];omega) λ v18 _ s57 _=> ?_)
   have s57:=s57.pk [0,1,2,3,5]
   have S30:=s57.pk [0,1]
   refine ⟨S30,?_⟩
   refine .f rfl (.aw 3 aQ s57 rfl rfl rfl underlying22 (s57.ah 4 rfl) (by simp only [sp,KV,KP,KY];omega) (by simp only [sp,KV,KP,KY];omega) λ v19 _ s58 _=> ?_)
   have s58:=s58.pk [0,1,2,3]
   have S31:=s58.pk [0,1]
   refine ⟨S31,?_⟩
   refine .loose rfl rfl rfl (λ _ s=> .nilCheck rfl) S31<| .z 1 S31 rfl<| .bar rfl rfl rfl (OpE.aK lH s58 (i:=1) rfl rfl rfl ((s58.ah 2 rfl).ab) rfl λ _ s59 _=> ?_)
   have S32:=s59.pk [0]
   refine ⟨S32,?_⟩
   refine .z 2 S32 rfl<| .f rfl (.aK fR s59 (i:=1) rfl rfl rfl ((s59.ah 3 rfl).ab) rfl λ _ s60 _=> ?_)
   have S33:=s60.pk [0]
   refine ⟨S33,?_⟩
   refine .fin<| .U rfl<| .U rfl ?_
   have s61:=s60.aZ 2 rfl (show W.take k++[x]=W.take (k+1) from (aR hx).symm)
   have s62:=s61.aZ 3 rfl (show C.take k++[c]=C.take (k+1) from (aR hcc).symm)
   exact ⟨(k+1,bv5,x,(z+c),v18,v19),⟨rfl,rfl,If some (If (λ q:Nat=>Value.int .i64 (q:Int)) (show W.length-k-1=W.length-(k+1) by omega)),rfl,rfl,rfl,trivial⟩,⟨s62.pk [0,1,2,3],by omega,hbv5,(du hx).symm,by omega,by rw [da hcc,hz]⟩,by dsimp only;omega⟩
  have S34:=s47.pk [0,1]
  refine ⟨S34,?_⟩
  refine .f rfl (.bU (ax) x bu rfl s47 rfl λ v20 _ s64 _=> ?_)
  have s64:=s64.nn
  have S35:=s64.pk [0,1]
  refine ⟨S35,?_⟩
  refine .f rfl (.aw 2 bu s64 rfl rfl rfl underlying28 (s64.ah 5 rfl) (by simp only [sp,KV,KP,KY];omega) (by simp only [sp,KV,KP,KY];omega) λ v21 _ s65 _=> ?_)
  have s65:=s65.pk [0,1,2,3,4]
  have S36:=s65.pk [0,1]
  refine ⟨S36,?_⟩
  refine .f rfl (.aw 3 aQ s65 rfl rfl rfl underlying22 (s65.ah 4 rfl) (by simp only [sp,KV,KP,KY];omega) (by simp only [sp,KV,KP,KY];omega) λ v22 _ s66 _=> ?_)
  have s66:=s66.pk [0,1,2,3]
  have S37:=s66.pk [0,1]
  refine ⟨S37,?_⟩
  refine .loose rfl rfl rfl (λ _ s=> .nilCheck rfl) S37<| .z 1 S37 rfl<| .bar rfl rfl rfl (OpE.aK lH s66 (i:=1) rfl rfl rfl ((s66.ah 2 rfl).ab) rfl λ _ s67 _=> ?_)
  have S38:=s67.pk [0]
  refine ⟨S38,?_⟩
  refine .z 2 S38 rfl<| .f rfl (.aK fR s67 (i:=1) rfl rfl rfl ((s67.ah 3 rfl).ab) rfl λ _ s68 _=> ?_)
  have S39:=s68.pk [0]
  refine ⟨S39,?_⟩
  refine .fin<| .U rfl<| .U rfl ?_
  have s69:=s68.aZ 2 rfl (show W.take k++[x]=W.take (k+1) from (aR hx).symm)
  have s70:=s69.aZ 3 rfl (show C.take k++[c]=C.take (k+1) from (aR hcc).symm)
  exact ⟨(k+1,bv5,x,(z+c),v21,v22),⟨rfl,rfl,If some (If (λ q:Nat=>Value.int .i64 (q:Int)) (show W.length-k-1=W.length-(k+1) by omega)),rfl,rfl,rfl,trivial⟩,⟨s70.pk [0,1,2,3],by omega,hbv5,(du hx).symm,by omega,by rw [da hcc,hz]⟩,by dsimp only;omega⟩
 refine .Z rfl<| .aj rfl (rfl)<| .ao<| .seq<| .seq ?_
 have s72:=s10.aZ 2 rfl (show W.take k=W from by rw [show k=W.length by omega,PW])
 have s73:=s72.aZ 3 rfl (show C.take k=C from by rw [show k=C.length by omega,PW])
 have s74:=s73.aA 3 (aa .i64)
 refine .region<| .ld 1 s74 0 rfl<| .c 3 (tt _ _ _ _ _ _ _ _ (s74.uD 1 2 3 4 rfl rfl rfl rfl) hCl hsz (λ c hc=>⟨(hC c hc).1,by have:=(hC c hc).2;omega⟩) (by omega)) rfl λ r9 _ h_9=> ?_
 have s75:=(s74.az h_9).nn
 refine .cp 1 s75 (uU _ _ (aM (cS W C W.length)) (b) _ (s75.ah 5 rfl) (hv1.ext s75.ext) (B5 (fS W C _)) (by rw [he];exact B5 (fS W C _))) rfl λ _ s76=> .a 0 rfl (.mF rfl)<| .Z rfl<| .aj rfl (IN (λ h9=>h9 he.symm))<| .skip<| .h<| .z 1 rfl ?_
 have A6:=s76.tail.oc [1,2,0,3,4,5] 2
 refine .c 0 (tq _ _ _ _ _ _ (W) A6 (hok) (λ x hx=>Q7 (hsz x hx) (by decide)) (by omega) ((s76.ah 3 rfl).ab)) rfl λ r11 _ h11=> ?_
 obtain ⟨rfl,vo1,p11⟩:=h11
 have s77:=(Sat.order [3,0,1,4,5,6,2] (by decide) p11.join).aI.nn
 refine .nil<| .Z rfl<| .cj rfl rfl rfl ?_
 exact ⟨_,_,_,_,rfl,(s1.az (s77.pk [1,2,3,6])).sub (.cons _ (.refl _))⟩
def lexB (us:List ByteArray):List Nat:=aM (cS (a8 us) (ar us) (a8 us).length)
def bW (l:List Nat):List Nat:=aM (jM l (br l))
theorem B7 (us:List ByteArray):∀ c∈ar us,c<=us.length:=λ c hc=>by
 unfold ar at hc
 obtain ⟨w,_,rfl⟩:=Qn.1 hc
 unfold fQ
 exact TV
theorem ve {us:List ByteArray} (h:us.length<=1024/\(a8 us).length<=8):OkN (ek us):=by
 obtain ⟨h,h8⟩:=h
 have h2:=bI us
 refine ⟨by unfold ek;rw [No];omega,λ x hx=> ?_⟩
 have:=vM x hx
 omega
theorem mO {us:List ByteArray} (h:Ns us):(lexB us).length<=160000:=by
 have h1:=bI us
 have h0:=h.1.1
 have h2:=dG (W:=a8 us) (ar us) (λ x hx=>h.2 x (cB.1 hx)) _ (KB _)
 unfold lexB
 rw [bL];omega
theorem mP {us:List ByteArray} (h:us.length<=1024/\(a8 us).length<=8):(bW (ek us)).length<=2000004:=by
 have:=np (ve h) (et (ek us))
 unfold bW
 rw [bL];omega
def qF:Enc (Nat×Nat):=⟨2,λ x=>[.int .i64 (x.1:Int),.int .i64 (x.2:Int)],λ _=>rfl,λ x u h=>by simp at h;rcases h with rfl|rfl<;>rfl⟩
theorem Ix {l:List Nat} {k x:Nat} (hx:l[k]? =some x) (h:k%16=0):ga l (k+1)=ga l k++[(x,(bY 0 (l.take k)).length)]:=by
 rw [ga,PI h,getD_some hx]
theorem Iy {l:List Nat} {k:Nat} (h:¬ k%16=0):ga l (k+1)=ga l k:=by rw [ga,M2 h]
theorem vf {l:List Nat} {k x:Nat} (hx:l[k]? =some x):bY 0 (l.take (k+1))=bY 0 (l.take k)++fe (x+1-vK l k):=by rw [ak hx,rG]<;>rfl
theorem tG (v:Value) (l:List Nat) (w:World) (hv:RdL w v (aa .i64) l) (hl:OkP l):
  CallsV prog 81 [v] w λ r w'=>∃ g bv sv,r= .tuple #[.pointer (some ⟨g,0,none⟩),.int .i64 ((0:Nat):Int)]/\Sat w [aq g 173 [.int .i64 (l.length:Int),.int .i64 ((bY 0 l).length:Int),bv,sv],cL bv 5 (aa .u8) (aH (bY 0 l)),cL sv 192 qF (ga l l.length)] w':=by
 refine cg func81 rfl λ hs0=> .Z rfl<| .seq<| .seq ?_
 have hln:=hl.len
 refine .region<| .ln 1 (hv.ext hs0.ext) rfl<| .Z rfl<| .aj rfl (IN (by have:=hl.len;omega))<| .skip<| .h<| .ln 1 (hv.ext hs0.ext) rfl<| .e rfl (.build NU rfl ⟨rfl,trivial⟩ rfl)<| .bx 0 hs0 rfl λ b1 _ s1 _ _=> .Z rfl<| .h<| .c 0 (j6 _) rfl λ r1 _ h_1=> ?_
 obtain ⟨b2,rfl,p1⟩:=h_1
 have s2:=s1.az p1
 refine .Z rfl<| .Z rfl<| .seq<| .h<| .ln 1 (hv.ext s2.ext) rfl<| .Z rfl<| .block ?_
 have s3:=s2.aA 192 (qF)
 refine .lq [0,4,5,17,18] rfl (α:=Nat×Value×List Bool×Value×List (Nat×Nat)) (λ (k,wv,bits,sv,sk)=>[(6,(.int .i64 ((((vK l k:Nat):Int)-1)))),(19,(.int .i64 k))]) (λ (k,wv,bits,sv,sk) w'=>Sat w [aq b1 173 [(.int .i64 l.length),(.int .i64 (0:Nat)),(.slice none 0 0),sv],aq b2 256 [wv,(.int .i64 ((bits).length:Nat))],cL wv 5 (aa .u8) (aH (bits)),cL sv 192 (qF) (sk)] w'/\(k<=l.length)/\(bits=bY 0 (l.take k))/\(sk=ga l k)/\(bits.length<=42*k)) (λ (k,wv,bits,sv,sk)=>l.length-k) (0,(.slice none 0 0),[],(.slice none 0 0),[]) ⟨s3,KD _,rfl,rfl,KD _⟩ ?_
 rintro ⟨k,wv,bits,sv,sk⟩ w3 ⟨s4,hk,hbits,hsk,hbl⟩
 refine .Z rfl<| .seq<| .ae rfl (λ c1=> ?_) λ c1=> ?_
 ·refine .skip<| .seq<| .block<| .seq ?_
  obtain ⟨x,hx⟩:∃ x,(l)[k]? =some x:=⟨_,py c1⟩
  have hx4:=hl.lt x (a7 hx)
  have hbf:=vL hl hx
  have hdl:=BJ (v:=x+1-vK l k) (by omega)
  refine .region<| .ix 1 (hv.ext s4.ext) rfl<| .le 0 (hv.ext s4.ext) hx rfl<| .Z rfl<| .seq<| .block<| .seq<| .bN 24 ((x<0)\/(2147483647<x)) ?_ ?_
  ·refine .z 3 rfl<| .B 27 rfl (λ g1=> ?_) λ g1=> ?_
   ·refine .M rfl (by simp [g1])
   refine .M rfl (by simp [g1])
  refine .aj rfl (IN (by omega))<| .h<| .a 2 rfl (.leq rfl rfl)<| .Z rfl<| .aj rfl (IN (by omega))<| .skip<| .seq<| .h<| .a 1 rfl (.rem (b:=16) rfl rfl (by omega))<| .Z rfl<| .ae rfl (λ c2=> ?_) λ c2=> ?_
  ·have hskl:sk.length=(k+15)/16:=by rw [hsk,jd]
   have hshp1:=(s4.ah (E:=qF) 3 rfl).iH (by decide)
   refine .iF [0,1,2] [1,2] s4 rfl rfl 13 (pl [0,1,2,3,4,5,6,1007,8,1009,1010] (.loose 11 (pl [12] (.bar 13 .fin)))) mixed (by kernel_rfl) ?_
   have s5:=s4.drew
   have S1:=s5.pk [0,1,2]
   refine .ld 4 S1 0 rfl<| .c 2 S1 (uP _ ((bits).length) _ (s5.cell (i:=1) (j:=1) rfl rfl)) rfl λ r2 _ h2=> ?_
   obtain ⟨rfl,p2⟩:=h2
   have s6:=(s5.az p2).nn
   have S2:=s6.pk [0,1,2]
   refine ⟨S2,?_⟩
   refine .e rfl (λ _ s=> .build NV rfl ⟨rfl,rfl,trivial⟩ rfl) S2<| .f rfl (.cn (qF) (x,bits.length) He (by decide) (by decide) s6 rfl λ v1 _ s7 _=> ?_)
   have S3:=s7.pk [0,1,2]
   refine ⟨S3,?_⟩
   refine .f rfl (.aw 3 He s7 rfl rfl rfl underlying171 (s7.ah 4 rfl) (by simp;omega) (by simp;omega) λ v2 _ s8 _=> ?_)
   have s8:=s8.pk [0,1,2,3]
   have S4:=s8.pk [0,1,2]
   refine ⟨S4,?_⟩
   refine .loose rfl rfl rfl (λ _ s=> .nilCheck rfl) S4<| .z 1 S4 rfl<| .bar rfl rfl rfl (OpE.aK Mp s8 (i:=0) rfl rfl rfl ((s8.ah 3 rfl).ab) rfl λ _ s9 _=> ?_)
   have S5:=s9.pk [1,2]
   refine ⟨S5,?_⟩
   refine .fin<| .h<| .a 3 rfl (.lk rfl rfl (by omega) (by omega))<| .z 1 rfl ?_
   have A1:=s9.tail.oc [1,2,0,3] 2
   refine .c 0 (AY _ _ _ _ _ (bits) ((x+1-vK l k)) A1 (by omega) (by omega) (by omega)) rfl λ r3 _ h3=> ?_
   obtain ⟨rfl,wv1,p3⟩:=h3
   have s10:=(Sat.order [2,0,1,3] (by decide) p3.join).aI.nn
   refine .nil<| .U rfl<| .U rfl ?_
   exact ⟨(k+1,wv1,bits++fe ((x+1-vK l k)),v2,sk++[(x,bits.length)]),⟨If some (If (Value.int .i64) (by rw [kd hx];omega)),rfl,rfl,rfl,rfl,rfl,rfl,trivial⟩,⟨s10,by omega,by rw [vf hx,hbits],by rw [Ix hx c2,hsk,hbits],by rw [sp];omega⟩,by dsimp only;omega⟩
  refine .skip<| .h<| .a 3 rfl (.lk rfl rfl (by omega) (by omega))<| .z 1 rfl ?_
  have A2:=s4.tail.oc [1,2,0,3] 2
  refine .c 0 (AY _ _ _ _ _ (bits) ((x+1-vK l k)) A2 (by omega) (by omega) (by omega)) rfl λ r4 _ h4=> ?_
  obtain ⟨rfl,wv2,p4⟩:=h4
  have s11:=(Sat.order [2,0,1,3] (by decide) p4.join).aI.nn
  refine .nil<| .U rfl<| .U rfl ?_
  exact ⟨(k+1,wv2,bits++fe ((x+1-vK l k)),sv,sk),⟨If some (If (Value.int .i64) (by rw [kd hx];omega)),rfl,rfl,rfl,rfl,rfl,rfl,trivial⟩,⟨s11,by omega,by rw [vf hx,hbits],by rw [Iy c2,hsk],by rw [sp];omega⟩,by dsimp only;omega⟩
 refine .ao<| .h<| .c 3 (o9 _ _ (aH (bits)) _ (s4.cell (i:=1) (j:=0) rfl rfl) (s4.ah 2 rfl) (by rw [bc];omega)) rfl λ r5 _ h5=> ?_
 have s12:=(s4.az h5).nn
 refine .cp 1 s12 (uP _ ((bits).length) _ (s12.cell (i:=1) (j:=1) rfl rfl)) rfl λ _ s13=> .st 2 s13 0 rfl (h1:=(s13.ah 4 rfl).ab) λ _ s14 _=> .st 2 s14 0 rfl λ _ s15 _=> ?_
 have s15:=s15.nn
 refine .nil<| .Z rfl<| .cj rfl rfl rfl ?_
 have s16:=(Sat.order [0,4,3,1,2] (by decide) s15.tail).aI.pk [0,1,2]
 rw [show k=l.length by omega,PW] at hbits
 rw [show k=l.length by omega] at hsk
 subst hbits hsk
 exact ⟨_,_,_,rfl,s16⟩
theorem xp (l:List Nat) {a b:Nat} (h:a<=b):(bY 0 (l.take a)).length<=(bY 0 (l.take b)).length:=by
 have e:l.take b=l.take a++(l.take b).drop a:=by
  have h9:=Qc a (l.take b)
  rw [take_take,Qk h] at h9
  exact h9.symm
 rw [e,qf,sp];omega
theorem EB {l:List Nat} (h:OkP l) {k:Nat} {x y:Nat×Nat} (hk:1<=k) (hx:(ga l l.length)[k]? =some x) (hy:(ga l l.length)[k-1]? =some y):y.1<=x.1/\y.2<=x.2/\x.1<4096/\x.2<=200000:=by
 obtain ⟨rfl,h1⟩:=nF l _ _ _ hx
 obtain ⟨rfl,h2⟩:=nF l _ _ _ hy
 have g1:l.getD (16*k) 0=l[16*k]:=getD_some (py h1)
 have g2:l.getD (16*(k-1)) 0=l[16*(k-1)]:=getD_some (py h2)
 have a1:=QS.1 h.asc (16*(k-1)) (16*k) h2 h1 (by omega)
 have a2:=h.lt _ (SE h1)
 have a3:=jc (l.take (16*k)) 0 λ p hp=>h.lt p (Q8 hp)
 have a4:=h.len
 rw [KV] at a3
 exact ⟨by rw [g1,g2];omega,xp l (by omega),by rw [g1];exact a2,by simp only;omega⟩
def Lh (l:List Nat):List Nat:=uv l.length++uv (bY 0 l).length++aH (bY 0 l)
theorem EC {s:List (Nat×Nat)} {k:Nat} {x y:Nat×Nat} (hk:1<=k) (hx:s[k]? =some x) (hy:s[k-1]? =some y):qg s (k+1)=qg s k++uv (x.1-y.1)++uv (x.2-y.2):=by
 rw [qg,M2 (by omega),KW,KW,hx,hy]<;>rfl
theorem qG (g:Nat) (bv sv:Value) (l:List Nat) (w:World) (h0:w.cell? ⟨g,0,none⟩=some (.int .i64 (l.length:Int))) (h1:w.cell? ⟨g,1,none⟩=some (.int .i64 ((bY 0 l).length:Int))) (h2:w.cell? ⟨g,2,none⟩=some bv) (h3:w.cell? ⟨g,3,none⟩=some sv) (hbr:RdL w bv (aa .u8) (aH (bY 0 l))) (hsr:RdL w sv qF (ga l l.length)) (hl:OkP l):
  CallsV prog 82 [(.pointer (some ⟨g,0,none⟩))] w λ r w'=>Sat w [cL r 5 (aa .u8) (aM (mH l))] w':=by
 refine cg func82 rfl λ hs0=> .Z rfl<| .seq ?_
 have hln:=hl.len
 have hgl:=jc l 0 hl.lt
 have hpl:=bc (bY 0 l)
 have hskl:=jd l l.length
 have hu1:=aD l.length
 have hu2:=aD (bY 0 l).length
 refine .region<| .a 3 rfl (.load gO rfl (hs0.ext _ _ h0))<| .c 1 (dj (Value.slice none 0 0) ([]) (l.length) _ (RdL.nil _ _) (by simp) (by omega)) rfl λ r1 _ h_1=> ?_
 have s1:=hs0.az h_1
 refine .Z rfl<| .h<| .a 4 rfl (.load gO rfl (s1.ext _ _ h1))<| .c 1 (dj r1 (uv (l.length)) ((bY 0 l).length) _ (s1.ah 0 rfl) (by omega) (by omega)) rfl λ r2 _ h_2=> ?_
 have s2:=s1.az h_2
 refine .Z rfl<| .h<| .a 4 rfl (.load AK rfl (s2.ext _ _ h2))<| .ap 0 s2 1 (hbr.ext s2.ext) rfl (h1:=by rw [sp];omega) (h2:=by rw [sp];omega) λ v1 _ s3 _=> .Z rfl<| .seq<| .Z rfl<| .block ?_
 refine .lq [0] rfl (α:=Nat×Value×List Nat) (λ (k,ov,acc)=>[(3,ov),(4,(.int .i64 k))]) (λ (k,ov,acc) w'=>Sat w [cL ov 5 (aa .u8) (acc)] w'/\(1<=k)/\(k<=(ga l l.length).length\/k=1)/\(acc=Lh l++qg (ga l l.length) k)/\(acc.length<=40000+20*k)) (λ (k,ov,acc)=>(ga l l.length).length+1-k) (1,v1,uv (l.length)++uv ((bY 0 l).length)++aH (bY 0 l)) ⟨s3.pick [1] rfl,KB _,by omega,by simp [Lh,qg],by simp only [sp];omega⟩ ?_
 rintro ⟨k,ov,acc⟩ w4 ⟨s5,hk,hkl,hacc,hal⟩
 refine .seq<| .h<| .a 4 rfl (.load nY rfl (s5.ext _ _ h3))<| .ln 0 (hsr.ext s5.ext) rfl<| .Z rfl<| .ae rfl (λ c1=> ?_) λ c1=> ?_
 ·refine .skip<| .seq<| .block<| .seq ?_
  obtain ⟨x,hx⟩:∃ x,(ga l l.length)[k]? =some x:=⟨_,py c1⟩
  obtain ⟨y,hy⟩:∃ y,(ga l l.length)[k-1]? =some y:=⟨_,py (by omega)⟩
  obtain ⟨hs1,hs2,hs3,hs4⟩:=EB hl hk hx hy
  refine .dk [0] s5 rfl (pl [0,1,2,3,4,5,6,7,8,9,10,11,12,13,14,15,16,17,18,19,1020,21] .fin) λ s6 S1=> .z 4 S1 rfl<| .e rfl (λ _ s=> .load nY rfl (s.ext _ _ h3)) S1<| .ix 1 S1 (hsr.ext ·.ext) rfl<| .fl 0 S1 (hsr.ext ·.ext) rfl<| .lf 0 S1 (hsr.ext ·.ext) hx rfl<| .z 3 S1 rfl<| .e rfl (λ _ s=> .load nY rfl (s.ext _ _ h3)) S1<| .ix 2 S1 (hsr.ext ·.ext) rfl<| .fl 0 S1 (hsr.ext ·.ext) rfl<| .lf 0 S1 (hsr.ext ·.ext) hy rfl<| .c 2 S1 (dj ov (acc) ((x.1-y.1)) _ (s6.ah 0 rfl) (by omega) (by omega)) rfl λ r3 _ h_3=> ?_
  have s7:=s6.az h_3
  have S2:=s7.pk [0]
  refine ⟨S2,?_⟩
  refine .Z S2 rfl<| .dk [0,1] s7 rfl (pl [0,1,2,3,4,5,6,7,8,9,10,11,12,13,14,15,16,17,18,19,1020,21] .fin) λ s8 S3=> .z 4 S3 rfl<| .e rfl (λ _ s=> .load nY rfl (s.ext _ _ h3)) S3<| .ix 1 S3 (hsr.ext ·.ext) rfl<| .fl 0 S3 (hsr.ext ·.ext) rfl<| .lf 0 S3 (hsr.ext ·.ext) hx rfl<| .z 3 S3 rfl<| .e rfl (λ _ s=> .load nY rfl (s.ext _ _ h3)) S3<| .ix 2 S3 (hsr.ext ·.ext) rfl<| .fl 0 S3 (hsr.ext ·.ext) rfl<| .lf 0 S3 (hsr.ext ·.ext) hy rfl<| .c 2 S3 (dj r3 (acc++uv ((x.1-y.1))) ((x.2-y.2)) _ (s8.ah 1 rfl) (by have h8:=aD (x.1-y.1);rw [sp];omega) (by omega)) rfl λ r4 _ h4=> ?_
  have s9:=s8.az h4
  have S4:=s9.pk [0,1]
  refine ⟨S4,?_⟩
  refine .Z S4 rfl<| .trim [0,3,4] rfl<| .U rfl ?_
  exact aT (k+1,r4,acc++uv ((x.1-y.1))++uv ((x.2-y.2))) ⟨s9.pk [2],by omega,by omega,by rw [EC hk hx hy,hacc];simp only [LW],by have h8:=aD (x.1-y.1);have h9:=aD (x.2-y.2);simp only [sp];omega⟩
 refine .ao<| .seq ?_
 have hfin:acc=mH l:=by
  rw [hacc];unfold mH Lh
  rcases QF (ga l l.length).length with e|e
  ·rw [e,show k=1 by omega]<;>rfl
  rw [show k=(ga l l.length).length by omega]
 refine .region<| .c 1 (pS _ (acc) _ (s5.ah 0 rfl) (λ x hx=>iA l x (by rw [<-hfin];exact hx)) (by rw [hfin];have:=je hl;omega)) rfl λ r5 _ h5=> ?_
 have s11:=s5.az h5
 refine .Z rfl<| .aC rfl rfl ?_
 have s12:=s11.pk [1]
 rw [hfin] at s12
 exact s12
theorem Nf {l:List Nat} (h:OkP l) {k x:Nat} (hx:l[k]? =some x):FX (aH (bY 0 l)) (bY 0 (l.take k)).length (x+1-vK l k)/\(bY 0 (l.take k)).length+(fe (x+1-vK l k)).length=(bY 0 (l.take (k+1))).length/\(bY 0 (l.take (k+1))).length<=(bY 0 l).length:=by
 have h1:=vL h hx
 have h2:=h.lt x (a7 hx)
 have e:=vf hx
 have h3:=xp l (show k+1<=l.length from bQ hx)
 rw [PW] at h3
 have e2:bY 0 l=bY 0 (l.take k)++(fe (x+1-vK l k)++bY (LH 0 (l.take (k+1))) (l.drop (k+1))):=by
  rw [<-LW,<-e,<-qf,Qc]
 refine ⟨?_,by rw [e,sp],h3⟩
 rw [e2]
 exact FZ _ _ (by omega) (by omega)
theorem Iz (v:Value) (b l:List Nat) (w:World) (hv:RdL w v (aa .u8) b) (hbn:b.length<=1000000) (hp:b.take (((bY 0 l).length+7)/8)=aH (bY 0 l)) (hle:(bY 0 l).length<=8*b.length) (hl:OkP l):
  CallsV prog 212 [v,(.int .i64 ((bY 0 l).length:Nat)),(.int .i64 l.length)] w λ r w'=>∃ v',r= .tuple #[v',.bool true]/\Sat w [cL v' 3 (aa .i64) l] w':=by
 refine cg func212 rfl λ hs0=> .Z rfl<| .seq ?_
 have hln:=hl.len
 have hgl:=jc l 0 hl.lt
 have hpl:=bc (bY 0 l)
 have hpb:=kj (bY 0 l)
 refine .region<| .c 2 (mN _ (b) ((bY 0 l).length) _ (hv.ext hs0.ext) (hle) (by omega)) rfl λ r1 _ h_1=> ?_
 obtain ⟨rg_1,rv1,rfl,p1⟩:=h_1
 have s1:=hs0.az p1
 refine .Z rfl<| .seq<| .Z rfl<| .aj rfl (IN (by simp))<| .skip<| .Z rfl<| .Z rfl<| .seq<| .Z rfl<| .block ?_
 have s2:=s1.aA 3 (aa .i64)
 refine .lq [8,22] rfl (α:=Nat×Nat×Value×List Nat) (λ (k,ps,ov,ol)=>[(10,ov),(11,(.int .i64 ((((vK l k:Nat):Int)-1)))),(23,(.int .i64 k))]) (λ (k,ps,ov,ol) w'=>Sat w (s2.U [(0,aq rg_1 274 [rv1,(.int .i64 ((bY 0 l).length:Nat)),(.int .i64 ps)]),(2,cL ov 3 (aa .i64) (ol))]) w'/\(k<=l.length)/\(ps=(bY 0 (l.take k)).length)/\(ol=l.take k)) (λ (k,ps,ov,ol)=>l.length-k) (0,0,(.slice none 0 0),[]) ⟨s2,KD _,rfl,rfl⟩ ?_
 rintro ⟨k,ps,ov,ol⟩ w2 ⟨s3,hk,hps,hol⟩
 refine .Z rfl<| .seq<| .ae rfl (λ c1=> ?_) λ c1=> ?_
 ·refine .skip<| .seq<| .block<| .seq ?_
  obtain ⟨x,hx⟩:∃ x,l[k]? =some x:=⟨_,py c1⟩
  obtain ⟨hq1,hq2,hq3⟩:=Nf hl hx
  have hx4:=hl.lt x (a7 hx)
  have hbf:=vL hl hx
  refine .region<| .z 1 rfl ?_
  have A1:=s3.tail.oc [0,1,2] 2
  refine .c 0 (Ir _ _ _ _ _ (b.take (((bY 0 l).length+7)/8)) ((bY 0 l).length) (ps) (x+1-vK l k) A1 (by rw [hp];exact hpb) (by rw [hp,hpl];omega) (by rw [hp,hpl];omega) (by omega) (by omega) (by rw [hps];omega) (by rw [hp,hps];exact hq1)) rfl λ r2 _ h_2=> ?_
  obtain ⟨rfl,p2⟩:=h_2
  have s4:=(Sat.order [0,1,2] (by decide) p2.join).aI.nn
  refine .Z rfl<| .seq<| .seq<| .bN 35 ((0≠0)\/(2147483648<(x+1-vK l k))) ?_ ?_
  ·refine .M rfl (by simp [])
  refine .aj rfl (IN (by simp;omega))<| .skip<| .h<| .a 3 rfl (.add rfl rfl (by unfold aY;omega))<| .Z rfl<| .weaken [(8,_),(10,_),(11,(.int .i64 x)),(12,_),(13,_),(22,_),(23,_),(25,_),(26,_),(27,_),(28,_),(29,_),(36,_),(37,_),(38,_),(39,_)] ⟨rfl,rfl,If some (If (Value.int .i64) (by omega)),rfl,rfl,rfl,rfl,rfl,rfl,rfl,rfl,rfl,rfl,rfl,rfl,rfl,trivial⟩<| .region<| .b 2 rfl (.bU (aa .i64) x aQ rfl s4 rfl λ v1 _ s5 _=> ?_)
  refine .ap 0 s5 2 (s5.ah 3 rfl) rfl (h1:=by rw [hol];simp;omega) (h2:=by rw [hol];simp;omega) λ v2 _ s6 _=> ?_
  refine .Z rfl<| .U rfl ?_
  exact ⟨(k+1,(ps+(fe (x+1-vK l k)).length),v2,ol++[x]),⟨rfl,If some (If (Value.int .i64) (by rw [kd hx];omega)),rfl,rfl,rfl,trivial⟩,⟨s6.pk [0,1,2],by omega,by rw [hps];exact hq2,by rw [ak hx,hol]⟩,by dsimp only;omega⟩
 refine .ao<| .Z rfl<| .cj rfl rfl rfl ?_
 rw [show k=l.length by omega,PW] at hol
 subst hol
 exact ⟨_,rfl,s3.pk [2]⟩
end Go.Proofs.YthffkcnbdehceaaGreat
