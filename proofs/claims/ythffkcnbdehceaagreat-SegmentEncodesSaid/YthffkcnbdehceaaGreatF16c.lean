/-The walks of the functions of F16c,printed by our own program (kwgen.py) out of our descriptions (base.py). -/
import Derived.Test.YthffkcnbdehceaaGreatF15
import Derived.Test.YthffkcnbdehceaaGreatM16a
import Derived.Test.YthffkcnbdehceaaGreatM15u
open List
open Go.Proofs.Tryz
set_option linter.unusedVariables false
set_option linter.unusedSimpArgs false
set_option linter.unusedSectionVars false
namespace Go.Proofs.YthffkcnbdehceaaGreat
open Go.RowKit Go.Kw
set_option maxRecDepth 100000
theorem fa (v:Value) (l:List Nat) (w:World) (hv:RdL w v (aa .u8) l) (hb:∀ x∈l,x<256):
  CallsV prog 206 [v] w λ r w'=>r= .tuple #[.int .u64 ((fY l).1:Nat),.int .i64 ((fY l).2.1:Nat),.int .i64 ((fY l).2.2:Nat)]/\Sat w [] w':=by
 refine cg func206 rfl λ hs0=> .Z rfl<| .seq<| .h<| .ln 1 (hv.ext hs0.ext) rfl<| .Z rfl<| .block<| .lq [7,8] rfl (α:=Nat×Nat) (λ (k,u)=>[(2,(.int .u64 u)),(9,(.int .i64 k))]) (λ (k,u) w'=>Sat w [] w'/\(k<=l.length)/\(ze k u (l.drop k)=ze 0 0 l)/\(u<2^(7*k))/\(k<=9)) (λ (k,u)=>l.length-k) (0,0) ⟨hs0,KD _,rfl,by decide,by omega⟩ ?_
 rintro ⟨k,u⟩ w1 ⟨s1,hk,hinv,hvk,hk9⟩
 refine .Z rfl<| .seq<| .ae rfl (λ c1=> ?_) λ c1=> ?_
 ·refine .skip<| .seq<| .block<| .seq ?_
  obtain ⟨x,hx⟩:∃ x,(l)[k]? =some x:=⟨_,py c1⟩
  refine .region<| .ix 1 (hv.ext s1.ext) rfl<| .le 0 (hv.ext s1.ext) hx rfl<| .Z rfl<| .seq<| .seq ?_
  have hdk:=kb hx
  have hx256:=hb x (a7 hx)
  have hstep:=hinv
  rw [hdk,ze] at hstep
  refine .bN 19 ((k=9)/\(x≠1)) ?_ ?_
  ·refine .z 3 rfl<| .B 16 rfl (λ g1=> ?_) λ g1=> ?_
   ·refine .M rfl (by simp [g1])
   refine .M rfl (by simp [g1])
  refine .ae rfl (λ c2=> ?_) λ c2=> ?_
  ·refine .Z rfl<| .ret ?_
   show aL _ _ _ _ _ _
   refine ie rfl rfl rfl rfl ?_
   rw [PI (by simpa using c2)] at hstep
   exact ⟨by rw [fY,<-hstep]<;>rfl,s1⟩
  refine .skip<| .seq ?_
  have h9':¬ (k=9/\x≠1):=by simpa using c2
  rw [M2 h9'] at hstep
  have hor:=LF (c:=x) hvk hk9 h9'
  have hbd:=Du (c:=x) hvk
  have hsm:=tX (c:=x) hk9 h9'
  have hpk:2^(7*k)<=2^63:=Qg (by decide) (by omega)
  refine .U rfl<| .Z rfl<| .ae rfl (λ c3=> ?_) λ c3=> ?_
  ·refine .seq<| .seq<| .bN 35 ((x=0)/\(0<k)) ?_ ?_
   ·refine .z 3 rfl<| .B 32 rfl (λ g2=> ?_) λ g2=> ?_
    ·refine .M rfl (by simp [g2])
    refine .M rfl (by simp [g2])
   refine .ae rfl (λ c4=> ?_) λ c4=> ?_
   ·refine .Z rfl<| .ret ?_
    show aL _ _ _ _ _ _
    refine ie rfl rfl rfl rfl ?_
    rw [PI c3,PI (by simpa using c4)] at hstep
    exact ⟨by rw [fY,<-hstep]<;>rfl,s1⟩
   refine .skip<| .Z rfl<| .ret ?_
   show aL _ _ _ _ _ _
   refine ie rfl rfl rfl rfl ?_
   rw [PI c3,M2 (by simpa using c4)] at hstep
   exact ⟨by rw [fY,<-hstep,<-hor]<;>rfl,s1⟩
  refine .skip<| .U rfl ?_
  exact aT (k+1,(u|||((x%2^7)*2^(7*k)%2^64))) ⟨s1,by omega,by rw [hor,<-hstep,M2 c3],by rw [hor];exact hbd,by rcases Q1 k 9 with h|h;(omega);exact absurd ⟨(by omega:k=9),(by omega:x≠1)⟩ h9'⟩
 refine .ao<| .Z rfl<| .ret ?_
 show aL _ _ _ _ _ _
 refine ie rfl rfl rfl rfl ?_
 rw [show k=l.length by omega,SO,ze] at hinv
 exact ⟨by rw [fY,<-hinv]<;>rfl,s1⟩
theorem mM (w0 w:World) (cs:List Chunk) (g:Nat) (bv:Value) (ok:Bool) (bl:List Nat) (lim:Nat) (hs:Sat w0 ([aq g 327 [bv,.bool ok]]++cs) w) (hb:RdL w0 bv (aa .u8) bl) (hbb:∀ x∈bl,x<256) (hn:bl.length<=1000000000) (hlim:lim<=1000000000000):
  CallsV prog 267 [(.pointer (some ⟨g,0,none⟩)),(.int .i64 lim)] w λ r w'=>r= .int .i64 ((aW ok bl lim).1:Nat)/\∃ bv',RdL w0 bv' (aa .u8) (aW ok bl lim).2.2/\Sat w0 ([aq g 327 [bv',.bool (aW ok bl lim).2.1]]++cs) w':=by
 refine ai func267 rfl rfl ?_
 refine .Z rfl<| .h<| .ld 3 hs 0 rfl<| .cm 0 hs (fa _ (bl) _ (hb.ext hs.ext) (hbb)) rfl λ _ s1=> .Z rfl<| .seq<| .seq<| .bN 31 ((((!ok)=true)\/((fY bl).2.2≠0))\/(lim<(fY bl).1)) ?_ ?_
 ·refine .ld 3 s1 0 rfl<| .e rfl (.cO rfl)<| .z 1 rfl ?_
  by_cases g1:(!ok)=true
  ·refine .Gt 22 rfl (g1)<| .M rfl (by simp [g1])
  refine .Gf 22 rfl (by simpa using g1)<| .z 4 rfl<| .B 26 rfl (λ g2=> ?_) λ g2=> ?_
  ·refine .M rfl (by simp [g1,g2])
  refine .M rfl (by simp [g1,g2])
 refine .ae rfl (λ c1=> ?_) λ c1=> ?_
 ·refine .h<| .st 3 s1 0 rfl λ _ s2 _=> ?_
  have s2d:=s2.sn
  refine .nil<| .Z rfl<| .aC rfl rfl ?_
  have hN:aW ok bl lim=(0,false,bl):=by rw [aW,PI (by simpa [or_assoc] using c1)]
  exact ⟨by rw [hN]<;>rfl,_,by rw [hN];exact hb,by rw [hN];exact s2d⟩
 refine .skip<| .seq ?_
 have hule:=oF bl
 refine .region<| .ld 4 s1 0 rfl<| .a 1 rfl (.aV (E:=aa .u8) (a:=(fY bl).2.1) (c:=(bl).length) ch rfl (hb.ext s1.ext) ⟨_,rfl⟩ rfl (hule) (KB _))<| .st 2 s1 0 rfl (h1:=(((hb.ext s1.ext)).sub (a:=(fY bl).2.1) (b:=(bl).length) (hule) (KB _)).ab) λ _ s3 _=> ?_
 have s3d:=s3.sn
 refine .nil<| .seq ?_
 have hlv:(fY bl).1<=lim:=RN λ h=>c1 (by simp [h])
 refine .U rfl<| .aC rfl rfl ?_
 have hN:aW ok bl lim=((fY bl).1,true,bl.drop (fY bl).2.1):=by rw [aW,M2 (by simpa [or_assoc] using c1)]
 have hok:ok=true:=by cases ok<;>simp_all
 subst hok
 refine ⟨by rw [hN],_,?_,by rw [hN];exact s3d⟩
 rw [hN]
 have hsub:=hb.sub (a:=(fY bl).2.1) (b:=bl.length) (oF bl) (KB _)
 rw [PW] at hsub
 exact hsub
theorem Io (w0 w:World) (cs:List Chunk) (g:Nat) (bv:Value) (ok:Bool) (bl:List Nat) (lim:Nat) (hs:Sat w0 ([aq g 264 [bv,.bool ok]]++cs) w) (hb:RdL w0 bv (aa .u8) bl) (hbb:∀ x∈bl,x<256) (hn:bl.length<=1000000000) (hlim:lim<=1000000000000):
  CallsV prog 242 [(.pointer (some ⟨g,0,none⟩)),(.int .i64 lim)] w λ r w'=>r= .int .i64 ((aW ok bl lim).1:Nat)/\∃ bv',RdL w0 bv' (aa .u8) (aW ok bl lim).2.2/\Sat w0 ([aq g 264 [bv',.bool (aW ok bl lim).2.1]]++cs) w':=by
 refine ai func242 rfl rfl ?_
 refine .Z rfl<| .h<| .ld 3 hs 0 rfl<| .cm 0 hs (fa _ (bl) _ (hb.ext hs.ext) (hbb)) rfl λ _ s1=> .Z rfl<| .seq<| .seq<| .bN 31 ((((!ok)=true)\/((fY bl).2.2≠0))\/(lim<(fY bl).1)) ?_ ?_
 ·refine .ld 3 s1 0 rfl<| .e rfl (.cO rfl)<| .z 1 rfl ?_
  by_cases g1:(!ok)=true
  ·refine .Gt 22 rfl (g1)<| .M rfl (by simp [g1])
  refine .Gf 22 rfl (by simpa using g1)<| .z 4 rfl<| .B 26 rfl (λ g2=> ?_) λ g2=> ?_
  ·refine .M rfl (by simp [g1,g2])
  refine .M rfl (by simp [g1,g2])
 refine .ae rfl (λ c1=> ?_) λ c1=> ?_
 ·refine .h<| .st 3 s1 0 rfl λ _ s2 _=> ?_
  have s2d:=s2.sn
  refine .nil<| .Z rfl<| .aC rfl rfl ?_
  have hN:aW ok bl lim=(0,false,bl):=by rw [aW,PI (by simpa [or_assoc] using c1)]
  exact ⟨by rw [hN]<;>rfl,_,by rw [hN];exact hb,by rw [hN];exact s2d⟩
 refine .skip<| .seq ?_
 have hule:=oF bl
 refine .region<| .ld 4 s1 0 rfl<| .a 1 rfl (.aV (E:=aa .u8) (a:=(fY bl).2.1) (c:=(bl).length) ch rfl (hb.ext s1.ext) ⟨_,rfl⟩ rfl (hule) (KB _))<| .st 2 s1 0 rfl (h1:=(((hb.ext s1.ext)).sub (a:=(fY bl).2.1) (b:=(bl).length) (hule) (KB _)).ab) λ _ s3 _=> ?_
 have s3d:=s3.sn
 refine .nil<| .seq ?_
 have hlv:(fY bl).1<=lim:=RN λ h=>c1 (by simp [h])
 refine .U rfl<| .aC rfl rfl ?_
 have hN:aW ok bl lim=((fY bl).1,true,bl.drop (fY bl).2.1):=by rw [aW,M2 (by simpa [or_assoc] using c1)]
 have hok:ok=true:=by cases ok<;>simp_all
 subst hok
 refine ⟨by rw [hN],_,?_,by rw [hN];exact s3d⟩
 rw [hN]
 have hsub:=hb.sub (a:=(fY bl).2.1) (b:=bl.length) (oF bl) (KB _)
 rw [PW] at hsub
 exact hsub
theorem AX (g:Nat) (v:Value) (l:List Nat) (a:Nat) (w:World) (hc:w.cell? ⟨g,0,none⟩=some v) (hv:RdL w v (aa .u8) l) (hb:∀ x∈l,x<256) (ha:a<8*l.length) (hn:l.length<=1000000000):
  CallsV prog 249 [(.pointer (some ⟨g,0,none⟩)),(.int .i64 a)] w λ r w'=>r= .int .u64 (rb l a:Nat)/\Sat w [] w':=by
 refine cg func249 rfl λ hs0=> .Z rfl<| .seq ?_
 obtain ⟨x,hx⟩:∃ x,l[a/2^3]? =some x:=⟨_,py (by omega)⟩
 have hx256:=hb x (a7 hx)
 have hxd:=QH x (2^(7-a%2^3))
 refine .region<| .a 3 rfl (.load AK rfl (hs0.ext _ _ hc))<| .ix 2 (hv.ext hs0.ext) rfl<| .le 0 (hv.ext hs0.ext) hx rfl<| .a 1 rfl (.HC (b:=7) 3 rfl rfl (by decide) (by omega) (by decide))<| .Z rfl<| .aC rfl rfl ?_
 refine ⟨?_,hs0⟩
 have hd:l.getD (a/8) 0=x:=getD_some hx
 rw [rb,hd]
theorem qC (g:Nat) (v:Value) (l:List Nat) (N a m:Nat) (w:World) (hc:w.cell? ⟨g,0,none⟩=some v) (hc1:w.cell? ⟨g,1,none⟩=some (.int .i64 (N:Int))) (hv:RdL w v (aa .u8) l) (hb:∀ x∈l,x<256) (hN:N<=8*l.length) (hn:l.length<=1000000000) (hm:m<=63) (ham:a+m<=N):
  CallsV prog 221 [(.pointer (some ⟨g,0,none⟩)),(.int .i64 a),(.int .i64 m)] w λ r w'=>r= .tuple #[.int .u64 (sL l a m:Nat),.bool true]/\Sat w [] w':=by
 refine cg func221 rfl λ hs0=> .Z rfl<| .seq<| .h<| .cp 3 hs0 (qz _ (N) _ (hs0.ext _ _ hc1)) rfl λ _ s1=> .Z rfl<| .aj rfl (IN (by omega))<| .skip<| .Z rfl<| .seq<| .Z rfl<| .block<| .lq [0,1,18] rfl (α:=Nat) (λ k=>[(8,(.int .u64 (sL l a k))),(19,(.int .i64 k))]) (λ k w'=>Sat w [] w'/\(k<=m)) (λ k=>m-k) 0 ⟨s1,KD _⟩ ?_
 rintro k w2 ⟨s2,hk⟩
 refine .Z rfl<| .seq<| .ae rfl (λ c1=> ?_) λ c1=> ?_
 ·refine .skip<| .seq<| .block<| .Z rfl ?_
  have hbl:=rF l a k
  have hp63:2^k<=2^62:=Qg (by decide) (by omega)
  have hrl:=Kt l (a+k)
  have hor:=LG (v:=sL l a k) hrl (by omega)
  refine .region<| .cp 8 s2 (AX _ _ (l) ((a+k)) _ (s2.ext _ _ hc) (hv.ext s2.ext) (hb) (by omega) (hn)) rfl λ _ s3=> .Z rfl<| .U rfl ?_
  exact ⟨k+1,⟨If some (If (Value.int .u64) (If (λ (q:Nat)=>(q:Int)) hor)),rfl,rfl,rfl,rfl,trivial⟩,⟨s3,by omega⟩,by omega⟩
 refine .ao<| .Z rfl<| .cj rfl rfl rfl ?_
 rw [show k=m by omega]
 exact ⟨rfl,s2⟩
theorem Es (w0 w:World) (cs:List Chunk) (g:Nat) (v:Value) (by_:List Nat) (N pos m:Nat) (hs:Sat w0 ([aq g 274 [v,.int .i64 (N:Int),.int .i64 (pos:Int)],cL v 5 (aa .u8) by_]++cs) w) (hb:∀ x∈by_,x<256) (hN:N<=8*by_.length) (hn:by_.length<=1000000000) (hm:m<=63) (ham:pos+m<=N):
  CallsV prog 279 [(.pointer (some ⟨g,0,none⟩)),(.int .i64 m)] w λ r w'=>r= .tuple #[.int .u64 (sL by_ pos m:Nat),.int .i64 ((0:Nat):Int)]/\Sat w0 ([aq g 274 [v,.int .i64 (N:Int),.int .i64 ((pos+m:Nat):Int)],cL v 5 (aa .u8) by_]++cs) w':=by
 refine ai func279 rfl rfl ?_
 refine .Z rfl<| .seq<| .seq<| .bN 13 ((m<0)\/(64<m)) ?_ ?_
 ·refine .z 3 rfl<| .B 10 rfl (λ g1=> ?_) λ g1=> ?_
  ·refine .M rfl (by simp [g1])
  refine .M rfl (by simp [g1])
 refine .aj rfl (IN (by omega))<| .skip<| .h<| .ld 4 hs 0 rfl<| .cm 1 hs (qC _ _ (by_) (N) (pos) (m) _ (hs.cell (i:=0) (j:=0) rfl rfl) (hs.cell (i:=0) (j:=1) rfl rfl) (hs.ah 1 rfl) (hb) (hN) (hn) (hm) (ham)) rfl λ _ s1=> .Z rfl<| .seq<| .Z rfl<| .aj rfl (rfl)<| .skip<| .h<| .ld 3 s1 0 rfl<| .st 4 s1 0 rfl λ _ s2 _=> ?_
 have s2d:=s2.sn
 refine .nil<| .Z rfl<| .cj rfl rfl rfl ?_
 exact ⟨rfl,s2d⟩
theorem mN (v:Value) (l:List Nat) (m:Nat) (w:World) (hv:RdL w v (aa .u8) l) (hm:m<=8*l.length) (hn:l.length<=1000000000):
  CallsV prog 169 [v,(.int .i64 m)] w λ r w'=>∃ g bv,r= .tuple #[.pointer (some ⟨g,0,none⟩),.int .i64 ((0:Nat):Int)]/\Sat w [aq g 274 [bv,.int .i64 (m:Int),.int .i64 ((0:Nat):Int)],cL bv 5 (aa .u8) (l.take ((m+7)/8))] w':=by
 refine cg func169 rfl λ hs0=> .Z rfl<| .seq<| .seq<| .bN 14 ((m<0)\/((8*l.length)<m)) ?_ ?_
 ·refine .z 3 rfl<| .B 8 rfl (λ g1=> ?_) λ g1=> ?_
  ·refine .M rfl (by simp [g1])
  refine .ln 2 (hv.ext hs0.ext) rfl<| .M rfl (by simp [g1])
 refine .aj rfl (IN (by omega))<| .skip<| .h<| .f rfl (.tg (aa .u8) ch hs0 λ v1 _ s1 _=> ?_)
 refine .a 3 rfl (.quo (b:=8) rfl rfl (by omega) (by unfold aY;omega))<| .e rfl (.aV (E:=aa .u8) (a:=0) (c:=((m+7)/8)) ch rfl (hv.ext s1.ext) rfl ⟨_,rfl⟩ (by omega) (by omega))<| .ap 0 s1 0 (((hv.ext s1.ext)).sub (a:=0) (b:=((m+7)/8)) (by omega) (by omega)) rfl λ v2 _ s2 _=> .a 1 rfl (.build NW rfl ⟨(s2.ah 0 rfl).ab,rfl,trivial⟩ rfl)<| .e rfl (.HM O0 rfl rfl)<| .bx 0 s2 rfl λ b1 _ s3 _ _=> .Z rfl<| .cj rfl rfl rfl ?_
 have s4:=(Sat.order [1,0] (by decide) s3.tail).aI.pk [0,1]
 rw [show (l.take ((m+7)/8)).drop 0=l.take ((m+7)/8) from rfl] at s4
 exact ⟨_,_,rfl,s4⟩
theorem uU (v u:Value) (a b:List Nat) (w:World) (hv:RdL w v (aa .u8) a) (hu:RdL w u (aa .u8) b) (ha:∀ x∈a,x<256) (hb:∀ x∈b,x<256):
  CallsV prog 209 [v,u] w λ r w'=>r= .bool (decide (a=b))/\Sat w [] w':=by
 refine cg func209 rfl λ hs0=> .Z rfl<| .h<| .a 1 rfl (.cZ underlying45 underlying9 underlying5 rfl (hv.ext hs0.ext))<| .a 1 rfl (.cZ underlying45 underlying9 underlying5 rfl (hu.ext hs0.ext))<| .e rfl (.eF rfl rfl)<| .Z rfl<| .aC rfl rfl ?_
 refine ⟨If Value.bool ?_,hs0⟩
 by_cases hab:a=b
 ·subst hab;simp
 rw [IN hab,IN λ h=>hab ((Dc ha hb).1 h)]
theorem Ip (w0 w:World) (cs:List Chunk) (g:Nat) (v:Value) (bits:List Bool) (x:Nat) (hs:Sat w0 ([aq g 256 [v,.int .i64 (((bits).length:Nat):Int)],cL v 5 (aa .u8) (aH (bits))]++cs) w) (h0:0<x) (hx:x<2^64) (hn:bits.length<=900000000):
  CallsV prog 191 [(.pointer (some ⟨g,0,none⟩)),(.int .u64 x)] w λ r w'=>r= .int .i64 0/\∃ v',Sat w0 ([aq g 256 [v',.int .i64 (((bits++gH x).length:Nat):Int)],cL v' 5 (aa .u8) (aH (bits++gH x))]++cs) w':=by
 obtain ⟨hb1,hb2,hb3⟩:=dz h0 (by omega)
 have hb4:=bitLen_le64 x
 refine ai func191 rfl rfl ?_
 refine .Z rfl<| .seq<| .Z rfl<| .aj rfl (IN (by omega))<| .skip<| .h<| .cm 1 hs (mK (x) _ (by omega)) rfl λ _ s1=> .Z rfl<| .h<| .z 2 rfl ?_
 have A1:=s1.oc [0,1] 2
 refine .c 0 (pP _ _ _ _ _ (bits) (0) (((Lib.bitLen (x))-1)) A1 (by omega) (by omega) (by omega)) rfl λ r2 _ h2=> ?_
 obtain ⟨rfl,wv1,p2⟩:=h2
 have s2:=p2.join.od [0,1]
 refine .nil<| .h<| .z 4 rfl ?_
 have A2:=s2.oc [0,1] 2
 refine .c 0 (pP _ _ _ _ _ (bits++aX (0) (((Lib.bitLen (x))-1))) (x) ((((Lib.bitLen (x))-1)+1)) A2 (hx) (by omega) (by simp only [sp,aF];omega)) rfl λ r3 _ h3=> ?_
 obtain ⟨rfl,wv2,p3⟩:=h3
 have s3:=p3.join.od [0,1]
 refine .nil<| .Z rfl<| .aC rfl rfl ?_
 have he:bits++aX (0) (((Lib.bitLen (x))-1))++aX (x) ((((Lib.bitLen (x))-1)+1))=bits++gH x:=by unfold gH;rw [show Lib.bitLen x-1+1=Lib.bitLen x by omega,LW]
 rw [he] at s3
 exact ⟨rfl,_,s3⟩
theorem AY (w0 w:World) (cs:List Chunk) (g:Nat) (v:Value) (bits:List Bool) (x:Nat) (hs:Sat w0 ([aq g 256 [v,.int .i64 (((bits).length:Nat):Int)],cL v 5 (aa .u8) (aH (bits))]++cs) w) (h0:0<x) (hx:x<2^32) (hn:bits.length<=900000000):
  CallsV prog 131 [(.pointer (some ⟨g,0,none⟩)),(.int .u64 x)] w λ r w'=>r= .int .i64 0/\∃ v',Sat w0 ([aq g 256 [v',.int .i64 (((bits++fe x).length:Nat):Int)],cL v' 5 (aa .u8) (aH (bits++fe x))]++cs) w':=by
 obtain ⟨hb1,hb2,hb3⟩:=dz h0 (by omega)
 have hb4:=bitLen_le64 x
 have hb5:=bitLen_le hx
 have hb6:=kc (Lib.bitLen x-1+1)
 have hb7:=bitLen_le64 (Lib.bitLen x-1+1)
 refine ai func131 rfl rfl ?_
 refine .Z rfl<| .seq<| .Z rfl<| .aj rfl (IN (by omega))<| .skip<| .h<| .cm 1 hs (mK (x) _ (by omega)) rfl λ _ s1=> .Z rfl<| .h<| .z 4 rfl ?_
 have A1:=s1.oc [0,1] 2
 refine .c 0 (Ip _ _ _ _ _ (bits) ((((Lib.bitLen (x))-1)+1)) A1 (by omega) (by omega) (by omega)) rfl λ r2 _ h2=> ?_
 obtain ⟨rfl,wv1,p2⟩:=h2
 have s2:=p2.join.od [0,1]
 refine .nil<| .h<| .z 3 rfl ?_
 have A2:=s2.oc [0,1] 2
 refine .c 0 (pP _ _ _ _ _ (bits++gH ((((Lib.bitLen (x))-1)+1))) (x) (((Lib.bitLen (x))-1)) A2 (by omega) (by omega) (by simp only [sp];omega)) rfl λ r3 _ h3=> ?_
 obtain ⟨rfl,wv2,p3⟩:=h3
 have s3:=p3.join.od [0,1]
 refine .nil<| .Z rfl<| .aC rfl rfl ?_
 have he:bits++gH ((((Lib.bitLen (x))-1)+1))++aX (x) (((Lib.bitLen (x))-1))=bits++fe x:=by unfold fe;rw [show Lib.bitLen x-1+1=Lib.bitLen x by omega,LW]
 rw [he] at s3
 exact ⟨rfl,_,s3⟩
theorem CM (g:Nat) (v:Value) (l:List Nat) (N a z:Nat) (w:World) (hc:w.cell? ⟨g,0,none⟩=some v) (hc1:w.cell? ⟨g,1,none⟩=some (.int .i64 (N:Int))) (hv:RdL w v (aa .u8) l) (hb:∀ x∈l,x<256) (hN:N<=8*l.length) (hn:l.length<=1000000000) (hz:z<=63) (hlt:a+z<N) (h0:∀ k,k<z->rb l (a+k)=0) (h1:rb l (a+z)=1):
  CallsV prog 248 [(.pointer (some ⟨g,0,none⟩)),(.int .i64 a),(.int .i64 (63:Nat))] w λ r w'=>r= .tuple #[.int .i64 (z:Int),.int .i64 ((0:Nat):Int)]/\Sat w [] w':=by
 refine cg func248 rfl λ hs0=> .Z rfl<| .Z rfl<| .block<| .lq [0,1,2] rfl (α:=Nat) (λ k=>[(8,(.int .i64 k))]) (λ k w'=>Sat w [] w'/\(k<=z)) (λ k=>z-k) 0 ⟨hs0,KD _⟩ ?_
 rintro k w1 ⟨s1,hk⟩
 refine .seq<| .block<| .seq<| .h<| .cp 6 s1 (qz _ (N) _ (s1.ext _ _ hc1)) rfl λ _ s2=> .Z rfl<| .aj rfl (IN (by omega))<| .skip<| .seq<| .h<| .cp 6 s2 (AX _ _ (l) ((a+k)) _ (s2.ext _ _ hc) (hv.ext s2.ext) (hb) (by omega) (hn)) rfl λ _ s3=> .Z rfl<| .ae rfl (λ c1=> ?_) λ c1=> ?_
 ·refine .Z rfl<| .cj rfl rfl rfl ?_
  have hkz:k=z:=(Q1 k z).elim (λ q=>by have:=h0 k q;omega) λ q=>by omega
  subst hkz
  exact ⟨rfl,s3⟩
 refine .skip<| .seq ?_
 have hkz:k≠z:=λ e=>c1 (by rw [e];exact h1)
 refine .U rfl<| .aj rfl (IN (by omega))<| .skip<| .U rfl ?_
 exact aT (k+1) ⟨s3,by omega⟩
theorem Iq (g:Nat) (v:Value) (l:List Nat) (N a x:Nat) (w:World) (hc:w.cell? ⟨g,0,none⟩=some v) (hc1:w.cell? ⟨g,1,none⟩=some (.int .i64 (N:Int))) (hv:RdL w v (aa .u8) l) (hb:∀ x∈l,x<256) (hN:N<=8*l.length) (hn:l.length<=1000000000) (hx0:0<x) (hx:x<2^63) (ha:a+(2*(Lib.bitLen x-1)+1)<=N) (hg:FW l a x):
  CallsV prog 220 [(.pointer (some ⟨g,0,none⟩)),(.int .i64 a)] w λ r w'=>r= .tuple #[.int .u64 (x:Int),.int .i64 ((a+(2*(Lib.bitLen x-1)+1):Nat):Int),.int .i64 ((0:Nat):Int)]/\Sat w [] w':=by
 refine cg func220 rfl λ hs0=> .Z rfl<| .seq ?_
 obtain ⟨hb1,hb2,hb3⟩:=dz hx0 (by omega)
 have hb4:=bitLen_le hx
 refine .region<| .cp 2 hs0 (CM _ _ (l) (N) (a) ((Lib.bitLen x-1)) _ (hs0.ext _ _ hc) (hs0.ext _ _ hc1) (hv.ext hs0.ext) (hb) (hN) (hn) (by omega) (by omega) (hg.1) (hg.2.1)) rfl λ _ s1=> .Z rfl<| .seq<| .Z rfl<| .aj rfl (IN (by simp))<| .skip<| .h<| .cp 6 s1 (qC _ _ (l) (N) ((a+(Lib.bitLen x-1))) (((Lib.bitLen x-1)+1)) _ (s1.ext _ _ hc) (s1.ext _ _ hc1) (hv.ext s1.ext) (hb) (hN) (hn) (by omega) (by omega)) rfl λ _ s2=> .Z rfl<| .seq<| .Z rfl<| .aj rfl (rfl)<| .skip<| .Z rfl<| .ret ?_
 show aL _ _ _ _ _ _
 refine ie rfl rfl rfl rfl ?_
 rw [show Lib.bitLen x-1+1=Lib.bitLen x by omega,hg.2.2]
 exact ⟨rfl,s2⟩
theorem Ir (w0 w:World) (cs:List Chunk) (g:Nat) (v:Value) (by_:List Nat) (N pos x:Nat) (hs:Sat w0 ([aq g 274 [v,.int .i64 (N:Int),.int .i64 (pos:Int)],cL v 5 (aa .u8) by_]++cs) w) (hb:∀ x∈by_,x<256) (hN:N<=8*by_.length) (hn:by_.length<=1000000000) (hx0:0<x) (hx:x<2^32) (ha:pos+(fe x).length<=N) (hd:FX by_ pos x):
  CallsV prog 171 [(.pointer (some ⟨g,0,none⟩))] w λ r w'=>r= .tuple #[.int .u64 (x:Int),.int .i64 ((0:Nat):Int)]/\Sat w0 ([aq g 274 [v,.int .i64 (N:Int),.int .i64 ((pos+(fe x).length:Nat):Int)],cL v 5 (aa .u8) by_]++cs) w':=by
 obtain ⟨hb1,hb2,hb3⟩:=dz hx0 (by omega)
 have hb4:=bitLen_le hx
 have hb5:=bitLen_le (v:=Lib.bitLen x) (n:=6) (by omega)
 have hb6:=(dz (v:=Lib.bitLen x) (by omega) (by omega)).1
 have hdl:=nE x
 have hp32:2^(Lib.bitLen x-1)<=2^31:=Qg (by decide) (by omega)
 have hml:=RY x (R1 (Lib.bitLen x-1))
 have hbn:=rF by_ (pos+(2*(Lib.bitLen (Lib.bitLen x)-1)+1)) (Lib.bitLen x-1)
 refine ai func171 rfl rfl ?_
 refine .Z rfl<| .h<| .ld 4 hs 0 rfl<| .cm 0 hs (Iq _ _ (by_) (N) (pos) ((Lib.bitLen x)) _ (hs.cell (i:=0) (j:=0) rfl rfl) (hs.cell (i:=0) (j:=1) rfl rfl) (hs.ah 1 rfl) (hb) (hN) (hn) (by omega) (by omega) (by omega) (hd.1)) rfl λ _ s1=> .Z rfl<| .seq<| .Z rfl<| .aj rfl (IN (by simp))<| .skip<| .seq<| .Z rfl<| .aj rfl (IN (by omega))<| .skip<| .Z rfl<| .h<| .cm 3 s1 (qC _ _ (by_) (N) ((pos+(2*(Lib.bitLen (Lib.bitLen x)-1)+1))) (((Lib.bitLen x)-1)) _ (s1.cell (i:=0) (j:=0) rfl rfl) (s1.cell (i:=0) (j:=1) rfl rfl) (s1.ah 1 rfl) (hb) (hN) (hn) (by omega) (by omega)) rfl λ _ s2=> .Z rfl<| .seq<| .Z rfl<| .aj rfl (rfl)<| .skip<| .h<| .st 6 s2 0 rfl λ _ s3 _=> ?_
 have s3d:=s3.sn
 refine .nil<| .Z rfl<| .cj rfl rfl rfl ?_
 have he:1*2^(Lib.bitLen x-1)%2^64|||sL by_ (pos+(2*(Lib.bitLen (Lib.bitLen x)-1)+1)) (Lib.bitLen x-1)=x:=by
  rw [hd.2,Q5 (show 1*2^(Lib.bitLen x-1)<2^64 by omega),Nat.or_comm,nC hml]
  have:=Ji hx0 (by omega)
  omega
 have hp:pos+(fe x).length=pos+(2*(Lib.bitLen (Lib.bitLen x)-1)+1)+(Lib.bitLen x-1):=by rw [hdl];omega
 rw [hp]
 exact ⟨If (λ q:Nat=>Value.tuple #[.int .u64 (q:Int),.int .i64 ((0:Nat):Int)]) he,s3d⟩
end Go.Proofs.YthffkcnbdehceaaGreat
