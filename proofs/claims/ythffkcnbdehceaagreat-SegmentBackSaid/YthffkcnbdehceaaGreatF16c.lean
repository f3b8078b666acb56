/-The walks of the functions of F16c,printed by our own program (kwgen.py) out of our descriptions (base.py). -/
import Derived.Test.YthffkcnbdehceaaGreatF16
import Derived.Test.YthffkcnbdehceaaGreatM16a
import Derived.Test.YthffkcnbdehceaaGreatM15u
open List
open Go.Proofs.Tryz
set_option linter.unusedVariables false
set_option linter.unusedSimpArgs false
set_option linter.unusedSectionVars false
namespace Go.Proofs.YthffkcnbdehceaaGreat
open Go.RowKit Go.Kw
set_option maxRecDepth 100000
theorem eZ (v:Value) (l:List Nat) (w:World) (hv:RdL w v (a8 .u8) l) (hb:∀ x∈l,x<256):
  CallsV prog 206 [v] w λ r w'=>r= .tuple #[.int .u64 ((ga l).1:Nat),.int .i64 ((ga l).2.1:Nat),.int .i64 ((ga l).2.2:Nat)]/\Sat w [] w':=by
 refine cc func206 rfl λ hs0=> .Z rfl<| .seq<| .h<| .ln 1 (hv.ext hs0.ext) rfl<| .Z rfl<| .block<| .lq [7,8] rfl (α:=Nat×Nat) (λ (k,u)=>[(2,(.int .u64 u)),(9,(.int .i64 k))]) (λ (k,u) w'=>Sat w [] w'/\(k<=l.length)/\(Al k u (l.drop k)=Al 0 0 l)/\(u<2^(7*k))/\(k<=9)) (λ (k,u)=>l.length-k) (0,0) ⟨hs0,Nat.zero_le _,rfl,by decide,by omega⟩ ?_
 rintro ⟨k,u⟩ w1 ⟨s1,hk,hinv,hvk,hk9⟩
 refine .Z rfl<| .seq<| .ab rfl (λ c1=> ?_) λ c1=> ?_
 ·refine .skip<| .seq<| .block<| .seq ?_
  obtain ⟨x,hx⟩:∃ x,(l)[k]? =some x:=⟨_,getElem?_eq_getElem c1⟩
  refine .region<| .ix 1 (hv.ext s1.ext) rfl<| .le 0 (hv.ext s1.ext) hx rfl<| .Z rfl<| .seq<| .seq ?_
  have hdk:=qx hx
  have hx256:=hb x (aa hx)
  have hstep:=hinv
  rw [hdk,Al] at hstep
  refine .bH 19 ((k=9)/\(x≠1)) ?_ ?_
  ·refine .z 3 rfl<| .B 16 rfl (λ g1=> ?_) λ g1=> ?_
   ·refine .M rfl (by simp [g1])
   refine .M rfl (by simp [g1])
  refine .ab rfl (λ c2=> ?_) λ c2=> ?_
  ·refine .Z rfl<| .ret ?_
   show aK _ _ _ _ _ _
   refine iC rfl rfl rfl rfl ?_
   rw [if_pos (by simpa using c2)] at hstep
   exact ⟨by rw [ga,<-hstep]<;>rfl,s1⟩
  refine .skip<| .seq ?_
  have h9':¬ (k=9/\x≠1):=by simpa using c2
  rw [if_neg h9'] at hstep
  have hor:=Mz (c:=x) hvk hk9 h9'
  have hbd:=EC (c:=x) hvk
  have hsm:=wu (c:=x) hk9 h9'
  have hpk:2^(7*k)<=2^63:=Nat.pow_le_pow_right (by decide) (by omega)
  refine .U rfl<| .Z rfl<| .ab rfl (λ c3=> ?_) λ c3=> ?_
  ·refine .seq<| .seq<| .bH 35 ((x=0)/\(0<k)) ?_ ?_
   ·refine .z 3 rfl<| .B 32 rfl (λ g2=> ?_) λ g2=> ?_
    ·refine .M rfl (by simp [g2])
    refine .M rfl (by simp [g2])
   refine .ab rfl (λ c4=> ?_) λ c4=> ?_
   ·refine .Z rfl<| .ret ?_
    show aK _ _ _ _ _ _
    refine iC rfl rfl rfl rfl ?_
    rw [if_pos c3,if_pos (by simpa using c4)] at hstep
    exact ⟨by rw [ga,<-hstep]<;>rfl,s1⟩
   refine .skip<| .Z rfl<| .ret ?_
   show aK _ _ _ _ _ _
   refine iC rfl rfl rfl rfl ?_
   rw [if_pos c3,if_neg (by simpa using c4)] at hstep
   exact ⟨by rw [ga,<-hstep,<-hor]<;>rfl,s1⟩
  refine .skip<| .U rfl ?_
  exact bc (k+1,(u|||((x%2^7)*2^(7*k)%2^64))) ⟨s1,by omega,by rw [hor,<-hstep,if_neg c3],by rw [hor];exact hbd,by rcases Nat.lt_or_ge k 9 with h|h;(omega);exact absurd ⟨(by omega:k=9),(by omega:x≠1)⟩ h9'⟩
 refine .ao<| .Z rfl<| .ret ?_
 show aK _ _ _ _ _ _
 refine iC rfl rfl rfl rfl ?_
 rw [show k=l.length by omega,drop_length,Al] at hinv
 exact ⟨by rw [ga,<-hinv]<;>rfl,s1⟩
theorem mF (w0 w:World) (cs:List Chunk) (g:Nat) (bv:Value) (ok:Bool) (bl:List Nat) (lim:Nat) (hs:Sat w0 ([aj g 327 [bv,.bool ok]]++cs) w) (hb:RdL w0 bv (a8 .u8) bl) (hbb:∀ x∈bl,x<256) (hn:bl.length<=1000000000) (hlim:lim<=1000000000000):
  CallsV prog 267 [(.pointer (some ⟨g,0,none⟩)),(.int .i64 lim)] w λ r w'=>r= .int .i64 ((aU ok bl lim).1:Nat)/\∃ bv',RdL w0 bv' (a8 .u8) (aU ok bl lim).2.2/\Sat w0 ([aj g 327 [bv',.bool (aU ok bl lim).2.1]]++cs) w':=by
 refine ae func267 rfl rfl ?_
 refine .Z rfl<| .h<| .ld 3 hs 0 rfl<| .cm 0 hs (eZ _ (bl) _ (hb.ext hs.ext) (hbb)) rfl λ _ s1=> .Z rfl<| .seq<| .seq<| .bH 31 ((((!ok)=true)\/((ga bl).2.2≠0))\/(lim<(ga bl).1)) ?_ ?_
 ·refine .ld 3 s1 0 rfl<| .e rfl (.cB rfl)<| .z 1 rfl ?_
  by_cases g1:(!ok)=true
  ·refine .Gt 22 rfl (g1)<| .M rfl (by simp [g1])
  refine .Gf 22 rfl (by simpa using g1)<| .z 4 rfl<| .B 26 rfl (λ g2=> ?_) λ g2=> ?_
  ·refine .M rfl (by simp [g1,g2])
  refine .M rfl (by simp [g1,g2])
 refine .ab rfl (λ c1=> ?_) λ c1=> ?_
 ·refine .h<| .st 3 s1 0 rfl λ _ s2 _=> ?_
  have s2d:=s2.sn
  refine .nil<| .Z rfl<| .aC rfl rfl ?_
  have hN:aU ok bl lim=(0,false,bl):=by rw [aU,if_pos (by simpa [or_assoc] using c1)]
  exact ⟨by rw [hN]<;>rfl,_,by rw [hN];exact hb,by rw [hN];exact s2d⟩
 refine .skip<| .seq ?_
 have hule:=pL bl
 refine .region<| .ld 4 s1 0 rfl<| .a 1 rfl (.bk (E:=a8 .u8) (a:=(ga bl).2.1) (c:=(bl).length) cg rfl (hb.ext s1.ext) ⟨_,rfl⟩ rfl (hule) (Nat.le_refl _))<| .st 2 s1 0 rfl (h1:=(((hb.ext s1.ext)).sub (a:=(ga bl).2.1) (b:=(bl).length) (hule) (Nat.le_refl _)).a7) λ _ s3 _=> ?_
 have s3d:=s3.sn
 refine .nil<| .seq ?_
 have hlv:(ga bl).1<=lim:=Nat.le_of_not_lt λ h=>c1 (by simp [h])
 refine .U rfl<| .aC rfl rfl ?_
 have hN:aU ok bl lim=((ga bl).1,true,bl.drop (ga bl).2.1):=by rw [aU,if_neg (by simpa [or_assoc] using c1)]
 have hok:ok=true:=by cases ok<;>simp_all
 subst hok
 refine ⟨by rw [hN],_,?_,by rw [hN];exact s3d⟩
 rw [hN]
 have hsub:=hb.sub (a:=(ga bl).2.1) (b:=bl.length) (pL bl) (Nat.le_refl _)
 rw [take_length] at hsub
 exact hsub
theorem IU (w0 w:World) (cs:List Chunk) (g:Nat) (bv:Value) (ok:Bool) (bl:List Nat) (lim:Nat) (hs:Sat w0 ([aj g 264 [bv,.bool ok]]++cs) w) (hb:RdL w0 bv (a8 .u8) bl) (hbb:∀ x∈bl,x<256) (hn:bl.length<=1000000000) (hlim:lim<=1000000000000):
  CallsV prog 242 [(.pointer (some ⟨g,0,none⟩)),(.int .i64 lim)] w λ r w'=>r= .int .i64 ((aU ok bl lim).1:Nat)/\∃ bv',RdL w0 bv' (a8 .u8) (aU ok bl lim).2.2/\Sat w0 ([aj g 264 [bv',.bool (aU ok bl lim).2.1]]++cs) w':=by
 refine ae func242 rfl rfl ?_
 refine .Z rfl<| .h<| .ld 3 hs 0 rfl<| .cm 0 hs (eZ _ (bl) _ (hb.ext hs.ext) (hbb)) rfl λ _ s1=> .Z rfl<| .seq<| .seq<| .bH 31 ((((!ok)=true)\/((ga bl).2.2≠0))\/(lim<(ga bl).1)) ?_ ?_
 ·refine .ld 3 s1 0 rfl<| .e rfl (.cB rfl)<| .z 1 rfl ?_
  by_cases g1:(!ok)=true
  ·refine .Gt 22 rfl (g1)<| .M rfl (by simp [g1])
  refine .Gf 22 rfl (by simpa using g1)<| .z 4 rfl<| .B 26 rfl (λ g2=> ?_) λ g2=> ?_
  ·refine .M rfl (by simp [g1,g2])
  refine .M rfl (by simp [g1,g2])
 refine .ab rfl (λ c1=> ?_) λ c1=> ?_
 ·refine .h<| .st 3 s1 0 rfl λ _ s2 _=> ?_
  have s2d:=s2.sn
  refine .nil<| .Z rfl<| .aC rfl rfl ?_
  have hN:aU ok bl lim=(0,false,bl):=by rw [aU,if_pos (by simpa [or_assoc] using c1)]
  exact ⟨by rw [hN]<;>rfl,_,by rw [hN];exact hb,by rw [hN];exact s2d⟩
 refine .skip<| .seq ?_
 have hule:=pL bl
 refine .region<| .ld 4 s1 0 rfl<| .a 1 rfl (.bk (E:=a8 .u8) (a:=(ga bl).2.1) (c:=(bl).length) cg rfl (hb.ext s1.ext) ⟨_,rfl⟩ rfl (hule) (Nat.le_refl _))<| .st 2 s1 0 rfl (h1:=(((hb.ext s1.ext)).sub (a:=(ga bl).2.1) (b:=(bl).length) (hule) (Nat.le_refl _)).a7) λ _ s3 _=> ?_
 have s3d:=s3.sn
 refine .nil<| .seq ?_
 have hlv:(ga bl).1<=lim:=Nat.le_of_not_lt λ h=>c1 (by simp [h])
 refine .U rfl<| .aC rfl rfl ?_
 have hN:aU ok bl lim=((ga bl).1,true,bl.drop (ga bl).2.1):=by rw [aU,if_neg (by simpa [or_assoc] using c1)]
 have hok:ok=true:=by cases ok<;>simp_all
 subst hok
 refine ⟨by rw [hN],_,?_,by rw [hN];exact s3d⟩
 rw [hN]
 have hsub:=hb.sub (a:=(ga bl).2.1) (b:=bl.length) (pL bl) (Nat.le_refl _)
 rw [take_length] at hsub
 exact hsub
theorem C0 (g:Nat) (v:Value) (l:List Nat) (a:Nat) (w:World) (hc:w.cell? ⟨g,0,none⟩=some v) (hv:RdL w v (a8 .u8) l) (hb:∀ x∈l,x<256) (ha:a<8*l.length) (hn:l.length<=1000000000):
  CallsV prog 249 [(.pointer (some ⟨g,0,none⟩)),(.int .i64 a)] w λ r w'=>r= .int .u64 (rb l a:Nat)/\Sat w [] w':=by
 refine cc func249 rfl λ hs0=> .Z rfl<| .seq ?_
 obtain ⟨x,hx⟩:∃ x,l[a/2^3]? =some x:=⟨_,getElem?_eq_getElem (by omega)⟩
 have hx256:=hb x (aa hx)
 have hxd:=Nat.div_le_self x (2^(7-a%2^3))
 refine .region<| .a 3 rfl (.load BM rfl (hs0.ext _ _ hc))<| .ix 2 (hv.ext hs0.ext) rfl<| .le 0 (hv.ext hs0.ext) hx rfl<| .a 1 rfl (.Ig (b:=7) 3 rfl rfl (by decide) (by omega) (by decide))<| .Z rfl<| .aC rfl rfl ?_
 refine ⟨?_,hs0⟩
 have hd:l.getD (a/8) 0=x:=getD_some hx
 rw [rb,hd]
theorem sE (g:Nat) (v:Value) (l:List Nat) (N a m:Nat) (w:World) (hc:w.cell? ⟨g,0,none⟩=some v) (hc1:w.cell? ⟨g,1,none⟩=some (.int .i64 (N:Int))) (hv:RdL w v (a8 .u8) l) (hb:∀ x∈l,x<256) (hN:N<=8*l.length) (hn:l.length<=1000000000) (hm:m<=63) (ham:a+m<=N):
  CallsV prog 221 [(.pointer (some ⟨g,0,none⟩)),(.int .i64 a),(.int .i64 m)] w λ r w'=>r= .tuple #[.int .u64 (ou l a m:Nat),.bool true]/\Sat w [] w':=by
 refine cc func221 rfl λ hs0=> .Z rfl<| .seq<| .h<| .cp 3 hs0 (mD _ (N) _ (hs0.ext _ _ hc1)) rfl λ _ s1=> .Z rfl<| .ak rfl (decide_eq_false (by omega))<| .skip<| .Z rfl<| .seq<| .Z rfl<| .block<| .lq [0,1,18] rfl (α:=Nat) (λ k=>[(8,(.int .u64 (ou l a k))),(19,(.int .i64 k))]) (λ k w'=>Sat w [] w'/\(k<=m)) (λ k=>m-k) 0 ⟨s1,Nat.zero_le _⟩ ?_
 rintro k w2 ⟨s2,hk⟩
 refine .Z rfl<| .seq<| .ab rfl (λ c1=> ?_) λ c1=> ?_
 ·refine .skip<| .seq<| .block<| .Z rfl ?_
  have hbl:=uc l a k
  have hp63:2^k<=2^62:=Nat.pow_le_pow_right (by decide) (by omega)
  have hrl:=Hd l (a+k)
  have hor:=He (v:=ou l a k) hrl (by omega)
  refine .region<| .cp 8 s2 (C0 _ _ (l) ((a+k)) _ (s2.ext _ _ hc) (hv.ext s2.ext) (hb) (by omega) (hn)) rfl λ _ s3=> .Z rfl<| .U rfl ?_
  exact ⟨k+1,⟨congrArg some (congrArg (Value.int .u64) (congrArg (λ (q:Nat)=>(q:Int)) hor)),rfl,rfl,rfl,rfl,trivial⟩,⟨s3,by omega⟩,by omega⟩
 refine .ao<| .Z rfl<| .bG rfl rfl rfl ?_
 rw [show k=m by omega]
 exact ⟨rfl,s2⟩
theorem Fa (g:Nat) (N a m:Nat) (w:World) (hc1:w.cell? ⟨g,1,none⟩=some (.int .i64 (N:Int))) (hN:N<=1000000000000) (ha:a<=N) (hm:m<=63) (ham:N<a+m):
  CallsV prog 221 [(.pointer (some ⟨g,0,none⟩)),(.int .i64 a),(.int .i64 m)] w λ r w'=>r= .tuple #[.int .u64 ((0:Nat):Int),.bool false]/\Sat w [] w':=by
 refine cc func221 rfl λ hs0=> .Z rfl<| .seq<| .h<| .cp 3 hs0 (mD _ (N) _ (hs0.ext _ _ hc1)) rfl λ _ s1=> .Z rfl<| .dD rfl (decide_eq_true (by omega))<| .Z rfl<| .bG rfl rfl rfl ?_
 exact ⟨rfl,s1⟩
theorem yl (w0 w:World) (cs:List Chunk) (g:Nat) (v:Value) (by_:List Nat) (N pos m:Nat) (hs:Sat w0 ([aj g 274 [v,.int .i64 (N:Int),.int .i64 (pos:Int)],cL v 5 (a8 .u8) by_]++cs) w) (hb:∀ x∈by_,x<256) (hN:N<=8*by_.length) (hn:by_.length<=1000000000) (hm:m<=63) (ham:pos+m<=N):
  CallsV prog 279 [(.pointer (some ⟨g,0,none⟩)),(.int .i64 m)] w λ r w'=>r= .tuple #[.int .u64 (ou by_ pos m:Nat),.int .i64 ((0:Nat):Int)]/\Sat w0 ([aj g 274 [v,.int .i64 (N:Int),.int .i64 ((pos+m:Nat):Int)],cL v 5 (a8 .u8) by_]++cs) w':=by
 refine ae func279 rfl rfl ?_
 refine .Z rfl<| .seq<| .seq<| .bH 13 ((m<0)\/(64<m)) ?_ ?_
 ·refine .z 3 rfl<| .B 10 rfl (λ g1=> ?_) λ g1=> ?_
  ·refine .M rfl (by simp [g1])
  refine .M rfl (by simp [g1])
 refine .ak rfl (decide_eq_false (by omega))<| .skip<| .h<| .ld 4 hs 0 rfl<| .cm 1 hs (sE _ _ (by_) (N) (pos) (m) _ (hs.cell (i:=0) (j:=0) rfl rfl) (hs.cell (i:=0) (j:=1) rfl rfl) (hs.ah 1 rfl) (hb) (hN) (hn) (hm) (ham)) rfl λ _ s1=> .Z rfl<| .seq<| .Z rfl<| .ak rfl (rfl)<| .skip<| .h<| .ld 3 s1 0 rfl<| .st 4 s1 0 rfl λ _ s2 _=> ?_
 have s2d:=s2.sn
 refine .nil<| .Z rfl<| .bG rfl rfl rfl ?_
 exact ⟨rfl,s2d⟩
theorem Fb (w0 w:World) (cs:List Chunk) (g:Nat) (v:Value) (by_:List Nat) (N pos m:Nat) (hs:Sat w0 ([aj g 274 [v,.int .i64 (N:Int),.int .i64 (pos:Int)],cL v 5 (a8 .u8) by_]++cs) w) (hb:∀ x∈by_,x<256) (hN:N<=8*by_.length) (hn:by_.length<=1000000000) (hm:m<=63) (hp:pos<=N) (ham:N<pos+m):
  CallsV prog 279 [(.pointer (some ⟨g,0,none⟩)),(.int .i64 m)] w λ r w'=>r= .tuple #[.int .u64 ((0:Nat):Int),.int .i64 ((10:Nat):Int)]/\Sat w0 ([aj g 274 [v,.int .i64 (N:Int),.int .i64 (pos:Int)],cL v 5 (a8 .u8) by_]++cs) w':=by
 refine ae func279 rfl rfl ?_
 refine .Z rfl<| .seq<| .seq<| .bH 13 ((m<0)\/(64<m)) ?_ ?_
 ·refine .z 3 rfl<| .B 10 rfl (λ g1=> ?_) λ g1=> ?_
  ·refine .M rfl (by simp [g1])
  refine .M rfl (by simp [g1])
 refine .ak rfl (decide_eq_false (by omega))<| .skip<| .h<| .ld 4 hs 0 rfl<| .cm 1 hs (Fa _ (N) (pos) (m) _ (hs.cell (i:=0) (j:=1) rfl rfl) (by omega) (hp) (by omega) (ham)) rfl λ _ s1=> .Z rfl<| .seq<| .Z rfl<| .dD rfl (rfl)<| .Z rfl<| .bG rfl rfl rfl ?_
 exact ⟨rfl,s1⟩
theorem IV (g m:Nat) (w:World) (hc:w.cell? ⟨g,2,none⟩=some (.int .i64 (m:Int))):
  CallsV prog 271 [(.pointer (some ⟨g,0,none⟩))] w λ r w'=>r= .int .i64 (m:Int)/\Sat w [] w':=by
 refine cc func271 rfl λ hs0=> .Z rfl<| .h<| .a 3 rfl (.load fN rfl (hs0.ext _ _ hc))<| .Z rfl<| .aC rfl rfl ?_
 exact ⟨rfl,hs0⟩
theorem iY (v:Value) (l:List Nat) (m:Nat) (w:World) (hv:RdL w v (a8 .u8) l) (hm:m<=8*l.length) (hn:l.length<=1000000000):
  CallsV prog 169 [v,(.int .i64 m)] w λ r w'=>∃ g bv,r= .tuple #[.pointer (some ⟨g,0,none⟩),.int .i64 ((0:Nat):Int)]/\Sat w [aj g 274 [bv,.int .i64 (m:Int),.int .i64 ((0:Nat):Int)],cL bv 5 (a8 .u8) (l.take ((m+7)/8))] w':=by
 refine cc func169 rfl λ hs0=> .Z rfl<| .seq<| .seq<| .bH 14 ((m<0)\/((8*l.length)<m)) ?_ ?_
 ·refine .z 3 rfl<| .B 8 rfl (λ g1=> ?_) λ g1=> ?_
  ·refine .M rfl (by simp [g1])
  refine .ln 2 (hv.ext hs0.ext) rfl<| .M rfl (by simp [g1])
 refine .ak rfl (decide_eq_false (by omega))<| .skip<| .h<| .f rfl (.l7 (a8 .u8) cg hs0 λ v1 _ s1 _=> ?_)
 refine .a 3 rfl (.quo (b:=8) rfl rfl (by omega) (by unfold bo;omega))<| .e rfl (.bk (E:=a8 .u8) (a:=0) (c:=((m+7)/8)) cg rfl (hv.ext s1.ext) rfl ⟨_,rfl⟩ (by omega) (by omega))<| .ap 0 s1 0 (((hv.ext s1.ext)).sub (a:=0) (b:=((m+7)/8)) (by omega) (by omega)) rfl λ v2 _ s2 _=> .a 1 rfl (.build Oq rfl ⟨(s2.ah 0 rfl).a7,rfl,trivial⟩ rfl)<| .e rfl (.BS Ow rfl rfl)<| .bx 0 s2 rfl λ b1 _ s3 _ _=> .Z rfl<| .bG rfl rfl rfl ?_
 have s4:=(Sat.order [1,0] (by decide) s3.tail).aF.pk [0,1]
 rw [show (l.take ((m+7)/8)).drop 0=l.take ((m+7)/8) from rfl] at s4
 exact ⟨_,_,rfl,s4⟩
theorem wT (v u:Value) (a b:List Nat) (w:World) (hv:RdL w v (a8 .u8) a) (hu:RdL w u (a8 .u8) b) (ha:∀ x∈a,x<256) (hb:∀ x∈b,x<256):
  CallsV prog 209 [v,u] w λ r w'=>r= .bool (decide (a=b))/\Sat w [] w':=by
 refine cc func209 rfl λ hs0=> .Z rfl<| .h<| .a 1 rfl (.dw underlying45 underlying9 underlying5 rfl (hv.ext hs0.ext))<| .a 1 rfl (.dw underlying45 underlying9 underlying5 rfl (hu.ext hs0.ext))<| .e rfl (.fh rfl rfl)<| .Z rfl<| .aC rfl rfl ?_
 refine ⟨congrArg Value.bool ?_,hs0⟩
 by_cases hab:a=b
 ·subst hab;simp
 rw [decide_eq_false hab,decide_eq_false λ h=>hab ((vJ ha hb).1 h)]
theorem IW (w0 w:World) (cs:List Chunk) (g:Nat) (v:Value) (bits:List Bool) (x:Nat) (hs:Sat w0 ([aj g 256 [v,.int .i64 (((bits).length:Nat):Int)],cL v 5 (a8 .u8) (aJ (bits))]++cs) w) (h0:0<x) (hx:x<2^64) (hn:bits.length<=900000000):
  CallsV prog 191 [(.pointer (some ⟨g,0,none⟩)),(.int .u64 x)] w λ r w'=>r= .int .i64 0/\∃ v',Sat w0 ([aj g 256 [v',.int .i64 (((bits++ir x).length:Nat):Int)],cL v' 5 (a8 .u8) (aJ (bits++ir x))]++cs) w':=by
 obtain ⟨hb1,hb2,hb3⟩:=cj h0 (by omega)
 have hb4:=bitLen_le64 x
 refine ae func191 rfl rfl ?_
 refine .Z rfl<| .seq<| .Z rfl<| .ak rfl (decide_eq_false (by omega))<| .skip<| .h<| .cm 1 hs (mC (x) _ (by omega)) rfl λ _ s1=> .Z rfl<| .h<| .z 2 rfl ?_
 have A1:=s1.oc [0,1] 2
 refine .c 0 (rn _ _ _ _ _ (bits) (0) (((Lib.bitLen (x))-1)) A1 (by omega) (by omega) (by omega)) rfl λ r2 _ h2=> ?_
 obtain ⟨rfl,wv1,p2⟩:=h2
 have s2:=p2.join.od [0,1]
 refine .nil<| .h<| .z 4 rfl ?_
 have A2:=s2.oc [0,1] 2
 refine .c 0 (rn _ _ _ _ _ (bits++aZ (0) (((Lib.bitLen (x))-1))) (x) ((((Lib.bitLen (x))-1)+1)) A2 (hx) (by omega) (by simp only [length_append,aW];omega)) rfl λ r3 _ h3=> ?_
 obtain ⟨rfl,wv2,p3⟩:=h3
 have s3:=p3.join.od [0,1]
 refine .nil<| .Z rfl<| .aC rfl rfl ?_
 have he:bits++aZ (0) (((Lib.bitLen (x))-1))++aZ (x) ((((Lib.bitLen (x))-1)+1))=bits++ir x:=by unfold ir;rw [show Lib.bitLen x-1+1=Lib.bitLen x by omega,append_assoc]
 rw [he] at s3
 exact ⟨rfl,_,s3⟩
theorem C2 (w0 w:World) (cs:List Chunk) (g:Nat) (v:Value) (bits:List Bool) (x:Nat) (hs:Sat w0 ([aj g 256 [v,.int .i64 (((bits).length:Nat):Int)],cL v 5 (a8 .u8) (aJ (bits))]++cs) w) (h0:0<x) (hx:x<2^32) (hn:bits.length<=900000000):
  CallsV prog 131 [(.pointer (some ⟨g,0,none⟩)),(.int .u64 x)] w λ r w'=>r= .int .i64 0/\∃ v',Sat w0 ([aj g 256 [v',.int .i64 (((bits++ff x).length:Nat):Int)],cL v' 5 (a8 .u8) (aJ (bits++ff x))]++cs) w':=by
 obtain ⟨hb1,hb2,hb3⟩:=cj h0 (by omega)
 have hb4:=bitLen_le64 x
 have hb5:=bitLen_le hx
 have hb6:=ue (Lib.bitLen x-1+1)
 have hb7:=bitLen_le64 (Lib.bitLen x-1+1)
 refine ae func131 rfl rfl ?_
 refine .Z rfl<| .seq<| .Z rfl<| .ak rfl (decide_eq_false (by omega))<| .skip<| .h<| .cm 1 hs (mC (x) _ (by omega)) rfl λ _ s1=> .Z rfl<| .h<| .z 4 rfl ?_
 have A1:=s1.oc [0,1] 2
 refine .c 0 (IW _ _ _ _ _ (bits) ((((Lib.bitLen (x))-1)+1)) A1 (by omega) (by omega) (by omega)) rfl λ r2 _ h2=> ?_
 obtain ⟨rfl,wv1,p2⟩:=h2
 have s2:=p2.join.od [0,1]
 refine .nil<| .h<| .z 3 rfl ?_
 have A2:=s2.oc [0,1] 2
 refine .c 0 (rn _ _ _ _ _ (bits++ir ((((Lib.bitLen (x))-1)+1))) (x) (((Lib.bitLen (x))-1)) A2 (by omega) (by omega) (by simp only [length_append];omega)) rfl λ r3 _ h3=> ?_
 obtain ⟨rfl,wv2,p3⟩:=h3
 have s3:=p3.join.od [0,1]
 refine .nil<| .Z rfl<| .aC rfl rfl ?_
 have he:bits++ir ((((Lib.bitLen (x))-1)+1))++aZ (x) (((Lib.bitLen (x))-1))=bits++ff x:=by unfold ff;rw [show Lib.bitLen x-1+1=Lib.bitLen x by omega,append_assoc]
 rw [he] at s3
 exact ⟨rfl,_,s3⟩
theorem DJ (g:Nat) (v:Value) (l:List Nat) (N a z:Nat) (w:World) (hc:w.cell? ⟨g,0,none⟩=some v) (hc1:w.cell? ⟨g,1,none⟩=some (.int .i64 (N:Int))) (hv:RdL w v (a8 .u8) l) (hb:∀ x∈l,x<256) (hN:N<=8*l.length) (hn:l.length<=1000000000) (hz:z<=63) (hlt:a+z<N) (h0:∀ k,k<z->rb l (a+k)=0) (h1:rb l (a+z)=1):
  CallsV prog 248 [(.pointer (some ⟨g,0,none⟩)),(.int .i64 a),(.int .i64 (63:Nat))] w λ r w'=>r= .tuple #[.int .i64 (z:Int),.int .i64 ((0:Nat):Int)]/\Sat w [] w':=by
 refine cc func248 rfl λ hs0=> .Z rfl<| .Z rfl<| .block<| .lq [0,1,2] rfl (α:=Nat) (λ k=>[(8,(.int .i64 k))]) (λ k w'=>Sat w [] w'/\(k<=z)) (λ k=>z-k) 0 ⟨hs0,Nat.zero_le _⟩ ?_
 rintro k w1 ⟨s1,hk⟩
 refine .seq<| .block<| .seq<| .h<| .cp 6 s1 (mD _ (N) _ (s1.ext _ _ hc1)) rfl λ _ s2=> .Z rfl<| .ak rfl (decide_eq_false (by omega))<| .skip<| .seq<| .h<| .cp 6 s2 (C0 _ _ (l) ((a+k)) _ (s2.ext _ _ hc) (hv.ext s2.ext) (hb) (by omega) (hn)) rfl λ _ s3=> .Z rfl<| .ab rfl (λ c1=> ?_) λ c1=> ?_
 ·refine .Z rfl<| .bG rfl rfl rfl ?_
  have hkz:k=z:=(Nat.lt_or_ge k z).elim (λ q=>by have:=h0 k q;omega) λ q=>by omega
  subst hkz
  exact ⟨rfl,s3⟩
 refine .skip<| .seq ?_
 have hkz:k≠z:=λ e=>c1 (by rw [e];exact h1)
 refine .U rfl<| .ak rfl (decide_eq_false (by omega))<| .skip<| .U rfl ?_
 exact bc (k+1) ⟨s3,by omega⟩
theorem IX (g:Nat) (v:Value) (l:List Nat) (N a x:Nat) (w:World) (hc:w.cell? ⟨g,0,none⟩=some v) (hc1:w.cell? ⟨g,1,none⟩=some (.int .i64 (N:Int))) (hv:RdL w v (a8 .u8) l) (hb:∀ x∈l,x<256) (hN:N<=8*l.length) (hn:l.length<=1000000000) (hx0:0<x) (hx:x<2^63) (ha:a+(2*(Lib.bitLen x-1)+1)<=N) (hg:Hf l a x):
  CallsV prog 220 [(.pointer (some ⟨g,0,none⟩)),(.int .i64 a)] w λ r w'=>r= .tuple #[.int .u64 (x:Int),.int .i64 ((a+(2*(Lib.bitLen x-1)+1):Nat):Int),.int .i64 ((0:Nat):Int)]/\Sat w [] w':=by
 refine cc func220 rfl λ hs0=> .Z rfl<| .seq ?_
 obtain ⟨hb1,hb2,hb3⟩:=cj hx0 (by omega)
 have hb4:=bitLen_le hx
 refine .region<| .cp 2 hs0 (DJ _ _ (l) (N) (a) ((Lib.bitLen x-1)) _ (hs0.ext _ _ hc) (hs0.ext _ _ hc1) (hv.ext hs0.ext) (hb) (hN) (hn) (by omega) (by omega) (hg.1) (hg.2.1)) rfl λ _ s1=> .Z rfl<| .seq<| .Z rfl<| .ak rfl (decide_eq_false (by simp))<| .skip<| .h<| .cp 6 s1 (sE _ _ (l) (N) ((a+(Lib.bitLen x-1))) (((Lib.bitLen x-1)+1)) _ (s1.ext _ _ hc) (s1.ext _ _ hc1) (hv.ext s1.ext) (hb) (hN) (hn) (by omega) (by omega)) rfl λ _ s2=> .Z rfl<| .seq<| .Z rfl<| .ak rfl (rfl)<| .skip<| .Z rfl<| .ret ?_
 show aK _ _ _ _ _ _
 refine iC rfl rfl rfl rfl ?_
 rw [show Lib.bitLen x-1+1=Lib.bitLen x by omega,hg.2.2]
 exact ⟨rfl,s2⟩
theorem IY (w0 w:World) (cs:List Chunk) (g:Nat) (v:Value) (by_:List Nat) (N pos x:Nat) (hs:Sat w0 ([aj g 274 [v,.int .i64 (N:Int),.int .i64 (pos:Int)],cL v 5 (a8 .u8) by_]++cs) w) (hb:∀ x∈by_,x<256) (hN:N<=8*by_.length) (hn:by_.length<=1000000000) (hx0:0<x) (hx:x<2^32) (ha:pos+(ff x).length<=N) (hd:Hg by_ pos x):
  CallsV prog 171 [(.pointer (some ⟨g,0,none⟩))] w λ r w'=>r= .tuple #[.int .u64 (x:Int),.int .i64 ((0:Nat):Int)]/\Sat w0 ([aj g 274 [v,.int .i64 (N:Int),.int .i64 ((pos+(ff x).length:Nat):Int)],cL v 5 (a8 .u8) by_]++cs) w':=by
 obtain ⟨hb1,hb2,hb3⟩:=cj hx0 (by omega)
 have hb4:=bitLen_le hx
 have hb5:=bitLen_le (v:=Lib.bitLen x) (n:=6) (by omega)
 have hb6:=(cj (v:=Lib.bitLen x) (by omega) (by omega)).1
 have hdl:=zO x
 have hp32:2^(Lib.bitLen x-1)<=2^31:=Nat.pow_le_pow_right (by decide) (by omega)
 have hml:=Nat.mod_lt x (Nat.two_pow_pos (Lib.bitLen x-1))
 have hbn:=uc by_ (pos+(2*(Lib.bitLen (Lib.bitLen x)-1)+1)) (Lib.bitLen x-1)
 refine ae func171 rfl rfl ?_
 refine .Z rfl<| .h<| .ld 4 hs 0 rfl<| .cm 0 hs (IX _ _ (by_) (N) (pos) ((Lib.bitLen x)) _ (hs.cell (i:=0) (j:=0) rfl rfl) (hs.cell (i:=0) (j:=1) rfl rfl) (hs.ah 1 rfl) (hb) (hN) (hn) (by omega) (by omega) (by omega) (hd.1)) rfl λ _ s1=> .Z rfl<| .seq<| .Z rfl<| .ak rfl (decide_eq_false (by simp))<| .skip<| .seq<| .Z rfl<| .ak rfl (decide_eq_false (by omega))<| .skip<| .Z rfl<| .h<| .cm 3 s1 (sE _ _ (by_) (N) ((pos+(2*(Lib.bitLen (Lib.bitLen x)-1)+1))) (((Lib.bitLen x)-1)) _ (s1.cell (i:=0) (j:=0) rfl rfl) (s1.cell (i:=0) (j:=1) rfl rfl) (s1.ah 1 rfl) (hb) (hN) (hn) (by omega) (by omega)) rfl λ _ s2=> .Z rfl<| .seq<| .Z rfl<| .ak rfl (rfl)<| .skip<| .h<| .st 6 s2 0 rfl λ _ s3 _=> ?_
 have s3d:=s3.sn
 refine .nil<| .Z rfl<| .bG rfl rfl rfl ?_
 have he:1*2^(Lib.bitLen x-1)%2^64|||ou by_ (pos+(2*(Lib.bitLen (Lib.bitLen x)-1)+1)) (Lib.bitLen x-1)=x:=by
  rw [hd.2,Nat.mod_eq_of_lt (show 1*2^(Lib.bitLen x-1)<2^64 by omega),Nat.or_comm,rR hml]
  have:=xD hx0 (by omega)
  omega
 have hp:pos+(ff x).length=pos+(2*(Lib.bitLen (Lib.bitLen x)-1)+1)+(Lib.bitLen x-1):=by rw [hdl];omega
 rw [hp]
 exact ⟨congrArg (λ q:Nat=>Value.tuple #[.int .u64 (q:Int),.int .i64 ((0:Nat):Int)]) he,s3d⟩
end Go.Proofs.YthffkcnbdehceaaGreat
