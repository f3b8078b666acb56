/-The walks of the functions of F15u,printed by our own program (kwgen.py) out of our descriptions (base.py). -/
import Derived.Test.YthffkcnbdehceaaGreatM15v
import Derived.Test.YthffkcnbdehceaaGreatF16c
open List hiding count
open Go.Proofs.Tryz
set_option linter.unusedVariables false
set_option linter.unusedSimpArgs false
set_option linter.unusedSectionVars false
namespace Go.Proofs.YthffkcnbdehceaaGreat
open Go.RowKit Go.Kw
set_option maxRecDepth 100000
theorem DF (v:Value) (l:List Nat) (n m:Nat) (w:World) (hv:RdL w v (a8 .u8) l) (hb:∀ x∈l,x<256) (hn:n<=128) (hm:m<=31) (hl:l.length=(n*m+7)/8):
  CallsV prog 268 [v,(.int .i64 n),(.int .i64 m)] w λ r w'=>Sat w [cL r 3 (a8 .i64) (jq l n m)] w':=by
 refine cc func268 rfl λ hs0=> .seq ?_
 have hnm:n*m<=128*31:=Nat.mul_le_mul hn hm
 refine .U rfl<| .h<| .c 4 (iY _ (l) ((n*m)) _ (hv.ext hs0.ext) (by omega) (by omega)) rfl λ r1 _ h1=> ?_
 obtain ⟨rg_1,rv1,rfl,p1⟩:=h1
 have s1:=hs0.aD p1
 refine .Z rfl<| .seq ?_
 have s2:=s1.cF 1 rfl (show l.take (((n*m)+7)/8)=l from take_of_length_le (by omega))
 refine .region<| .b 1 rfl (.ee (a8 .i64) (0) bj rfl s2 rfl rfl (by omega) (by omega) (by omega) λ v1 _ s3 _=> ?_)
 have s3:=s3.nn
 refine .Z rfl<| .seq<| .h<| .ln 1 (s3.ah 2 rfl) rfl<| .Z rfl<| .block ?_
 have s4:=s3.cF 2 rfl (show List.replicate (n) 0=mw l n m 0 from (EG l n m).symm)
 refine .lp [2,7,9] rfl (α:=Nat) (λ k=>[(24,(.int .i64 n)),(25,(.int .i64 k))]) (λ k w'=>Sat w (s4.U [(0,aj rg_1 274 [rv1,(.int .i64 ((n*m):Nat)),(.int .i64 ((m*k):Nat))]),(2,cL v1 3 (a8 .i64) (mw l n m k))]) w'/\(k<=n)) (λ k=>n-k) 0 ⟨congrArg some (congrArg (Value.int .i64) (by simp)),rfl,rfl,rfl,rfl,trivial⟩ ⟨s4,Nat.zero_le _⟩ ?_
 rintro k w3 ⟨s5,hk⟩
 refine .Z rfl<| .seq<| .ab rfl (λ c1=> ?_) λ c1=> ?_
 ·refine .skip<| .seq<| .block<| .Z rfl<| .seq ?_
  have hkm:m*(k+1)<=n*m:=by rw [Nat.mul_comm n];exact Nat.mul_le_mul_left m c1
  refine .region<| .z 2 rfl ?_
  have A1:=s5.tail.oc [0,1,2] 2
  refine .c 0 (yl _ _ _ _ _ (l) ((n*m)) ((m*k)) (m) A1 (hb) (by omega) (by omega) (by omega) (by rw [<-Nat.mul_succ];exact hkm)) rfl λ r2 _ h2=> ?_
  obtain ⟨rfl,p2⟩:=h2
  have s6:=(Sat.order [0,1,2] (by decide) p2.join).aF.nn
  refine .Z rfl<| .region<| .a 3 rfl (.I4 (by rw [underlying132]<;>rfl) underlying3 rfl (tz (by have:=uc l (m*k) m;have:2^m<=2^31:=Nat.pow_le_pow_right (by decide) hm;omega)))<| .ix 0 (s6.ah 2 rfl) rfl (hj:=by rw [qy];all_goals omega)<| .f rfl (.dS (a:=(ou l (m*k) m)) 2 dj s6 rfl rfl rfl rfl (by rw [qy];all_goals omega) λ w5 s7 _=> ?_)
  refine .nil<| .U rfl ?_
  have s8:Sat w [aj rg_1 274 [rv1,(.int .i64 ((n*m):Nat)),(.int .i64 ((m*(k+1)):Nat))],cL rv1 5 (a8 .u8) (l),cL v1 3 (a8 .i64) ((mw l n m k).set k (ou l (m*k) m))] w5:=s7
  have s9:=s8.cF 2 rfl (show (mw l n m k).set k (ou l (m*k) m)=mw l n m (k+1) from Hx c1)
  exact bc (k+1) ⟨s9,by omega⟩
 refine .ao<| .Z rfl<| .aC rfl rfl ?_
 have s11:=(s5.pk [2]).cF 0 rfl (show mw l n m k=jq l n m from by rw [show k=n by omega,Hw])
 exact s11
set_option maxHeartbeats 1000000 in
theorem AL (v:Value) (b:List Nat) (w:World) (hv:RdL w v (a8 .u8) b) (hb:∀ x∈b,x<256) (hn:b.length<=1000000000):
  CallsV prog 244 [v] w λ r w'=>(∃ l v',uV b=some l/\r= .tuple #[v',.int .i64 ((0:Nat):Int)]/\Sat w [cL v' 3 (a8 .i64) l] w')\/(uV b=none/\r= .tuple #[.slice none 0 0,.int .i64 ((9:Nat):Int)]/\Sat w [] w'):=by
 refine cc func244 rfl λ hs0=> .seq ?_
 have hlX:=Nat.le_trans (Hu b) hn
 have hlY:=Nat.le_trans (Hv b) hn
 refine .U rfl<| .scope 0 (λ L' w'=>Weak [] L'/\Sat w [] w'/\(uV b=none)) rfl ?_ ?_
 ·refine .Z rfl<| .Z rfl<| .Z rfl<| .h<| .a 1 rfl (.build Oy rfl ⟨(hv.ext hs0.ext).a7,rfl,trivial⟩ rfl)<| .al 0 hs0 rfl λ b1 _ s1 _ _=> .sa 0 s1 0 (vs:=[v,(.bool true)]) rfl (λ v h=>by simp only [mem_cons,not_mem_nil,or_false] at h;rcases h with rfl|rfl;exact (hv.ext s1.ext).a7;exact rfl) λ _ s2 _=> .nil<| .h ?_
  have A1:=s2.tail.oc [0] 1
  refine .c 0 (mF _ _ _ _ _ _ b 128 A1 hv (hb) (by omega) (by omega)) rfl λ r1 _ h_1=> ?_
  obtain ⟨rfl,bv1,hbv1,p1⟩:=h_1
  have s3:=(Sat.order [0] (by decide) p1.join).aF.nn
  have A2:=s3.tail.oc [0] 1
  refine .c 0 (mF _ _ _ _ _ _ ((aU true b 128).2.2) 31 A2 hbv1 (λ x hx=>hb x (Ht b x hx)) (hlX) (by omega)) rfl λ r2 _ h2=> ?_
  obtain ⟨rfl,bv2,hbv2,p2⟩:=h2
  have s4:=(Sat.order [0] (by decide) p2.join).aF.nn
  have A3:=s4.tail.oc [0] 1
  refine .c 0 (mF _ _ _ _ _ _ ((aU ((aU true b 128).2.1) ((aU true b 128).2.2) 31).2.2) 128 A3 hbv2 (λ x hx=>hb x (ME b x hx)) (hlY) (by omega)) rfl λ r3 w5 h3=> ?_
  obtain ⟨rfl,bv3,hbv3,p3⟩:=h3
  have s5:=(Sat.order [0] (by decide) p3.join).aF.nn
  refine .Z rfl ?_
  have hX:=Lq b
  have hY:=Lr b
  have hZ:=O7 b
  have hXY:=MD b
  have hlZ:=MF b
  have s6:Sat w [aj b1 327 [bv3,(.bool (uZ b).2.1)]] w5:=s5
  have hbz:RdL w bv3 (a8 .u8) (uZ b).2.2:=hbv3
  refine .weaken [(0,_),(2,_),(3,_),(4,_),(5,_),(6,_),(7,_),(8,(.int .i64 ((uX b).1:Nat))),(9,_),(10,_),(13,_),(14,_),(15,_),(16,_),(17,_)] ⟨rfl,rfl,rfl,rfl,rfl,rfl,rfl,congrArg some (rfl),rfl,rfl,rfl,rfl,rfl,rfl,rfl,trivial⟩<| .weaken [(0,_),(2,_),(3,_),(4,_),(5,_),(6,_),(7,_),(8,_),(9,(.int .i64 ((uY b).1:Nat))),(10,_),(13,_),(14,_),(15,_),(16,_),(17,_)] ⟨rfl,rfl,rfl,rfl,rfl,rfl,rfl,rfl,congrArg some (rfl),rfl,rfl,rfl,rfl,rfl,rfl,trivial⟩<| .weaken [(0,_),(2,_),(3,_),(4,_),(5,_),(6,_),(7,_),(8,_),(9,_),(10,(.int .i64 ((uZ b).1:Nat))),(13,_),(14,_),(15,_),(16,_),(17,_)] ⟨rfl,rfl,rfl,rfl,rfl,rfl,rfl,rfl,rfl,congrArg some (rfl),rfl,rfl,rfl,rfl,rfl,trivial⟩<| .h<| .a 4 rfl (.quo (b:=8) rfl rfl (by omega) (by unfold bo;omega))<| .Z rfl<| .weaken [(0,_),(2,_),(3,_),(4,_),(5,_),(6,_),(7,_),(8,_),(9,_),(10,_),(11,(.int .i64 (uS b))),(13,_),(14,_),(15,_),(16,_),(17,_),(18,_),(19,_),(20,_),(21,_),(22,_)] ⟨rfl,rfl,rfl,rfl,rfl,rfl,rfl,rfl,rfl,rfl,congrArg some (rfl),rfl,rfl,rfl,rfl,rfl,rfl,rfl,rfl,rfl,rfl,trivial⟩<| .seq<| .seq<| .bH 32 (((!(uZ b).2.1)=true)\/(((uZ b).2.2).length<(uS b))) ?_ ?_
  ·refine .ld 1 s6 0 rfl<| .e rfl (.cB rfl)<| .z 1 rfl ?_
   by_cases g1:(!(uZ b).2.1)=true
   ·refine .Gt 26 rfl (g1)<| .M rfl (by simp [g1])
   refine .Gf 26 rfl (by simpa using g1)<| .ld 1 s6 0 rfl<| .ln 0 (hbz.ext s6.ext) rfl<| .M rfl (by simp [g1])
  refine .ab rfl (λ c1=> ?_) λ c1=> ?_
  ·refine .Ib ?_
   exact ⟨trivial,s6.pk [],Hp (by simpa using c1)⟩
  refine .skip<| .seq ?_
  have hz1:¬ ((uZ b).2.1=false\/(uZ b).2.2.length<uS b):=by simpa using c1
  have hsz:uS b<=(uZ b).2.2.length:=by simp only [not_or] at hz1;omega
  refine .region<| .ld 1 s6 0 rfl<| .a 1 rfl (.bk (E:=a8 .u8) (a:=0) (c:=(uS b)) cg rfl (hbz.ext s6.ext) rfl ⟨_,rfl⟩ (by omega) (hsz))<| .c 2 (DF _ ((((uZ b).2.2).take (uS b)).drop 0) ((uX b).1) ((uY b).1) _ (((hbz.ext s6.ext)).sub (a:=0) (b:=(uS b)) (by omega) (hsz)) (λ x hx=>hb x (Hr b x (mem_of_mem_take hx))) (hX) (hY) (by rw [show ∀ l:List Nat,l.drop 0=l from λ _=>rfl,length_take];exact Nat.min_eq_left hsz)) rfl λ r4 _ h4=> ?_
  have s8:=s6.aD h4
  refine .Z rfl<| .h<| .ld 1 s8 0 rfl<| .a 1 rfl (.bk (E:=a8 .u8) (a:=(uS b)) (c:=((uZ b).2.2).length) cg rfl (hbz.ext s8.ext) ⟨_,rfl⟩ rfl (hsz) (Nat.le_refl _))<| .st 1 s8 0 rfl (h1:=(((hbz.ext s8.ext)).sub (a:=(uS b)) (b:=((uZ b).2.2).length) (hsz) (Nat.le_refl _)).a7) λ _ s9 _=> .nil ?_
  have hdr:RdL w (gu (a8 .u8).s bv3 (uS b) (((uZ b).2.2).length)) (a8 .u8) ((uZ b).2.2.drop (uS b)):=by have h:=hbz.sub (a:=uS b) (b:=(uZ b).2.2.length) hsz (Nat.le_refl _);rw [take_length] at h;exact h
  refine .seq<| .block<| .lq [0,4,7,8,9] rfl (α:=Nat×Bool×Value×List Nat×Nat×List Nat) (λ (mB,ok,bv,bl,at1,vs)=>[(6,(.int .i64 ((((at1:Nat):Int)-1)))),(10,(.int .i64 mB))]) (λ (mB,ok,bv,bl,at1,vs) w'=>Sat w [aj b1 327 [bv,(.bool ok)],cL r4 3 (a8 .i64) (vs)] w'/\(Il (uY b).1 (uX b).1 mB ok bl at1 vs=uE b)/\(RdL w bv (a8 .u8) bl)/\(∀ x∈bl,x<256)/\(bl.length<=1000000000)/\(vs.length=(uX b).1)/\(∀ x∈vs,x<=2147483647)/\(at1<=128)/\(mB<=128)) (λ (mB,ok,bv,bl,at1,vs)=>mB) ((uZ b).1,(uZ b).2.1,(gu (a8 .u8).s bv3 (uS b) (((uZ b).2.2).length)),(uZ b).2.2.drop (uS b),0,jq ((uZ b).2.2.take (uS b)) (uX b).1 (uY b).1) ⟨s9,rfl,hdr,λ x hx=>hb x (Hr b x (mem_of_mem_drop hx)),by rw [length_drop];omega,xL ..,Hy _ _ _ hY,Nat.zero_le _,hZ⟩ ?_
  rintro ⟨mB,ok,bv,bl,at1,vs⟩ w8 ⟨s10,hE,hbl,hblb,hbll,hvl,hvb,hat,hcnt⟩
  refine .seq<| .Z rfl<| .ab rfl (λ c2=> ?_) λ c2=> ?_
  ·refine .skip<| .seq<| .block<| .seq ?_
   obtain ⟨c,rfl⟩:∃ c,mB=c+1:=⟨mB-1,by omega⟩
   have hlim:2147483647/2^(uY b).1<=1000000000000:=Nat.le_trans (Nat.div_le_self _ _) (by omega)
   have hbll2:(aU ok bl 128).2.2.length<=1000000000:=Nat.le_trans (gG _ _ _) hbll
   have hG:=kT ok bl 128
   have hH:=kT (aU ok bl 128).2.1 (aU ok bl 128).2.2 (2147483647/2^(uY b).1)
   have hH2:=K9 hH
   rw [Il] at hE
   refine .region<| .z 1 rfl ?_
   have A4:=s10.tail.oc [0,1] 1
   refine .c 0 (mF _ _ _ _ _ _ bl 128 A4 hbl (hblb) (hbll) (by omega)) rfl λ r5 _ h5=> ?_
   obtain ⟨rfl,bv4,hbv4,p5⟩:=h5
   have s11:=(Sat.order [0,1] (by decide) p5.join).aF.nn
   refine .e rfl (.add rfl rfl (by unfold bo;omega))<| .Z rfl<| .h<| .a 1 rfl (.Nq (a:=2147483647) rfl rfl (by have:=Nat.div_le_self 2147483647 (2^(uY b).1);(try simp only [IntKind.bits]);omega)) ?_
   have A5:=s11.tail.oc [0,1] 1
   refine .c 0 (mF _ _ _ _ _ _ ((aU ok bl 128).2.2) (2147483647/2^(uY b).1) A5 hbv4 (λ x hx=>hblb x (dK _ _ _ x hx)) (hbll2) (hlim)) rfl λ r6 _ h6=> ?_
   obtain ⟨rfl,bv5,hbv5,p6⟩:=h6
   have s12:=(Sat.order [0,1] (by decide) p6.join).aF.nn
   refine .Z rfl<| .seq<| .seq<| .bH 66 ((((!(aU ((aU ok bl 128).2.1) ((aU ok bl 128).2.2) (2147483647/2^(uY b).1)).2.1)=true)\/((((((at1:Nat):Int)-1)+(((aU ok bl 128).1:Nat):Int)):Int)<(0:Int)))\/((((uX b).1:Nat):Int)<=(((((at1:Nat):Int)-1)+(((aU ok bl 128).1:Nat):Int)):Int))) ?_ ?_
   ·refine .ld 1 s12 0 rfl<| .e rfl (.cB rfl)<| .z 1 rfl ?_
    by_cases g2:(!(aU ((aU ok bl 128).2.1) ((aU ok bl 128).2.2) (2147483647/2^(uY b).1)).2.1)=true
    ·refine .Gt 58 rfl (g2)<| .M rfl (by simp [g2])
    refine .Gf 58 rfl (by simpa using g2)<| .a 1 rfl (.lss rfl rfl)<| .z 2 rfl<| .B 62 rfl (λ g3=> ?_) λ g3=> ?_
    ·refine .M rfl (by simp [g2,g3])
    refine .a 2 rfl (.geq rfl rfl)<| .M rfl (by simp [g2,g3])
   refine .ab rfl (λ c3=> ?_) λ c3=> ?_
   ·refine .Ib ?_
    exact ⟨trivial,s12.pk [],Hq (by rw [<-hE,if_pos (c3.elim (λ h=>h.elim (λ h=> .inl (by simpa using h)) λ h=> .inr (.inl (by omega))) λ h=> .inr (.inr (by omega)))])⟩
   refine .skip ?_
   have hcc:¬ ((aU (aU ok bl 128).2.1 (aU ok bl 128).2.2 (2147483647/2^(uY b).1)).2.1=false\/at1+(aU ok bl 128).1=0\/(uX b).1<at1+(aU ok bl 128).1):=λ h=>c3 (h.elim (λ h=> .inl (.inl (by simp [h]))) λ h=>h.elim (λ h=> .inl (.inr (by omega))) λ h=> .inr (by omega))
   have hE2:=hE
   rw [if_neg hcc] at hE2
   simp only [not_or] at hcc
   refine .weaken [(0,_),(4,_),(6,(.int .i64 ((at1+(aU ok bl 128).1-1):Nat))),(7,_),(8,_),(9,_),(10,_),(12,_),(45,_),(49,_),(50,_),(51,_),(52,_),(53,_),(54,_)] ⟨rfl,rfl,congrArg some (congrArg (Value.int .i64) (by omega)),rfl,rfl,rfl,rfl,rfl,rfl,rfl,rfl,rfl,rfl,rfl,rfl,trivial⟩ ?_
   obtain ⟨y,hy⟩:∃ y,vs[at1+(aU ok bl 128).1-1]? =some y:=⟨_,getElem?_eq_getElem (by omega)⟩
   have hyb:=hvb y (aa hy)
   rw [getD_some hy] at hE2
   have hshp1:=(s12.ah (E:=a8 .i64) 1 rfl).iR (by decide)
   refine .jj [0,1] [0] s12 rfl rfl 9 (pl [0,1,2,3,4,5,6,7,8] (.bar 9 .fin)) mixed (by kernel_rfl) ?_
   have s14:=s12.drew
   have S1:=s14.pk [0,1]
   refine .ix 2 S1 (·.ah 1 rfl) rfl<| .le 0 S1 (·.ah 1 rfl) hy rfl<| .z 2 S1 rfl<| .e rfl (λ _ s=> .Nz rfl rfl (by omega) (by omega)) S1<| .e rfl (λ _ s=> .Q4 rfl rfl (by omega) (by omega)) S1<| .ix 0 S1 (·.ah 1 rfl) rfl<| .bar rfl rfl rfl (OpE.dS (a:=(y|||((aU ((aU ok bl 128).2.1) ((aU ok bl 128).2.2) (2147483647/2^(uY b).1)).1*2^(uY b).1))) 1 dj s14 rfl rfl rfl rfl (by omega) λ _ s15 _=> ?_)
   have S2:=s15.pk [0]
   refine ⟨S2,?_⟩
   refine .fin<| .U rfl ?_
   exact ⟨(c,(aU (aU ok bl 128).2.1 (aU ok bl 128).2.2 (2147483647/2^(uY b).1)).2.1,bv5,(aU (aU ok bl 128).2.1 (aU ok bl 128).2.2 (2147483647/2^(uY b).1)).2.2,at1+(aU ok bl 128).1,vs.set (at1+(aU ok bl 128).1-1) (y|||((aU ((aU ok bl 128).2.1) ((aU ok bl 128).2.2) (2147483647/2^(uY b).1)).1*2^(uY b).1))),⟨congrArg some (congrArg (Value.int .i64) (by omega)),rfl,rfl,rfl,rfl,rfl,rfl,trivial⟩,⟨s15,hE2,hbv5,λ x hx=>hblb x (dK _ _ _ x (dK _ _ _ x hx)),Nat.le_trans (gG _ _ _) hbll2,by rw [length_set];exact hvl,λ z hz=>by
    rcases mem_or_eq_of_mem_set hz with hz|rfl
    ·exact hvb z hz
    ·exact K8 hyb hH2,by omega,by omega⟩,(show ((c))<(c+1) from by omega)⟩
  refine .ao<| .h<| .c 1 (BY _ (vs) _ (s10.ah 1 rfl) (by omega) (hvb)) rfl λ r7 _ h7=> ?_
  obtain ⟨pv1,rfl,p7⟩:=h7
  have s16:=(s10.aD p7).nn
  refine .Z rfl<| .seq<| .h<| .cp 2 s16 (wT _ _ (bS (vs)) (b) _ (s16.ah 2 rfl) (hv.ext s16.ext) (ka _ _) (hb)) rfl λ _ s17=> .e rfl (.jz rfl)<| .nil<| .ab rfl (λ c4=> ?_) λ c4=> ?_
  ·refine .Ib ?_
   exact ⟨trivial,s17.pk [],by rw [zS hz1 (show uE b=some vs by rw [<-hE,show mB=0 by omega,Il]),if_neg (by simpa using c4)]⟩
  refine .skip<| .seq<| .Z rfl<| .bG rfl rfl rfl ?_
  have hfin:=zS hz1 (show uE b=some vs by rw [<-hE,show mB=0 by omega,Il])
  rw [if_pos (by simpa using c4)] at hfin
  exact .inl ⟨_,_,hfin,rfl,s17.pk [1]⟩
 rintro L' w14 ⟨hw1,s20,hno⟩
 refine .weaken _ hw1<| .seq<| .skip<| .Z rfl<| .bG rfl rfl rfl ?_
 exact .inr ⟨hno,rfl,s20⟩
theorem F8 (w0 w:World) (cs:List Chunk) (g:Nat) (v:Value) (by_:List Nat) (N pos m:Nat) (hs:Sat w0 ([aj g 274 [v,.int .i64 (N:Int),.int .i64 (pos:Int)],cL v 5 (a8 .u8) by_]++cs) w) (hb:∀ x∈by_,x<256) (hN:N<=8*by_.length) (hn:by_.length<=1000000000) (hm:m<=63) (hp:pos<=N):
  CallsV prog 279 [.pointer (some ⟨g,0,none⟩),.int .i64 (m:Int)] w λ r w'=>r= .tuple #[.int .u64 ((if pos+m<=N then ou by_ pos m else 0:Nat):Int),.int .i64 ((if pos+m<=N then 0 else 10:Nat):Int)]/\Sat w0 ([aj g 274 [v,.int .i64 (N:Int),.int .i64 ((if pos+m<=N then pos+m else pos:Nat):Int)],cL v 5 (a8 .u8) by_]++cs) w':=by
 by_cases h:pos+m<=N
 ·simp only [if_pos h];exact yl w0 w cs g v by_ N pos m hs hb hN hn hm h
 simp only [if_neg h];exact Fb w0 w cs g v by_ N pos m hs hb hN hn hm hp (by omega)
theorem AM {S:List (SV×List Nat)} {k:Nat} {p:SV×List Nat} (h:S[k]? =some p):(S.map Prod.snd).getD k []=p.2:=by
 rw [getD_eq_getElem?_getD,getElem?_map,h]<;>rfl
set_option maxHeartbeats 1000000 in
theorem DG (g:Nat) (F:List Nat) (S:List (SV×List Nat)) (lo v n:Nat) (w:World) (hF:∀ (j x:Nat),F[j]? =some x->w.cell? ⟨g,0+j*1,none⟩=some (.int .u64 (x:Int))) (hS:∀ (j:Nat) (p:SV×List Nat),S[j]? =some p->w.cell? ⟨g,16+j*1,none⟩=some p.1.val) (hN:w.cell? ⟨g,32,none⟩=some (.int .i64 (lo:Int))) (hrow:∀ (j:Nat) (p:SV×List Nat),S[j]? =some p->RdL w p.1.val (a8 .i64) p.2) (hFl:F.length=16) (hSl:S.length=16) (hlo:lo<=15) (hFb:∀ x∈F,x<2^15) (hSb:∀ p∈S,p.2.length<=1024) (hn:n<=1000):
  CallsV prog 280 [(.pointer (some ⟨g,0,none⟩)),(.int .u64 v),(.int .i64 n)] w λ r w'=>r= .bool (vd F (S.map Prod.snd) lo v n)/\Sat w [] w':=by
 refine cc func280 rfl λ hs0=> .Z rfl<| .seq<| .Z rfl<| .block<| .lq [0,1,2] rfl (α:=Nat) (λ k=>[(7,(.int .i64 k))]) (λ k w'=>Sat w [] w'/\(n<=k)/\(k<=1000)/\(∀ q,n<=q->q<k->BI F (S.map Prod.snd) v n q=false)) (λ k=>1001-k) n ⟨hs0,Nat.le_refl _,hn,λ q h1 h2=>absurd h1 (by omega)⟩ ?_
 rintro k w1 ⟨s1,hnk,hkb,hno⟩
 refine .seq<| .h<| .a 4 rfl (.load fN rfl (s1.ext _ _ hN))<| .Z rfl<| .ab rfl (λ c1=> ?_) λ c1=> ?_
 ·refine .skip<| .seq<| .block<| .seq ?_
  obtain ⟨f,hf⟩:∃ f,F[k]? =some f:=⟨_,getElem?_eq_getElem (by omega)⟩
  obtain ⟨p,hp⟩:∃ p,S[k]? =some p:=⟨_,getElem?_eq_getElem (by omega)⟩
  have hfb:=hFb f (aa hf)
  have hpb:=hSb p (aa hp)
  have hFd:F.getD k 0=f:=getD_some hf
  have hSd:=AM hp
  refine .region<| .a 4 rfl (.cX kj rfl rfl (by omega))<| .e rfl (.load fI rfl (s1.ext _ _ (hS _ _ hp)))<| .ln 0 ((hrow _ _ hp).ext s1.ext) rfl<| .Z rfl<| .seq<| .bH 58 (((0<p.2.length)/\(v<=((((f+p.2.length)%2^64)-1)/2^(k-n))))/\((f/2^(k-n))<=v)) ?_ ?_
  ·refine .z 3 rfl<| .B 27 rfl (λ g1=> ?_) λ g1=> ?_
   ·refine .a 5 rfl (.cX pS rfl rfl (by omega))<| .a 0 rfl (.load oF rfl (s1.ext _ _ (hF _ _ hf)))<| .a 2 rfl (.Nk rfl rfl rfl)<| .a 0 rfl (.KK (b:=1) rfl rfl rfl (by (try simp only [IntKind.bits]);omega) (by (try simp only [IntKind.bits]);omega))<| .z 7 rfl ?_
    by_cases g2:v<=((((f+p.2.length)%2^64)-1)/2^(k-n))
    ·refine .Gt 45 rfl (decide_eq_true g2)<| .a 5 rfl (.cX pS rfl rfl (by omega))<| .a 0 rfl (.load oF rfl (s1.ext _ _ (hF _ _ hf)))<| .M rfl (by simp [g1,g2])
    refine .Gf 45 rfl (decide_eq_false g2)<| .M rfl (by simp [g1,g2])
   refine .M rfl (by simp [g1])
  refine .ab rfl (λ c2=> ?_) λ c2=> ?_
  ·refine .Z rfl<| .aC rfl rfl ?_
   exact ⟨by rw [wA (k:=k) hnk (by omega) (by unfold BI;rw [hFd,hSd];simp only [Bool.and_eq_true,decide_eq_true_eq];refine ⟨⟨c2.1.1,?_⟩,c2.2⟩;have h:=c2.1.2;rw [Nat.mod_eq_of_lt (by omega)] at h;exact h)],s1⟩
  refine .skip<| .U rfl ?_
  exact bc (k+1) ⟨s1,by omega,by omega,λ q h1 h2=>by
   rcases Nat.lt_or_ge q k with h|h
   ·exact hno q h1 h
   ·have e:q=k:=by omega
    subst e
    refine Bool.eq_false_iff.2 λ hb=>c2 ?_
    unfold BI at hb
    rw [hFd,hSd] at hb
    simp only [Bool.and_eq_true,decide_eq_true_eq] at hb
    refine ⟨⟨hb.1.1,?_⟩,hb.2⟩
    rw [Nat.mod_eq_of_lt (by omega)];exact hb.1.2⟩
 refine .ao<| .Z rfl<| .aC rfl rfl ?_
 exact ⟨by rw [BJ (λ q h1 h2=>hno q h1 (by omega))],s1⟩
set_option maxHeartbeats 1000000 in
theorem DH (w0 w:World) (cs:List Chunk) (g tg:Nat) (v:Value) (by_:List Nat) (N pos0 lo:Nat) (F:List Nat) (S:List (SV×List Nat)) (hs:Sat w0 ([aj g 274 [v,(.int .i64 N),(.int .i64 pos0)],cL v 5 (a8 .u8) (by_),fE tg 340 (F) (S) (lo),bm 3 (a8 .i64) S]++cs) w) (hb:∀ x∈by_,x<256) (hNl:N<=8*by_.length) (hn:by_.length<=1000000) (hp0:pos0<=N) (hFl:F.length=16) (hSl:S.length=16) (hlo:lo<=15) (hFb:∀ x∈F,x<2^15) (hSb:∀ p∈S,p.2.length<=1024):
  CallsV prog 270 [(.pointer (some ⟨tg,0,none⟩)),(.pointer (some ⟨g,0,none⟩))] w λ r w'=>r= .tuple #[.int .i64 ((gL F (S.map Prod.snd) lo by_ N 16 1 0 pos0).1:Nat),.int .i64 ((gL F (S.map Prod.snd) lo by_ N 16 1 0 pos0).2.1:Nat)]/\Sat w0 ([aj g 274 [v,(.int .i64 N),(.int .i64 (((gL F (S.map Prod.snd) lo by_ N 16 1 0 pos0).2.2):Nat))],cL v 5 (a8 .u8) (by_),fE tg 340 (F) (S) (lo),bm 3 (a8 .i64) S]++cs) w':=by
 refine ae func270 rfl rfl ?_
 refine .Z rfl<| .Z rfl<| .Z rfl<| .block<| .lq [0,1] rfl (α:=Nat×Nat×Nat) (λ (n,u,pos)=>[(6,(.int .u64 u)),(7,(.int .i64 n))]) (λ (n,u,pos) w'=>Sat w0 (hs.V [(0,aj g 274 [v,(.int .i64 N),(.int .i64 pos)])]++cs) w'/\(1<=n)/\(n<=16)/\(gL F (S.map Prod.snd) lo by_ N (17-n) n u pos=gL F (S.map Prod.snd) lo by_ N 16 1 0 pos0)/\(pos<=N)/\(u<2^n)) (λ (n,u,pos)=>17-n) (1,0,pos0) ⟨hs,Nat.le_refl _,by omega,rfl,hp0,by decide⟩ ?_
 rintro ⟨n,u,pos⟩ w1 ⟨s1,hn1,hn16,hE,hpos,hu⟩
 refine .seq<| .block<| .seq ?_
 have hp16:2^n<=2^16:=Nat.pow_le_pow_right (by decide) hn16
 refine .region<| .z 1 rfl ?_
 have A1:=s1.oc [0,1,2,3] 2
 refine .c 0 (F8 _ _ _ _ _ (by_) (N) (pos) (1) A1 (hb) (hNl) (by omega) (by omega) (hpos)) rfl λ r1 w2 h1=> ?_
 obtain ⟨rfl,p1⟩:=h1
 have s2:=p1.join.od [0,1,2,3]
 refine .Z rfl<| .seq<| .Z rfl<| .ab rfl (λ c1=> ?_) λ c1=> ?_
 ·refine .Z rfl<| .bG rfl rfl rfl ?_
  have hgt:N<pos+1:=Nat.lt_of_not_le λ h=>c1 (by rw [if_pos h])
  have hno:¬ pos+1<=N:=by omega
  rw [show 17-n=(16-n)+1 by omega,gL,if_pos hgt] at hE
  have hq:=s2
  rw [if_neg hno] at hq
  exact ⟨by rw [<-hE]<;>rfl,by rw [<-hE];exact hq⟩
 refine .skip<| .seq ?_
 have hle:pos+1<=N:=Classical.byContradiction λ h=>c1 (by rw [if_neg h];decide)
 have hrb:=Hd by_ pos
 refine .weaken [(0,_),(1,_),(6,_),(7,_),(8,(.int .u64 (rb by_ pos))),(9,_),(12,_),(13,_),(14,_),(15,_),(16,_),(17,_)] ⟨rfl,rfl,rfl,rfl,congrArg some (by rw [if_pos hle];simp [ou]),rfl,rfl,rfl,rfl,rfl,rfl,rfl,trivial⟩ ?_
 have s3:Sat w0 ([aj g 274 [v,(.int .i64 N),(.int .i64 ((pos+1):Nat))],cL v 5 (a8 .u8) (by_),fE tg 340 (F) (S) (lo),bm 3 (a8 .i64) S]++cs) w2:=by have hq:=s2;(try dsimp only [aA] at hq);rw [if_pos hle] at hq;exact hq
 have hor:=He (v:=u) hrb (by omega)
 refine .U rfl<| .weaken [(0,_),(1,_),(6,(.int .u64 ((2*u+rb by_ pos):Nat))),(7,_),(8,_),(13,_),(17,_),(19,_),(20,_),(21,_),(22,_)] ⟨rfl,rfl,congrArg some (congrArg (λ q:Nat=>Value.int .u64 (q:Int)) hor),rfl,rfl,rfl,rfl,rfl,rfl,rfl,rfl,trivial⟩<| .seq<| .h<| .cm 3 s3 (DG tg (F) (S) (lo) ((2*u+rb by_ pos)) (n) _ (λ j x h=>s3.KL 2 rfl h) (λ j p h=>s3.EJ 2 rfl hFl h) (s3.tabN 2 rfl hFl hSl) (λ j p h=>s3.eu 3 rfl h) hFl hSl hlo hFb hSb (by omega)) rfl λ _ s4=> .e rfl (.cB rfl)<| .nil<| .cond rfl (λ c2=> ?_) (λ c2=> ?_)
 ·refine .Z rfl<| .bG rfl rfl rfl ?_
  rw [show 17-n=(16-n)+1 by omega,gL,if_neg (by omega),if_pos (by simpa using c2)] at hE
  exact ⟨by rw [<-hE]<;>rfl,by rw [<-hE];exact s4⟩
 refine .skip<| .seq ?_
 have hbeg:vd F (S.map Prod.snd) lo (2*u+rb by_ pos) n=true:=by simpa using c2
 have hnlo:=Ka hbeg
 obtain ⟨f,hf⟩:∃ f,F[n]? =some f:=⟨_,getElem?_eq_getElem (by omega)⟩
 obtain ⟨p,hp⟩:∃ p,S[n]? =some p:=⟨_,getElem?_eq_getElem (by omega)⟩
 have hfb:=hFb f (aa hf)
 have hpb:=hSb p (aa hp)
 have hFd:F.getD n 0=f:=getD_some hf
 have hSd:=AM hp
 rw [show 17-n=(16-n)+1 by omega,gL,if_neg (by omega),if_neg (by rw [hbeg];simp),hFd,hSd] at hE
 refine .md [0,1,6,7,8] rfl (λ K L' w'=>Weak ([(54,(.bool (decide ((f<=(2*u+rb by_ pos))/\(((2*u+rb by_ pos)-f)<p.2.length)))))]++K) L'/\Sat w0 s4.L w') ?_ ?_
 ·refine .dt [0,1,2,3] s4 rfl (pl [0,1,2,3,4,5,6,7,8,9,10,11,12,13,14,15,16,17,18,19,20,21,22,23,24,25,26] .fin) λ s5 S1=> .z 5 S1 rfl<| .e rfl (λ _ s=> .cX pS rfl rfl (by omega)) S1<| .e rfl (λ _ s=> .load oF rfl (s.KL 2 rfl hf)) S1<| .z 2 S1 rfl<| .B 36 rfl (λ g1=> ?_) λ g1=> ?_
  ·refine .a 5 S1 rfl (λ _ s=> .cX pS rfl rfl (by omega))<| .a 0 S1 rfl (λ _ s=> .load oF rfl (s.KL 2 rfl hf))<| .a 0 S1 rfl (λ _ s=> .KK rfl rfl rfl (by (try simp only [IntKind.bits]);omega) (by (try simp only [IntKind.bits]);omega))<| .a 4 S1 rfl (λ _ s=> .cX kj rfl rfl (by omega))<| .a 0 S1 rfl (λ _ s=> .load fI rfl (s.EJ 2 rfl (by (try simp only [length_set]);assumption) hp))<| .ln 0 S1 (λ s=>s.eu 3 rfl hp) rfl<| .Z S1 rfl ?_
   exact ⟨⟨congrArg some (congrArg Value.bool (by simp [g1])),rfl,rfl,rfl,rfl,rfl,trivial⟩,s5⟩
  refine .Z S1 rfl ?_
  exact ⟨⟨congrArg some (congrArg Value.bool (by simp [g1])),rfl,rfl,rfl,rfl,rfl,trivial⟩,s5⟩
 rintro L' w4 ⟨hw1,s6⟩
 refine .weaken _ hw1<| .ab rfl (λ c3=> ?_) λ c3=> ?_
 ·refine .seq ?_
  obtain ⟨x,hx⟩:∃ x,p.2[2*u+rb by_ pos-f]? =some x:=⟨_,getElem?_eq_getElem c3.2⟩
  rw [if_pos c3,getD_some hx] at hE
  refine .dt [0,1,2,3] s6 rfl (pl [0,1,2,3,4,5,6,7,8,9,10,11,12,13,14,15,16,17] .fin) λ s7 S2=> .z 4 S2 rfl<| .e rfl (λ _ s=> .cX kj rfl rfl (by omega)) S2<| .e rfl (λ _ s=> .load fI rfl (s.EJ 2 rfl (by (try simp only [length_set]);assumption) hp)) S2<| .z 5 S2 rfl<| .e rfl (λ _ s=> .cX pS rfl rfl (by omega)) S2<| .e rfl (λ _ s=> .load oF rfl (s.KL 2 rfl hf)) S2<| .e rfl (λ _ s=> .KK rfl rfl rfl (by (try simp only [IntKind.bits]);omega) (by (try simp only [IntKind.bits]);omega)) S2<| .ix 0 S2 (λ s=>s.eu 3 rfl hp) rfl (hj:=c3.2)<| .le 0 S2 (λ s=>s.eu 3 rfl hp) hx rfl<| .Z S2 rfl<| .bG rfl rfl rfl ?_
  exact ⟨by rw [<-hE]<;>rfl,by rw [<-hE];exact s7⟩
 refine .skip<| .U rfl ?_
 exact bc (n+1,(2*u+rb by_ pos),(pos+1)) ⟨s6,by omega,by omega,by rw [if_neg c3] at hE;rw [show 17-(n+1)=16-n by omega];exact hE,hle,by rw [Nat.pow_succ];omega⟩
set_option maxHeartbeats 1000000 in
theorem AN (v:Value) (l:List Nat) (w:World) (hv:RdL w v (a8 .i64) l) (hn:l.length<=1024) (hval:ep l=true):
  CallsV prog 269 [v] w λ r w'=>∃ g S,r= .pointer (some ⟨g,0,none⟩)/\S.map Prod.snd=(eU l).2.1/\Sat w [fE g 340 (eU l).1 S (eU l).2.2,bm 3 (a8 .i64) S] w':=by
 refine cc func269 rfl λ hs0=> .seq ?_
 have hgl:=GoodLens.uB hval
 have hiol:=fV l
 refine .U rfl<| .h<| .e rfl (.build Oz rfl trivial rfl)<| .bx 0 hs0 rfl λ b1 _ s1 _ _=> .Z rfl<| .h<| .c 1 (sy _ (l) _ (hv.ext s1.ext) (hn) (iM hval)) rfl λ r1 _ h_1=> ?_
 have s2:=s1.aD h_1
 refine .Z rfl<| .seq<| .h<| .c 1 (sx _ (l) _ (hv.ext s2.ext) (hn) (λ x hx=>by have:=iM hval x hx;omega)) rfl λ r2 w3 h_2=> ?_
 have s3:=(s2.aD h_2).nn
 refine .ln 0 (s3.ah 2 rfl) rfl<| .Z rfl<| .block ?_
 have s4:Sat w [fE b1 340 (List.replicate 16 0) (List.replicate 16 (⟨none,0,0⟩,[])) (0),cL r1 132 (a8 .u64) (cV l),cL r2 3 (a8 .i64) (aX (l))] w3:=s3
 have s5:Sat w [fE b1 340 (List.replicate 16 0) (List.replicate 16 (⟨none,0,0⟩,[])) (0),cL r1 132 (a8 .u64) (cV l),cL r2 3 (a8 .i64) (aX (l)),bm 3 (a8 .i64) (List.replicate 16 (⟨none,0,0⟩,[]))] w3:=s4.xX 3 (a8 .i64) 16
 have s7:=(Sat.order [0,3,1,2] (by decide) s5.tail).aF.pk [0,1,2,3]
 refine .lq [0,3,4,13,14] rfl (α:=Nat×List Nat×List (SV×List Nat)×Nat) (λ (k,F,S,lo)=>[(15,(.int .i64 k))]) (λ (k,F,S,lo) w'=>Sat w (s7.U [(0,fE b1 340 (F) (S) (lo)),(1,bm 3 (a8 .i64) (S))]) w'/\(k<=(aX l).length)/\(F=(tabN l ((aX l).take k)).1)/\(S.map Prod.snd=(tabN l ((aX l).take k)).2.1)/\(lo=(tabN l ((aX l).take k)).2.2)/\(F.length=16)/\(S.length=16)) (λ (k,F,S,lo)=>(aX l).length-k) (0,List.replicate 16 0,List.replicate 16 (⟨none,0,0⟩,[]),0) ⟨s7,Nat.zero_le _,rfl,rfl,rfl,rfl,rfl⟩ ?_
 rintro ⟨k,F,S,lo⟩ w4 ⟨s8,hk,hTF,hTS,hTl,hFl,hSl⟩
 refine .Z rfl<| .seq<| .ab rfl (λ c1=> ?_) λ c1=> ?_
 ·refine .skip<| .seq<| .block<| .seq ?_
  obtain ⟨x,hx⟩:∃ x,(aX (l))[k]? =some x:=⟨_,getElem?_eq_getElem c1⟩
  refine .region<| .ix 0 (s8.ah 3 rfl) rfl<| .le 0 (s8.ah 3 rfl) hx rfl<| .Z rfl<| .seq ?_
  have hxm:=pC l x (aa hx)
  have hlx:=qv hxm.1
  have hl15:=hgl.le x
  refine .region<| .ix 2 (hv.ext s8.ext) rfl<| .le 0 (hv.ext s8.ext) hlx rfl<| .Z rfl<| .seq<| .seq ?_
  obtain ⟨p,hp⟩:∃ p,S[ai l x]? =some p:=⟨_,getElem?_eq_getElem (by omega)⟩
  have hpd:=AM hp
  have hsp:=eD l hgl.le ((aX l).take k)
  have hp2:p.2.length<=1024:=by
   have h1:=(hsp.2.2.1 (ai l x) (by omega)).1
   rw [<-hTS,hpd] at h1
   rw [h1]
   have h2:=length_filter_le (λ z=>ai l z==ai l x) ((aX l).take k)
   have h3:=fV l
   rw [length_take] at h2;omega
  have hcl:=lb l
  refine .region<| .a 4 rfl (.cX kj rfl rfl (by omega))<| .e rfl (.load fI rfl (s8.EJ 0 rfl (by (try simp only [length_set]);assumption) hp))<| .ln 0 (s8.eu 1 rfl hp) rfl<| .Z rfl<| .ab rfl (λ c2=> ?_) λ c2=> ?_
  ·refine .dk [1,2,3] s8 rfl (pl [0,1,2,3,4,5,6,7,8,1009] .fin) λ s9 S1=> .ix 4 S1 (·.ah 1 rfl) rfl<| .le 0 S1 (·.ah 1 rfl) (rQ hgl hxm.2).1 rfl<| .z 2 S1 rfl<| .e rfl (λ _ s=> .cX pS rfl rfl (by omega)) S1<| .f rfl (.KN (a:=(cn l x)) 0 BO s9 rfl rfl rfl (by omega) λ w5 s10 _=> ?_)
   have S2:=s10.pk [1,2,3]
   refine ⟨S2,?_⟩
   refine .fin<| .seq ?_
   have s11:Sat w [fE b1 340 (F.set (ai l x) (cn l x)) (S) (lo),bm 3 (a8 .i64) (S.eraseIdx (ai l x)),cL r1 132 (a8 .u64) (cV l),cL r2 3 (a8 .i64) (aX (l)),cL p.1.val 3 (a8 .i64) (p.2)] w5:=Sat.BV (A:=[fE b1 340 (F.set (ai l x) (cn l x)) (S) (lo),bm 3 (a8 .i64) (S),cL r1 132 (a8 .u64) (cV l),cL r2 3 (a8 .i64) (aX (l))]) s10 1 rfl hp
   have hshp1:=(s11.ah (E:=a8 .i64) 4 rfl).iR (by decide)
   refine .jj [0,1,2,3] [1,2,3] s11 rfl rfl 14 (pl [0,1,2,3,4,5,6,7,8] (.loose 11 (.loose 12 (pl [1009,1010,13] (.bar 14 .fin))))) mixed (by kernel_rfl) ?_
   have s12:=s11.drew
   have S3:=s12.pk [0,1,2,3]
   refine .z 6 S3 rfl<| .e rfl (λ _ s=> .cX kj rfl rfl (by omega)) S3<| .e rfl (λ _ s=> .load fI rfl (s.EJ 0 rfl (by (try simp only [length_set]);assumption) hp)) S3<| .z 1 S3 rfl<| .loose rfl rfl rfl (λ _ s=> .nilCheck rfl) S3<| .loose rfl rfl rfl (λ _ s=> .fieldAddr Ab rfl rfl) S3<| .f rfl (.cM (a8 .i64) x bj rfl s12 rfl λ v1 _ s13 _=> ?_)
   have S4:=s13.pk [0,1,2,3]
   refine ⟨S4,?_⟩
   refine .f rfl (.aL 4 bj s13 rfl rfl rfl underlying22 (s13.ah 5 rfl) (by simp;omega) (by simp;omega) λ v2 _ s14 _=> ?_)
   have s14:=s14.pk [0,1,2,3,4]
   obtain ⟨sv1,hsv1,hsv1n⟩:=(s14.ah 4 rfl).sv
   subst hsv1
   have S5:=s14.pk [0,1,2,3]
   refine ⟨S5,?_⟩
   refine .e rfl (λ _ s=> .cX kj rfl rfl (by omega)) S5<| .bar rfl rfl rfl (OpE.D9 (sv1,p.2++[x]) 0 kf s14 rfl rfl rfl (by (try simp only [length_set]);assumption) (by omega) λ w8 s15 _=> ?_)
   have S6:=s15.pk [1,2,3]
   refine ⟨S6,?_⟩
   refine .fin ?_
   have s16:Sat w [fE b1 340 (F.set (ai l x) (cn l x)) (S.set (ai l x) (sv1,p.2++[x])) (lo),bm 3 (a8 .i64) (S.set (ai l x) (sv1,p.2++[x])),cL r1 132 (a8 .u64) (cV l),cL r2 3 (a8 .i64) (aX (l))] w8:=Sat.I2 (A:=[fE b1 340 (F.set (ai l x) (cn l x)) (S.set (ai l x) (sv1,p.2++[x])) (lo),bm 3 (a8 .i64) (S.eraseIdx (ai l x)),cL r1 132 (a8 .u64) (cV l),cL r2 3 (a8 .i64) (aX (l))]) s15 1 rfl (by omega)
   refine .trim [0,3,4,6,7,13,14,15] rfl<| .region<| .b 4 rfl (.Db (a:=(ai l x)) 0 dj s16 rfl rfl rfl (by (try simp only [length_set]);assumption) (by (try simp only [length_set]);assumption) λ _ s17 _=> ?_)
   refine .nil<| .U rfl ?_
   exact bc (k+1,F.set (ai l x) (cn l x),S.set (ai l x) (sv1,p.2++[x]),ai l x) ⟨s17,by omega,by rw [au hx,eC,oA,<-hTS,hpd,<-hTF];simp [c2],by rw [au hx,eC,oA,<-hTS,hpd,map_set],by rw [au hx,eC,oA],by (try simp only [length_set]);exact hFl,by simp only [length_set];exact hSl⟩
  refine .skip<| .seq ?_
  have s18:Sat w [fE b1 340 (F) (S) (lo),bm 3 (a8 .i64) (S.eraseIdx (ai l x)),cL r1 132 (a8 .u64) (cV l),cL r2 3 (a8 .i64) (aX (l)),cL p.1.val 3 (a8 .i64) (p.2)] w4:=Sat.BV (A:=[fE b1 340 (F) (S) (lo),bm 3 (a8 .i64) (S),cL r1 132 (a8 .u64) (cV l),cL r2 3 (a8 .i64) (aX (l))]) s8 1 rfl hp
  have hshp2:=(s18.ah (E:=a8 .i64) 4 rfl).iR (by decide)
  refine .jj [0,1,2,3] [1,2,3] s18 rfl rfl 14 (pl [0,1,2,3,4,5,6,7,8] (.loose 11 (.loose 12 (pl [1009,1010,13] (.bar 14 .fin))))) mixed (by kernel_rfl) ?_
  have s19:=s18.drew
  have S7:=s19.pk [0,1,2,3]
  refine .z 6 S7 rfl<| .e rfl (λ _ s=> .cX kj rfl rfl (by omega)) S7<| .e rfl (λ _ s=> .load fI rfl (s.EJ 0 rfl (by (try simp only [length_set]);assumption) hp)) S7<| .z 1 S7 rfl<| .loose rfl rfl rfl (λ _ s=> .nilCheck rfl) S7<| .loose rfl rfl rfl (λ _ s=> .fieldAddr Ab rfl rfl) S7<| .f rfl (.cM (a8 .i64) x bj rfl s19 rfl λ v3 _ s20 _=> ?_)
  have S8:=s20.pk [0,1,2,3]
  refine ⟨S8,?_⟩
  refine .f rfl (.aL 4 bj s20 rfl rfl rfl underlying22 (s20.ah 5 rfl) (by simp;omega) (by simp;omega) λ v_4 _ s21 _=> ?_)
  have s21:=s21.pk [0,1,2,3,4]
  obtain ⟨sv2,hsv2,hsv2n⟩:=(s21.ah 4 rfl).sv
  subst hsv2
  have S9:=s21.pk [0,1,2,3]
  refine ⟨S9,?_⟩
  refine .e rfl (λ _ s=> .cX kj rfl rfl (by omega)) S9<| .bar rfl rfl rfl (OpE.D9 (sv2,p.2++[x]) 0 kf s21 rfl rfl rfl (by (try simp only [length_set]);assumption) (by omega) λ w12 s22 _=> ?_)
  have S10:=s22.pk [1,2,3]
  refine ⟨S10,?_⟩
  refine .fin ?_
  have s23:Sat w [fE b1 340 (F) (S.set (ai l x) (sv2,p.2++[x])) (lo),bm 3 (a8 .i64) (S.set (ai l x) (sv2,p.2++[x])),cL r1 132 (a8 .u64) (cV l),cL r2 3 (a8 .i64) (aX (l))] w12:=Sat.I2 (A:=[fE b1 340 (F) (S.set (ai l x) (sv2,p.2++[x])) (lo),bm 3 (a8 .i64) (S.eraseIdx (ai l x)),cL r1 132 (a8 .u64) (cV l),cL r2 3 (a8 .i64) (aX (l))]) s22 1 rfl (by omega)
  refine .region<| .b 4 rfl (.Db (a:=(ai l x)) 0 dj s23 rfl rfl rfl (by (try simp only [length_set]);assumption) (by (try simp only [length_set]);assumption) λ _ s24 _=> ?_)
  refine .nil<| .U rfl ?_
  exact bc (k+1,F,S.set (ai l x) (sv2,p.2++[x]),ai l x) ⟨s24,by omega,by rw [au hx,eC,oA,<-hTS,hpd,<-hTF];simp [c2],by rw [au hx,eC,oA,<-hTS,hpd,map_set],by rw [au hx,eC,oA],by (try simp only [length_set]);exact hFl,by simp only [length_set];exact hSl⟩
 refine .ao<| .Z rfl<| .aC rfl rfl ?_
 have hk2:(aX l).take k=aX l:=take_of_length_le (by omega)
 rw [hk2] at hTF hTS hTl
 subst hTF;subst hTl
 exact ⟨_,S,rfl,hTS,s8.pk [0,1]⟩
set_option maxHeartbeats 1000000 in
theorem yi (v u:Value) (l b:List Nat) (bits count:Nat) (w:World) (hv:RdL w v (a8 .i64) l) (hu:RdL w u (a8 .u8) b) (hn:l.length<=1024) (hval:ep l=true) (hb:∀ x∈b,x<256) (hbits:bits<=8*b.length) (hbl:b.length<=1000000) (hcount:count<=4096):
  CallsV prog 245 [v,u,(.int .i64 bits),(.int .i64 count)] w λ r w'=>(∃ s v',vf l b bits count=some s/\r= .tuple #[v',.int .i64 ((0:Nat):Int)]/\Sat w [cL v' 3 (a8 .i64) s] w')\/(vf l b bits count=none/\∃ e:Nat,e≠0/\r= .tuple #[.slice none 0 0,.int .i64 (e:Int)]/\Sat w [] w'):=by
 refine cc func245 rfl λ hs0=> .seq ?_
 have hgl:=GoodLens.uB hval
 refine .U rfl<| .seq<| .h<| .cp 1 hs0 (yg _ (l) _ (hv.ext hs0.ext) (hn)) rfl λ _ s1=> .e rfl (.cB rfl)<| .z 1 rfl<| .Gf 19 rfl (by rw [hval]<;>rfl)<| .z 4 rfl<| .Gf 23 rfl (decide_eq_false (by omega))<| .Z rfl<| .ak rfl (decide_eq_false (by omega))<| .skip<| .h<| .c 2 (iY _ (b) (bits) _ (hu.ext s1.ext) (hbits) (by omega)) rfl λ r2 _ h2=> ?_
 obtain ⟨rg_1,rv1,rfl,p2⟩:=h2
 have s2:=s1.aD p2
 refine .Z rfl<| .seq<| .Z rfl<| .ak rfl (rfl)<| .skip<| .h<| .c 1 (AN _ (l) _ (hv.ext s2.ext) (hn) (hval)) rfl λ r3 _ h3=> ?_
 obtain ⟨tb1,S1,rfl,hS__1,p3⟩:=h3
 have s3:=(s2.aD p3).nn
 refine .Z rfl<| .Z rfl<| .seq<| .Z rfl<| .block ?_
 have s4:=s3.aH 3 (a8 .i64)
 have hSl:S1.length=16:=by have h:=congrArg List.length hS__1;rw [length_map] at h;rw [h];exact (eD l hgl.le (aX l)).2.1
 have hFl:(eU l).1.length=16:=(eD l hgl.le (aX l)).1
 have hSb:∀ p∈S1,p.2.length<=1024:=λ p hp=>Nat.le_trans (MI hgl p.2 (by rw [<-hS__1];exact mem_map_of_mem hp)) hn
 refine .lq [2,10,12,37] rfl (α:=Nat×Nat×Value×List Nat) (λ (k,pos,ov,acc)=>[(13,ov),(38,(.int .i64 k))]) (λ (k,pos,ov,acc) w'=>Sat w (s4.U [(0,aj rg_1 274 [rv1,(.int .i64 bits),(.int .i64 pos)]),(4,cL ov 3 (a8 .i64) (acc))]) w'/\(k<=count)/\(pos<=bits)/\(ve (eU l).1 (eU l).2.1 (eU l).2.2 (b.take ((bits+7)/8)) bits (count-k) pos acc=ve (eU l).1 (eU l).2.1 (eU l).2.2 (b.take ((bits+7)/8)) bits count 0 [])/\(acc.length=k)) (λ (k,pos,ov,acc)=>count-k) (0,0,(.slice none 0 0),[]) ⟨s4,Nat.zero_le _,Nat.zero_le _,rfl,rfl⟩ ?_
 rintro ⟨k,pos,ov,acc⟩ w4 ⟨s5,hk,hpos,hE,hal⟩
 refine .Z rfl<| .seq<| .ab rfl (λ c1=> ?_) λ c1=> ?_
 ·refine .skip<| .seq<| .block<| .h<| .z 2 rfl ?_
  have A1:=s5.tail.oc [0,1,2,3,4] 4
  refine .c 0 (DH _ _ _ _ _ _ (b.take ((bits+7)/8)) bits pos ((eU l).2.2) ((eU l).1) S1 A1 (λ x hx=>hb x (mem_of_mem_take hx)) (by rw [length_take];omega) (by rw [length_take];omega) (hpos) (hFl) (hSl) (MG hgl) (MH hgl) (hSb)) rfl λ r4 w5 h4=> ?_
  obtain ⟨rfl,p4⟩:=h4
  have s6:=(Sat.order [0,1,2,3,4] (by decide) p4.join).aF.nn
  refine .Z rfl ?_
  have hst:=hE
  rw [show count-k=(count-(k+1))+1 by omega,ve] at hst
  have hsp:=zT (eU l).1 (eU l).2.1 (eU l).2.2 (b.take ((bits+7)/8)) bits 16 1 0 pos hpos
  have s7:Sat w [aj rg_1 274 [rv1,(.int .i64 bits),(.int .i64 (((gL (eU l).1 (eU l).2.1 (eU l).2.2 (b.take ((bits+7)/8)) bits 16 1 0 pos).2.2):Nat))],cL rv1 5 (a8 .u8) (b.take ((bits+7)/8)),fE tb1 340 ((eU l).1) (S1) ((eU l).2.2),bm 3 (a8 .i64) (S1),cL ov 3 (a8 .i64) (acc)] w5:=by have hq:=s6;rw [hS__1] at hq;exact hq
  refine .weaken [(2,_),(10,_),(12,_),(13,_),(14,(.int .i64 ((gL (eU l).1 (eU l).2.1 (eU l).2.2 (b.take ((bits+7)/8)) bits 16 1 0 pos).1:Nat))),(15,_),(37,_),(38,_),(40,_),(41,_),(42,_),(43,_),(44,_),(45,_)] ⟨rfl,rfl,rfl,rfl,congrArg some (by rw [hS__1]<;>rfl),rfl,rfl,rfl,rfl,rfl,rfl,rfl,rfl,rfl,trivial⟩<| .weaken [(2,_),(10,_),(12,_),(13,_),(14,_),(15,(.int .i64 ((gL (eU l).1 (eU l).2.1 (eU l).2.2 (b.take ((bits+7)/8)) bits 16 1 0 pos).2.1:Nat))),(37,_),(38,_),(40,_),(41,_),(42,_),(43,_),(44,_),(45,_)] ⟨rfl,rfl,rfl,rfl,rfl,congrArg some (by rw [hS__1]<;>rfl),rfl,rfl,rfl,rfl,rfl,rfl,rfl,rfl,trivial⟩<| .seq<| .Z rfl<| .ab rfl (λ c2=> ?_) λ c2=> ?_
  ·refine .Z rfl<| .bG rfl rfl rfl ?_
   rw [if_pos c2] at hst
   exact .inr ⟨by unfold vf;rw [<-hst],_,c2,rfl,s7.pk []⟩
  refine .skip<| .region<| .b 2 rfl (.cM (a8 .i64) ((gL (eU l).1 (eU l).2.1 (eU l).2.2 (b.take ((bits+7)/8)) bits 16 1 0 pos).1) bj rfl s7 rfl λ v1 _ s9 _=> ?_)
  refine .ap 0 s9 4 (s9.ah 5 rfl) rfl λ v2 _ s10 _=> ?_
  refine .Z rfl<| .U rfl ?_
  exact bc (k+1,(gL (eU l).1 (eU l).2.1 (eU l).2.2 (b.take ((bits+7)/8)) bits 16 1 0 pos).2.2,v2,acc++[(gL (eU l).1 (eU l).2.1 (eU l).2.2 (b.take ((bits+7)/8)) bits 16 1 0 pos).1]) ⟨s10.pk [0,1,2,3,4],by omega,hsp,by rw [if_neg c2] at hst;exact hst,by simp;omega⟩
 refine .ao<| .seq<| .h<| .cp 1 s5 (IV _ (pos) _ (s5.cell (i:=0) (j:=2) rfl rfl)) rfl λ _ s11=> .Z rfl<| .ab rfl (λ c3=> ?_) λ c3=> ?_
 ·refine .Z rfl<| .bG rfl rfl rfl ?_
  rw [show count-k=0 by omega,ve] at hE
  exact .inr ⟨by unfold vf;rw [<-hE];simp only;rw [if_neg (by omega)],9,by decide,rfl,s11.pk []⟩
 refine .skip<| .Z rfl<| .bG rfl rfl rfl ?_
 rw [show count-k=0 by omega,ve] at hE
 exact .inl ⟨acc,_,by unfold vf;rw [<-hE];simp only;rw [if_pos (by omega)],rfl,s11.pk [4]⟩
theorem vB (v:Value) (b s:List Nat) (w:World) (hv:RdL w v (a8 .u8) b) (hb:∀ x∈b,x<256) (hn:b.length<=1000000000) (h:uV b=some s):CallsV prog 244 [v] w λ r w'=>∃ v',r= .tuple #[v',.int .i64 ((0:Nat):Int)]/\Sat w [cL v' 3 (a8 .i64) s] w':=by
 refine (AL v b w hv hb hn).mono ?_
 rintro r w' (⟨l,v',h1,h2,h3⟩|⟨h1,_⟩)
 ·rw [h] at h1;cases h1;exact ⟨v',h2,h3⟩
 rw [h] at h1;cases h1
theorem sB (v u:Value) (l b s:List Nat) (bits count:Nat) (w:World) (hv:RdL w v (a8 .i64) l) (hu:RdL w u (a8 .u8) b) (hn:l.length<=1024) (hval:ep l=true) (hb:∀ x∈b,x<256) (hbits:bits<=8*b.length) (hbl:b.length<=1000000) (hcount:count<=4096) (h:vf l b bits count=some s):
  CallsV prog 245 [v,u,.int .i64 (bits:Int),.int .i64 (count:Int)] w λ r w'=>∃ v',r= .tuple #[v',.int .i64 ((0:Nat):Int)]/\Sat w [cL v' 3 (a8 .i64) s] w':=by
 refine (yi v u l b bits count w hv hu hn hval hb hbits hbl hcount).mono ?_
 rintro r w' (⟨s2,v',h1,h2,h3⟩|⟨h1,_⟩)
 ·rw [h] at h1;cases h1;exact ⟨v',h2,h3⟩
 rw [h] at h1;cases h1
theorem mE (g n k:Nat) (w:World) (h0:w.cell? ⟨g,0,none⟩=some (.int .i64 (n:Int))) (hk:64*k<=n) (hn:n<=1000000):
  CallsV prog 246 [(.pointer (some ⟨g,0,none⟩)),(.int .i64 k)] w λ r w'=>r= .int .i64 ((min 64 (n-k*64):Nat):Int)/\Sat w [] w':=by
 refine cc func246 rfl λ hs0=> .Z rfl<| .h<| .a 3 rfl (.load fN rfl (hs0.ext _ _ h0))<| .a 3 rfl (.Nn (a:=64) rfl rfl)<| .Z rfl<| .aC rfl rfl ?_
 exact ⟨rfl,hs0⟩
set_option maxHeartbeats 1000000 in
theorem AO (w0 w:World) (cs:List Chunk) (g:Nat) (lv bv kv:Value) (l blk:List Nat) (ps:List Pt) (last:Nat) (hs:Sat w0 ([aj g 245 [(.int .i64 l.length),(.int .i64 (bW l)),lv,bv,(.int .i64 last),kv],cL lv 3 (a8 .i64) (du l),cL bv 248 (cO) (ps),cz (ps),cL kv 3 (a8 .i64) (blk)]++cs) w) (hl:OkN l) (hps:bB ps=l6 l) (hca:CacheOk l last blk) (k:Nat) (hk:k<dE l.length):
  CallsV prog 211 [(.pointer (some ⟨g,0,none⟩)),(.int .i64 k)] w λ r w'=>Sat w0 ([aj g 245 [(.int .i64 l.length),(.int .i64 (bW l)),lv,bv,(.int .i64 ((k+1):Nat)),r],cL lv 3 (a8 .i64) (du l),cL bv 248 (cO) (ps),cz (ps),cL r 3 (a8 .i64) (ez l k)]++cs) w':=by
 have hnl:=hl.len
 have hnb:dE l.length<=64:=by unfold dE;omega
 have hk64:64*k<l.length:=by unfold dE at hk;omega
 refine ae func211 rfl rfl ?_
 refine .Z rfl<| .seq<| .h<| .ld 3 hs 0 rfl<| .Z rfl<| .ab rfl (λ c1=> ?_) λ c1=> ?_
 ·refine .h<| .ld 3 hs 0 rfl<| .Z rfl<| .aC rfl rfl ?_
  have hca2:=hca
  rw [c1] at hca2
  have s1:Sat w0 ([aj g 245 [(.int .i64 l.length),(.int .i64 (bW l)),lv,bv,(.int .i64 last),kv],cL lv 3 (a8 .i64) (du l),cL bv 248 (cO) (ps),cz (ps),cL kv 3 (a8 .i64) (ez l k)]++cs) w:=by
   have hq:blk=ez l k:=hca2.hit
   rw [<-hq];exact hs
  have s2:Sat w0 ([aj g 245 [(.int .i64 l.length),(.int .i64 (bW l)),lv,bv,(.int .i64 ((k+1):Nat)),kv],cL lv 3 (a8 .i64) (du l),cL bv 248 (cO) (ps),cz (ps),cL kv 3 (a8 .i64) (ez l k)]++cs) w:=by have hq:=s1;rw [c1] at hq;exact hq
  exact s2
 refine .skip<| .Z rfl<| .seq<| .h<| .ld 3 hs 0 rfl<| .Z rfl<| .ab rfl (λ c2=> ?_) λ c2=> ?_
 ·obtain ⟨x,hx,hxe⟩:=zK hps hk
  rw [if_neg (by omega)] at hxe
  have hxb:x.bys=bS (ez l k):=congrArg Prod.fst hxe
  have hcl:=cr l k
  have hpk:=mo (ez l k) (by omega)
  have hkp:=ch hx
  refine .region<| .ld 3 hs 0 rfl<| .ix 1 (hs.ah 2 rfl) rfl (hj:=ch hx)<| .fl 0 (hs.ah 2 rfl) rfl<| .lf 0 (hs.ah 2 rfl) hx rfl<| .c 0 (vB _ (x.bys) (ez l k) _ (hs.kW 3 rfl x (aa hx)) (by rw [hxb];exact ka _ _) (by rw [hxb];omega) (by rw [hxb];exact wz (by omega) (λ y hy=>by have:=hl.lt y (kS hy);omega))) rfl λ r1 _ h_1=> ?_
  obtain ⟨uv1,rfl,p1⟩:=h_1
  have s3:=(hs.aD p1).mn
  refine .Z rfl<| .h<| .st 7 s3 0 rfl λ _ s4 _=> ?_
  have s4d:=s4.sn
  refine .st 2 s4d 0 rfl (h1:=(s4d.ah 5 rfl).a7) λ _ s5 _=> ?_
  have s5d:=s5.sn
  refine .nil<| .Z rfl<| .aC rfl rfl ?_
  have s6:=s5d.pt [0,1,2,3,5]
  exact s6
 obtain ⟨x,hx,hxe⟩:=zK hps hk
 have hk1:bW l=1:=by have:=ed l;omega
 rw [if_pos hk1] at hxe
 have hxb:x.bys=aJ (cy (bh l) (ez l k)):=congrArg Prod.fst hxe
 have hxn:x.bits=(cy (bh l) (ez l k)).length:=congrArg Prod.snd hxe
 have hkp:=ch hx
 have hcl:=cr l k
 have hlk:du l=bh l:=by unfold du;rw [if_pos hk1]
 have hok:=gZ l hl.mx
 have hhl:=fC (GoodLens.wC hok) (ez l k)
 refine .dt [0,1,2,3,4] hs rfl (pl [0,1,2,3,4,5,6,7,8,9,10,11,12,13,14,15,16,17,18,19,20,21,1022,1023,24,25,26,27] .fin) λ s7 S1=> .ld 3 S1 0 rfl<| .ld 3 S1 0 rfl<| .ix 1 S1 (·.ah 2 rfl) rfl (hj:=ch hx)<| .fl 0 S1 (·.ah 2 rfl) rfl<| .lf 0 S1 (·.ah 2 rfl) hx rfl<| .ld 3 S1 0 rfl<| .ix 1 S1 (·.ah 2 rfl) rfl (hj:=ch hx)<| .fl 0 S1 (·.ah 2 rfl) rfl<| .lf 0 S1 (·.ah 2 rfl) hx rfl<| .c 2 S1 (mE _ (l.length) (k) _ (s7.cell (i:=0) (j:=0) rfl rfl) (by omega) (by omega)) rfl λ r2 _ h2=> ?_
 obtain ⟨rfl,p2⟩:=h2
 have s8:=(s7.aD p2).mn
 have S2:=s8.pt [0,1,2,3,4]
 refine ⟨S2,?_⟩
 refine .c 0 S2 (sB _ _ (du l) (x.bys) (ez l k) (x.bits) ((min 64 (l.length-k*64))) _ (s8.ah 1 rfl) (s8.kW 3 rfl x (aa hx)) (pH hl) (by rw [hlk];exact iK hok) (by rw [hxb];exact gA _) (by rw [hxn,hxb,aR];omega) (by rw [hxb,aR];omega) (by omega) (by rw [hlk,hxb,hxn,show min 64 (l.length-k*64)=(ez l k).length by rw [hcl];omega];exact CY (GoodLens.wC hok) _ (λ y hy=>(u5 hl.mx y (kS hy)).2))) rfl λ r3 _ h3=> ?_
 obtain ⟨dv1,rfl,p3⟩:=h3
 have s9:=(s8.aD p3).mn
 have S3:=s9.pt [0,1,2,3,4]
 refine ⟨S3,?_⟩
 refine .Z S3 rfl<| .seq<| .trim [0,1,4,5] rfl<| .region<| .st 7 s9 0 rfl λ _ s10 _=> ?_
 have s10d:=s10.sn
 refine .st 2 s10d 0 rfl (h1:=(s10d.ah 5 rfl).a7) λ _ s11 _=> ?_
 have s11d:=s11.sn
 refine .nil<| .Z rfl<| .aC rfl rfl ?_
 have s12:=s11d.pt [0,1,2,3,5]
 exact s12
set_option maxHeartbeats 1000000 in
theorem LU (w0 w:World) (cs:List Chunk) (g:Nat) (lv bv kv:Value) (l blk:List Nat) (ps:List Pt) (last:Nat) (hs:Sat w0 ([aj g 245 [(.int .i64 l.length),(.int .i64 (bW l)),lv,bv,(.int .i64 last),kv],cL lv 3 (a8 .i64) (du l),cL bv 248 (cO) (ps),cz (ps),cL kv 3 (a8 .i64) (blk)]++cs) w) (hl:OkN l) (hps:bB ps=l6 l) (hca:CacheOk l last blk) (i:Nat) (hi:i<l.length):
  CallsV prog 155 [(.pointer (some ⟨g,0,none⟩)),(.int .i64 i)] w λ r w'=>∃ x,l[i]? =some x/\r= .tuple #[.int .i64 (x:Int),.bool true]/\∃ last' kv' blk',CacheOk l last' blk'/\Sat w0 ([aj g 245 [(.int .i64 l.length),(.int .i64 (bW l)),lv,bv,(.int .i64 last'),kv'],cL lv 3 (a8 .i64) (du l),cL bv 248 (cO) (ps),cz (ps),cL kv' 3 (a8 .i64) (blk')]++cs) w':=by
 have hnl:=hl.len
 refine ae func155 rfl rfl ?_
 refine .Z rfl<| .seq<| .seq<| .bH 15 ((i<0)\/(l.length<=i)) ?_ ?_
 ·refine .z 3 rfl<| .B 8 rfl (λ g1=> ?_) λ g1=> ?_
  ·refine .M rfl (by simp [g1])
  refine .ld 4 hs 0 rfl<| .M rfl (by simp [g1])
 refine .ak rfl (decide_eq_false (by omega))<| .skip<| .seq ?_
 obtain ⟨x,hx⟩:∃ x,l[i]? =some x:=⟨_,getElem?_eq_getElem hi⟩
 have hcx:(ez l (i/64))[i%64]? =some x:=by rw [JW];exact hx
 have hcl:=ch hcx
 refine .region<| .a 2 rfl (.quo (b:=64) rfl rfl (by omega) (by unfold bo;omega)) ?_
 have A1:=hs.oc [0,1,2,3,4] 5
 refine .c 0 (AO _ _ _ _ _ _ _ (l) (blk) (ps) (last) A1 (hl) (hps) (hca) ((i/64)) (H9 hi)) rfl λ r1 _ h1=> ?_
 have s1:=h1.join.od [0,1,2,3,4]
 refine .a 1 rfl (.rem (b:=64) rfl rfl (by omega))<| .ix 0 (s1.ah 4 rfl) rfl<| .le 0 (s1.ah 4 rfl) hcx rfl<| .Z rfl<| .bG rfl rfl rfl ?_
 exact ⟨x,hx,rfl,_,_,_,.now (H9 hi),s1⟩
end Go.Proofs.YthffkcnbdehceaaGreat
