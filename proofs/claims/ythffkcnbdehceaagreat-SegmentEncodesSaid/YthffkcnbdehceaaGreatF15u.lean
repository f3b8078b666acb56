/-The walks of the functions of F15u,printed by our own program (kwgen.py) out of our descriptions (base.py). -/
import Derived.Test.YthffkcnbdehceaaGreatM15v
import Derived.Test.YthffkcnbdehceaaGreatF16c
open List
open Go.Proofs.Tryz
set_option linter.unusedVariables false
set_option linter.unusedSimpArgs false
set_option linter.unusedSectionVars false
namespace Go.Proofs.YthffkcnbdehceaaGreat
open Go.RowKit Go.Kw
set_option maxRecDepth 100000
theorem CL (v:Value) (l:List Nat) (n m:Nat) (w:World) (hv:RdL w v (aa .u8) l) (hb:∀ x∈l,x<256) (hn:n<=128) (hm:m<=31) (hl:l.length=(n*m+7)/8):
  CallsV prog 268 [v,(.int .i64 n),(.int .i64 m)] w λ r w'=>Sat w [cL r 3 (aa .i64) (jD l n m)] w':=by
 refine cg func268 rfl λ hs0=> .seq ?_
 have hnm:n*m<=128*31:=Tm hn hm
 refine .U rfl<| .h<| .c 4 (mN _ (l) ((n*m)) _ (hv.ext hs0.ext) (by omega) (by omega)) rfl λ r1 _ h1=> ?_
 obtain ⟨rg_1,rv1,rfl,p1⟩:=h1
 have s1:=hs0.az p1
 refine .Z rfl<| .seq ?_
 have s2:=s1.aZ 1 rfl (show l.take (((n*m)+7)/8)=l from PV (by omega))
 refine .region<| .b 1 rfl (.cP (aa .i64) (0) aQ rfl s2 rfl rfl (by omega) (by omega) (by omega) λ v1 _ s3 _=> ?_)
 have s3:=s3.nn
 refine .Z rfl<| .seq<| .h<| .ln 1 (s3.ah 2 rfl) rfl<| .Z rfl<| .block ?_
 have s4:=s3.aZ 2 rfl (show List.replicate (n) 0=mE l n m 0 from (DR l n m).symm)
 refine .lp [2,7,9] rfl (α:=Nat) (λ k=>[(24,(.int .i64 n)),(25,(.int .i64 k))]) (λ k w'=>Sat w (s4.U [(0,aq rg_1 274 [rv1,(.int .i64 ((n*m):Nat)),(.int .i64 ((m*k):Nat))]),(2,cL v1 3 (aa .i64) (mE l n m k))]) w'/\(k<=n)) (λ k=>n-k) 0 ⟨If some (If (Value.int .i64) (by simp)),rfl,rfl,rfl,rfl,trivial⟩ ⟨s4,KD _⟩ ?_
 rintro k w3 ⟨s5,hk⟩
 refine .Z rfl<| .seq<| .ae rfl (λ c1=> ?_) λ c1=> ?_
 ·refine .skip<| .seq<| .block<| .Z rfl<| .seq ?_
  have hkm:m*(k+1)<=n*m:=by rw [Sy n];exact SL m c1
  refine .region<| .z 2 rfl ?_
  have A1:=s5.tail.oc [0,1,2] 2
  refine .c 0 (Es _ _ _ _ _ (l) ((n*m)) ((m*k)) (m) A1 (hb) (by omega) (by omega) (by omega) (by rw [<-Nat.mul_succ];exact hkm)) rfl λ r2 _ h2=> ?_
  obtain ⟨rfl,p2⟩:=h2
  have s6:=(Sat.order [0,1,2] (by decide) p2.join).aI.nn
  refine .Z rfl<| .region<| .a 3 rfl (.Ht (by rw [underlying132]<;>rfl) underlying3 rfl (qX (by have:=rF l (m*k) m;have:2^m<=2^31:=Qg (by decide) hm;omega)))<| .ix 0 (s6.ah 2 rfl) rfl (hj:=by rw [pH];all_goals omega)<| .f rfl (.cH (a:=(sL l (m*k) m)) 2 cQ s6 rfl rfl rfl rfl (by rw [pH];all_goals omega) λ w5 s7 _=> ?_)
  refine .nil<| .U rfl ?_
  have s8:Sat w [aq rg_1 274 [rv1,(.int .i64 ((n*m):Nat)),(.int .i64 ((m*(k+1)):Nat))],cL rv1 5 (aa .u8) (l),cL v1 3 (aa .i64) ((mE l n m k).set k (sL l (m*k) m))] w5:=s7
  have s9:=s8.aZ 2 rfl (show (mE l n m k).set k (sL l (m*k) m)=mE l n m (k+1) from H2 c1)
  exact aT (k+1) ⟨s9,by omega⟩
 refine .ao<| .Z rfl<| .aC rfl rfl ?_
 have s11:=(s5.pk [2]).aZ 0 rfl (show mE l n m k=jD l n m from by rw [show k=n by omega,H0])
 exact s11
set_option maxHeartbeats 1000000 in
theorem zI (v:Value) (b:List Nat) (w:World) (hv:RdL w v (aa .u8) b) (hb:∀ x∈b,x<256) (hn:b.length<=1000000000):
  CallsV prog 244 [v] w λ r w'=>(∃ l v',td b=some l/\r= .tuple #[v',.int .i64 ((0:Nat):Int)]/\Sat w [cL v' 3 (aa .i64) l] w')\/(td b=none/\r= .tuple #[.slice none 0 0,.int .i64 ((9:Nat):Int)]/\Sat w [] w'):=by
 refine cg func244 rfl λ hs0=> .seq ?_
 have hlX:=Q7 (GY b) hn
 have hlY:=Q7 (GZ b) hn
 refine .U rfl<| .scope 0 (λ L' w'=>Weak [] L'/\Sat w [] w'/\(td b=none)) rfl ?_ ?_
 ·refine .Z rfl<| .Z rfl<| .Z rfl<| .h<| .a 1 rfl (.build O1 rfl ⟨(hv.ext hs0.ext).ab,rfl,trivial⟩ rfl)<| .al 0 hs0 rfl λ b1 _ s1 _ _=> .sa 0 s1 0 (vs:=[v,(.bool true)]) rfl (λ v h=>by simp only [PR,PU,Q9] at h;rcases h with rfl|rfl;exact (hv.ext s1.ext).ab;exact rfl) λ _ s2 _=> .nil<| .h ?_
  have A1:=s2.tail.oc [0] 1
  refine .c 0 (mM _ _ _ _ _ _ b 128 A1 hv (hb) (by omega) (by omega)) rfl λ r1 _ h_1=> ?_
  obtain ⟨rfl,bv1,hbv1,p1⟩:=h_1
  have s3:=(Sat.order [0] (by decide) p1.join).aI.nn
  have A2:=s3.tail.oc [0] 1
  refine .c 0 (mM _ _ _ _ _ _ ((aW true b 128).2.2) 31 A2 hbv1 (λ x hx=>hb x (GX b x hx)) (hlX) (by omega)) rfl λ r2 _ h2=> ?_
  obtain ⟨rfl,bv2,hbv2,p2⟩:=h2
  have s4:=(Sat.order [0] (by decide) p2.join).aI.nn
  have A3:=s4.tail.oc [0] 1
  refine .c 0 (mM _ _ _ _ _ _ ((aW ((aW true b 128).2.1) ((aW true b 128).2.2) 31).2.2) 128 A3 hbv2 (λ x hx=>hb x (M3 b x hx)) (hlY) (by omega)) rfl λ r3 w5 h3=> ?_
  obtain ⟨rfl,bv3,hbv3,p3⟩:=h3
  have s5:=(Sat.order [0] (by decide) p3.join).aI.nn
  refine .Z rfl ?_
  have hX:=KK b
  have hY:=KL b
  have hZ:=NC b
  have hXY:=M0 b
  have hlZ:=M4 b
  have s6:Sat w [aq b1 327 [bv3,(.bool (uZ b).2.1)]] w5:=s5
  have hbz:RdL w bv3 (aa .u8) (uZ b).2.2:=hbv3
  refine .weaken [(0,_),(2,_),(3,_),(4,_),(5,_),(6,_),(7,_),(8,(.int .i64 ((uX b).1:Nat))),(9,_),(10,_),(13,_),(14,_),(15,_),(16,_),(17,_)] ⟨rfl,rfl,rfl,rfl,rfl,rfl,rfl,If some (rfl),rfl,rfl,rfl,rfl,rfl,rfl,rfl,trivial⟩<| .weaken [(0,_),(2,_),(3,_),(4,_),(5,_),(6,_),(7,_),(8,_),(9,(.int .i64 ((uY b).1:Nat))),(10,_),(13,_),(14,_),(15,_),(16,_),(17,_)] ⟨rfl,rfl,rfl,rfl,rfl,rfl,rfl,rfl,If some (rfl),rfl,rfl,rfl,rfl,rfl,rfl,trivial⟩<| .weaken [(0,_),(2,_),(3,_),(4,_),(5,_),(6,_),(7,_),(8,_),(9,_),(10,(.int .i64 ((uZ b).1:Nat))),(13,_),(14,_),(15,_),(16,_),(17,_)] ⟨rfl,rfl,rfl,rfl,rfl,rfl,rfl,rfl,rfl,If some (rfl),rfl,rfl,rfl,rfl,rfl,trivial⟩<| .h<| .a 4 rfl (.quo (b:=8) rfl rfl (by omega) (by unfold aY;omega))<| .Z rfl<| .weaken [(0,_),(2,_),(3,_),(4,_),(5,_),(6,_),(7,_),(8,_),(9,_),(10,_),(11,(.int .i64 (uS b))),(13,_),(14,_),(15,_),(16,_),(17,_),(18,_),(19,_),(20,_),(21,_),(22,_)] ⟨rfl,rfl,rfl,rfl,rfl,rfl,rfl,rfl,rfl,rfl,If some (rfl),rfl,rfl,rfl,rfl,rfl,rfl,rfl,rfl,rfl,rfl,trivial⟩<| .seq<| .seq<| .bN 32 (((!(uZ b).2.1)=true)\/(((uZ b).2.2).length<(uS b))) ?_ ?_
  ·refine .ld 1 s6 0 rfl<| .e rfl (.cO rfl)<| .z 1 rfl ?_
   by_cases g1:(!(uZ b).2.1)=true
   ·refine .Gt 26 rfl (g1)<| .M rfl (by simp [g1])
   refine .Gf 26 rfl (by simpa using g1)<| .ld 1 s6 0 rfl<| .ln 0 (hbz.ext s6.ext) rfl<| .M rfl (by simp [g1])
  refine .ae rfl (λ c1=> ?_) λ c1=> ?_
  ·refine .Hy ?_
   exact ⟨trivial,s6.pk [],GU (by simpa using c1)⟩
  refine .skip<| .seq ?_
  have hz1:¬ ((uZ b).2.1=false\/(uZ b).2.2.length<uS b):=by simpa using c1
  have hsz:uS b<=(uZ b).2.2.length:=by simp only [not_or] at hz1;omega
  refine .region<| .ld 1 s6 0 rfl<| .a 1 rfl (.aV (E:=aa .u8) (a:=0) (c:=(uS b)) ch rfl (hbz.ext s6.ext) rfl ⟨_,rfl⟩ (by omega) (hsz))<| .c 2 (CL _ ((((uZ b).2.2).take (uS b)).drop 0) ((uX b).1) ((uY b).1) _ (((hbz.ext s6.ext)).sub (a:=0) (b:=(uS b)) (by omega) (hsz)) (λ x hx=>hb x (GW b x (Q8 hx))) (hX) (hY) (by rw [show ∀ l:List Nat,l.drop 0=l from λ _=>rfl,KV];exact Qk hsz)) rfl λ r4 _ h4=> ?_
  have s8:=s6.az h4
  refine .Z rfl<| .h<| .ld 1 s8 0 rfl<| .a 1 rfl (.aV (E:=aa .u8) (a:=(uS b)) (c:=((uZ b).2.2).length) ch rfl (hbz.ext s8.ext) ⟨_,rfl⟩ rfl (hsz) (KB _))<| .st 1 s8 0 rfl (h1:=(((hbz.ext s8.ext)).sub (a:=(uS b)) (b:=((uZ b).2.2).length) (hsz) (KB _)).ab) λ _ s9 _=> .nil ?_
  have hdr:RdL w (fu (aa .u8).s bv3 (uS b) (((uZ b).2.2).length)) (aa .u8) ((uZ b).2.2.drop (uS b)):=by have h:=hbz.sub (a:=uS b) (b:=(uZ b).2.2.length) hsz (KB _);rw [PW] at h;exact h
  refine .seq<| .block<| .lq [0,4,7,8,9] rfl (α:=Nat×Bool×Value×List Nat×Nat×List Nat) (λ (fQ,ok,bv,bl,at1,vs)=>[(6,(.int .i64 ((((at1:Nat):Int)-1)))),(10,(.int .i64 fQ))]) (λ (fQ,ok,bv,bl,at1,vs) w'=>Sat w [aq b1 327 [bv,(.bool ok)],cL r4 3 (aa .i64) (vs)] w'/\(HS (uY b).1 (uX b).1 fQ ok bl at1 vs=uE b)/\(RdL w bv (aa .u8) bl)/\(∀ x∈bl,x<256)/\(bl.length<=1000000000)/\(vs.length=(uX b).1)/\(∀ x∈vs,x<=2147483647)/\(at1<=128)/\(fQ<=128)) (λ (fQ,ok,bv,bl,at1,vs)=>fQ) ((uZ b).1,(uZ b).2.1,(fu (aa .u8).s bv3 (uS b) (((uZ b).2.2).length)),(uZ b).2.2.drop (uS b),0,jD ((uZ b).2.2.take (uS b)) (uX b).1 (uY b).1) ⟨s9,rfl,hdr,λ x hx=>hb x (GW b x (Qi hx)),by rw [PK];omega,wh ..,H3 _ _ _ hY,KD _,hZ⟩ ?_
  rintro ⟨fQ,ok,bv,bl,at1,vs⟩ w8 ⟨s10,hE,hbl,hblb,hbll,hvl,hvb,hat,hcnt⟩
  refine .seq<| .Z rfl<| .ae rfl (λ c2=> ?_) λ c2=> ?_
  ·refine .skip<| .seq<| .block<| .seq ?_
   obtain ⟨c,rfl⟩:∃ c,fQ=c+1:=⟨fQ-1,by omega⟩
   have hlim:2147483647/2^(uY b).1<=1000000000000:=Q7 (QH _ _) (by omega)
   have hbll2:(aW ok bl 128).2.2.length<=1000000000:=Q7 (gG _ _ _) hbll
   have hG:=kX ok bl 128
   have hH:=kX (aW ok bl 128).2.1 (aW ok bl 128).2.2 (2147483647/2^(uY b).1)
   have hH2:=JJ hH
   rw [HS] at hE
   refine .region<| .z 1 rfl ?_
   have A4:=s10.tail.oc [0,1] 1
   refine .c 0 (mM _ _ _ _ _ _ bl 128 A4 hbl (hblb) (hbll) (by omega)) rfl λ r5 _ h5=> ?_
   obtain ⟨rfl,bv4,hbv4,p5⟩:=h5
   have s11:=(Sat.order [0,1] (by decide) p5.join).aI.nn
   refine .e rfl (.add rfl rfl (by unfold aY;omega))<| .Z rfl<| .h<| .a 1 rfl (.Ke (a:=2147483647) rfl rfl (by have:=QH 2147483647 (2^(uY b).1);(try simp only [IntKind.bits]);omega)) ?_
   have A5:=s11.tail.oc [0,1] 1
   refine .c 0 (mM _ _ _ _ _ _ ((aW ok bl 128).2.2) (2147483647/2^(uY b).1) A5 hbv4 (λ x hx=>hblb x (dK _ _ _ x hx)) (hbll2) (hlim)) rfl λ r6 _ h6=> ?_
   obtain ⟨rfl,bv5,hbv5,p6⟩:=h6
   have s12:=(Sat.order [0,1] (by decide) p6.join).aI.nn
   refine .Z rfl<| .seq<| .seq<| .bN 66 ((((!(aW ((aW ok bl 128).2.1) ((aW ok bl 128).2.2) (2147483647/2^(uY b).1)).2.1)=true)\/((((((at1:Nat):Int)-1)+(((aW ok bl 128).1:Nat):Int)):Int)<(0:Int)))\/((((uX b).1:Nat):Int)<=(((((at1:Nat):Int)-1)+(((aW ok bl 128).1:Nat):Int)):Int))) ?_ ?_
   ·refine .ld 1 s12 0 rfl<| .e rfl (.cO rfl)<| .z 1 rfl ?_
    by_cases g2:(!(aW ((aW ok bl 128).2.1) ((aW ok bl 128).2.2) (2147483647/2^(uY b).1)).2.1)=true
    ·refine .Gt 58 rfl (g2)<| .M rfl (by simp [g2])
    refine .Gf 58 rfl (by simpa using g2)<| .a 1 rfl (.lss rfl rfl)<| .z 2 rfl<| .B 62 rfl (λ g3=> ?_) λ g3=> ?_
    ·refine .M rfl (by simp [g2,g3])
    refine .a 2 rfl (.geq rfl rfl)<| .M rfl (by simp [g2,g3])
   refine .ae rfl (λ c3=> ?_) λ c3=> ?_
   ·refine .Hy ?_
    exact ⟨trivial,s12.pk [],GV (by rw [<-hE,PI (c3.elim (λ h=>h.elim (λ h=> .inl (by simpa using h)) λ h=> .inr (.inl (by omega))) λ h=> .inr (.inr (by omega)))])⟩
   refine .skip ?_
   have hcc:¬ ((aW (aW ok bl 128).2.1 (aW ok bl 128).2.2 (2147483647/2^(uY b).1)).2.1=false\/at1+(aW ok bl 128).1=0\/(uX b).1<at1+(aW ok bl 128).1):=λ h=>c3 (h.elim (λ h=> .inl (.inl (by simp [h]))) λ h=>h.elim (λ h=> .inl (.inr (by omega))) λ h=> .inr (by omega))
   have hE2:=hE
   rw [M2 hcc] at hE2
   simp only [not_or] at hcc
   refine .weaken [(0,_),(4,_),(6,(.int .i64 ((at1+(aW ok bl 128).1-1):Nat))),(7,_),(8,_),(9,_),(10,_),(12,_),(45,_),(49,_),(50,_),(51,_),(52,_),(53,_),(54,_)] ⟨rfl,rfl,If some (If (Value.int .i64) (by omega)),rfl,rfl,rfl,rfl,rfl,rfl,rfl,rfl,rfl,rfl,rfl,rfl,trivial⟩ ?_
   obtain ⟨y,hy⟩:∃ y,vs[at1+(aW ok bl 128).1-1]? =some y:=⟨_,py (by omega)⟩
   have hyb:=hvb y (a7 hy)
   rw [getD_some hy] at hE2
   have hshp1:=(s12.ah (E:=aa .i64) 1 rfl).iH (by decide)
   refine .iF [0,1] [0] s12 rfl rfl 9 (pl [0,1,2,3,4,5,6,7,8] (.bar 9 .fin)) mixed (by kernel_rfl) ?_
   have s14:=s12.drew
   have S1:=s14.pk [0,1]
   refine .ix 2 S1 (·.ah 1 rfl) rfl<| .le 0 S1 (·.ah 1 rfl) hy rfl<| .z 2 S1 rfl<| .e rfl (λ _ s=> .HH rfl rfl (by omega) (by omega)) S1<| .e rfl (λ _ s=> .PH rfl rfl (by omega) (by omega)) S1<| .ix 0 S1 (·.ah 1 rfl) rfl<| .bar rfl rfl rfl (OpE.cH (a:=(y|||((aW ((aW ok bl 128).2.1) ((aW ok bl 128).2.2) (2147483647/2^(uY b).1)).1*2^(uY b).1))) 1 cQ s14 rfl rfl rfl rfl (by omega) λ _ s15 _=> ?_)
   have S2:=s15.pk [0]
   refine ⟨S2,?_⟩
   refine .fin<| .U rfl ?_
   exact ⟨(c,(aW (aW ok bl 128).2.1 (aW ok bl 128).2.2 (2147483647/2^(uY b).1)).2.1,bv5,(aW (aW ok bl 128).2.1 (aW ok bl 128).2.2 (2147483647/2^(uY b).1)).2.2,at1+(aW ok bl 128).1,vs.set (at1+(aW ok bl 128).1-1) (y|||((aW ((aW ok bl 128).2.1) ((aW ok bl 128).2.2) (2147483647/2^(uY b).1)).1*2^(uY b).1))),⟨If some (If (Value.int .i64) (by omega)),rfl,rfl,rfl,rfl,rfl,rfl,trivial⟩,⟨s15,hE2,hbv5,λ x hx=>hblb x (dK _ _ _ x (dK _ _ _ x hx)),Q7 (gG _ _ _) hbll2,by rw [PJ];exact hvl,λ z hz=>by
    rcases R2 hz with hz|rfl
    ·exact hvb z hz
    ·exact JI hyb hH2,by omega,by omega⟩,(show ((c))<(c+1) from by omega)⟩
  refine .ao<| .h<| .c 1 (AV _ (vs) _ (s10.ah 1 rfl) (by omega) (hvb)) rfl λ r7 _ h7=> ?_
  obtain ⟨pv1,rfl,p7⟩:=h7
  have s16:=(s10.az p7).nn
  refine .Z rfl<| .seq<| .h<| .cp 2 s16 (uU _ _ (bD (vs)) (b) _ (s16.ah 2 rfl) (hv.ext s16.ext) (ka _ _) (hb)) rfl λ _ s17=> .e rfl (.mF rfl)<| .nil<| .ae rfl (λ c4=> ?_) λ c4=> ?_
  ·refine .Hy ?_
   exact ⟨trivial,s17.pk [],by rw [yM hz1 (show uE b=some vs by rw [<-hE,show fQ=0 by omega,HS]),M2 (by simpa using c4)]⟩
  refine .skip<| .seq<| .Z rfl<| .cj rfl rfl rfl ?_
  have hfin:=yM hz1 (show uE b=some vs by rw [<-hE,show fQ=0 by omega,HS])
  rw [PI (by simpa using c4)] at hfin
  exact .inl ⟨_,_,hfin,rfl,s17.pk [1]⟩
 rintro L' w14 ⟨hw1,s20,hno⟩
 refine .weaken _ hw1<| .seq<| .skip<| .Z rfl<| .cj rfl rfl rfl ?_
 exact .inr ⟨hno,rfl,s20⟩
theorem tC (v:Value) (b s:List Nat) (w:World) (hv:RdL w v (aa .u8) b) (hb:∀ x∈b,x<256) (hn:b.length<=1000000000) (h:td b=some s):CallsV prog 244 [v] w λ r w'=>∃ v',r= .tuple #[v',.int .i64 ((0:Nat):Int)]/\Sat w [cL v' 3 (aa .i64) s] w':=by
 refine (zI v b w hv hb hn).mono ?_
 rintro r w' (⟨l,v',h1,h2,h3⟩|⟨h1,_⟩)
 ·rw [h] at h1;cases h1;exact ⟨v',h2,h3⟩
 rw [h] at h1;cases h1
theorem Er (g n k:Nat) (w:World) (h0:w.cell? ⟨g,0,none⟩=some (.int .i64 (n:Int))) (hk:64*k<=n) (hn:n<=1000000):
  CallsV prog 246 [(.pointer (some ⟨g,0,none⟩)),(.int .i64 k)] w λ r w'=>r= .int .i64 ((min 64 (n-k*64):Nat):Int)/\Sat w [] w':=by
 refine cg func246 rfl λ hs0=> .Z rfl<| .h<| .a 3 rfl (.load gO rfl (hs0.ext _ _ h0))<| .a 3 rfl (.Kg (a:=64) rfl rfl)<| .Z rfl<| .aC rfl rfl ?_
 exact ⟨rfl,hs0⟩
set_option maxHeartbeats 1000000 in
theorem zJ (w0 w:World) (cs:List Chunk) (g:Nat) (lv bv kv:Value) (l blk:List Nat) (ps:List Pt) (last:Nat) (hs:Sat w0 ([aq g 245 [(.int .i64 l.length),(.int .i64 (br l)),lv,bv,(.int .i64 last),kv],cL lv 3 (aa .i64) (e9 l),cL bv 248 (df) (ps),cG (ps),cL kv 3 (aa .i64) (blk)]++cs) w) (hl:OkN l) (h0:br l=0) (hps:bB ps=lA l) (hca:CacheOk l last blk) (k:Nat) (hk:k<dq l.length):
  CallsV prog 211 [(.pointer (some ⟨g,0,none⟩)),(.int .i64 k)] w λ r w'=>Sat w0 ([aq g 245 [(.int .i64 l.length),(.int .i64 (br l)),lv,bv,(.int .i64 ((k+1):Nat)),r],cL lv 3 (aa .i64) (e9 l),cL bv 248 (df) (ps),cG (ps),cL r 3 (aa .i64) (fP l k)]++cs) w':=by
 have hnl:=hl.len
 have hnb:dq l.length<=64:=by unfold dq;omega
 have hk64:64*k<l.length:=by unfold dq at hk;omega
 refine ai func211 rfl rfl ?_
 refine .Z rfl<| .seq<| .h<| .ld 3 hs 0 rfl<| .Z rfl<| .ae rfl (λ c1=> ?_) λ c1=> ?_
 ·refine .h<| .ld 3 hs 0 rfl<| .Z rfl<| .aC rfl rfl ?_
  have hca2:=hca
  rw [c1] at hca2
  have s1:Sat w0 ([aq g 245 [(.int .i64 l.length),(.int .i64 (br l)),lv,bv,(.int .i64 last),kv],cL lv 3 (aa .i64) (e9 l),cL bv 248 (df) (ps),cG (ps),cL kv 3 (aa .i64) (fP l k)]++cs) w:=by
   have hq:blk=fP l k:=hca2.hit
   rw [<-hq];exact hs
  have s2:Sat w0 ([aq g 245 [(.int .i64 l.length),(.int .i64 (br l)),lv,bv,(.int .i64 ((k+1):Nat)),kv],cL lv 3 (aa .i64) (e9 l),cL bv 248 (df) (ps),cG (ps),cL kv 3 (aa .i64) (fP l k)]++cs) w:=by have hq:=s1;rw [c1] at hq;exact hq
  exact s2
 refine .skip<| .Z rfl<| .seq<| .h<| .ld 3 hs 0 rfl<| .Z rfl<| .ea rfl (PM (by omega)) ?_
 obtain ⟨x,hx,hxe⟩:=Gx hps hk
 rw [M2 (by omega)] at hxe
 have hxb:x.bys=bD (fP l k):=If Prod.fst hxe
 have hcl:=cM l k
 have hpk:=jw (fP l k) (by omega)
 have hkp:=bQ hx
 refine .region<| .ld 3 hs 0 rfl<| .ix 1 (hs.ah 2 rfl) rfl (hj:=bQ hx)<| .fl 0 (hs.ah 2 rfl) rfl<| .lf 0 (hs.ah 2 rfl) hx rfl<| .c 0 (tC _ (x.bys) (fP l k) _ (hs.o4 3 rfl x (a7 hx)) (by rw [hxb];exact ka _ _) (by rw [hxb];omega) (by rw [hxb];exact uA (by omega) (λ y hy=>by have:=hl.lt y (l8 hy);omega))) rfl λ r1 _ h_1=> ?_
 obtain ⟨uv1,rfl,p1⟩:=h_1
 have s3:=(hs.az p1).mn
 refine .Z rfl<| .h<| .st 7 s3 0 rfl λ _ s4 _=> ?_
 have s4d:=s4.sn
 refine .st 2 s4d 0 rfl (h1:=(s4d.ah 5 rfl).ab) λ _ s5 _=> ?_
 have s5d:=s5.sn
 refine .nil<| .Z rfl<| .aC rfl rfl ?_
 have s6:=s5d.pt [0,1,2,3,5]
 exact s6
set_option maxHeartbeats 1000000 in
theorem Lg (w0 w:World) (cs:List Chunk) (g:Nat) (lv bv kv:Value) (l blk:List Nat) (ps:List Pt) (last:Nat) (hs:Sat w0 ([aq g 245 [(.int .i64 l.length),(.int .i64 (br l)),lv,bv,(.int .i64 last),kv],cL lv 3 (aa .i64) (e9 l),cL bv 248 (df) (ps),cG (ps),cL kv 3 (aa .i64) (blk)]++cs) w) (hl:OkN l) (h0:br l=0) (hps:bB ps=lA l) (hca:CacheOk l last blk) (i:Nat) (hi:i<l.length):
  CallsV prog 155 [(.pointer (some ⟨g,0,none⟩)),(.int .i64 i)] w λ r w'=>∃ x,l[i]? =some x/\r= .tuple #[.int .i64 (x:Int),.bool true]/\∃ last' kv' blk',CacheOk l last' blk'/\Sat w0 ([aq g 245 [(.int .i64 l.length),(.int .i64 (br l)),lv,bv,(.int .i64 last'),kv'],cL lv 3 (aa .i64) (e9 l),cL bv 248 (df) (ps),cG (ps),cL kv' 3 (aa .i64) (blk')]++cs) w':=by
 have hnl:=hl.len
 refine ai func155 rfl rfl ?_
 refine .Z rfl<| .seq<| .seq<| .bN 15 ((i<0)\/(l.length<=i)) ?_ ?_
 ·refine .z 3 rfl<| .B 8 rfl (λ g1=> ?_) λ g1=> ?_
  ·refine .M rfl (by simp [g1])
  refine .ld 4 hs 0 rfl<| .M rfl (by simp [g1])
 refine .aj rfl (IN (by omega))<| .skip<| .seq ?_
 obtain ⟨x,hx⟩:∃ x,l[i]? =some x:=⟨_,py hi⟩
 have hcx:(fP l (i/64))[i%64]? =some x:=by rw [JA];exact hx
 have hcl:=bQ hcx
 refine .region<| .a 2 rfl (.quo (b:=64) rfl rfl (by omega) (by unfold aY;omega)) ?_
 have A1:=hs.oc [0,1,2,3,4] 5
 refine .c 0 (zJ _ _ _ _ _ _ _ (l) (blk) (ps) (last) A1 (hl) h0 (hps) (hca) ((i/64)) (Gy hi)) rfl λ r1 _ h1=> ?_
 have s1:=h1.join.od [0,1,2,3,4]
 refine .a 1 rfl (.rem (b:=64) rfl rfl (by omega))<| .ix 0 (s1.ah 4 rfl) rfl<| .le 0 (s1.ah 4 rfl) hcx rfl<| .Z rfl<| .cj rfl rfl rfl ?_
 exact ⟨x,hx,rfl,_,_,_,.now (Gy hi),s1⟩
end Go.Proofs.YthffkcnbdehceaaGreat
