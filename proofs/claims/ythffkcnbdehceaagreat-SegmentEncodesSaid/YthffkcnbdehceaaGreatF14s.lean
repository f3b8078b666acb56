/-The walks of the functions of F14s,printed by our own program (kwgen.py) out of our descriptions (base.py). -/
import Derived.Test.YthffkcnbdehceaaGreatF41
import Derived.Test.YthffkcnbdehceaaGreatM14s
open List
open Go.Proofs.Tryz
set_option linter.unusedVariables false
set_option linter.unusedSimpArgs false
set_option linter.unusedSectionVars false
namespace Go.Proofs.YthffkcnbdehceaaGreat
open Go.RowKit Go.Kw
set_option maxRecDepth 100000
theorem zC (v:Value) (c:List Nat) (w:World) (hv:RdL w v (aa .i64) c) (hn:c.length<=1024) (hc:∀ x∈c,x<=4096):
  CallsV prog 237 [v,(.int .i64 (15:Nat))] w λ r w'=>r= .int .i64 ((0:Nat):Int)/\Sat w [] w':=by
 refine cg func237 rfl λ hs0=> .Z rfl<| .seq<| .seq<| .bN 13 ((15<1)\/(15<15)) ?_ ?_
 ·refine .M rfl (by simp [])
 refine .aj rfl (IN (by omega))<| .skip<| .seq<| .h<| .ln 1 (hv.ext hs0.ext) rfl<| .Z rfl<| .aj rfl (IN (by omega))<| .skip<| .Z rfl<| .seq<| .h<| .ln 1 (hv.ext hs0.ext) rfl<| .Z rfl<| .block<| .lq [1,17,18] rfl (α:=Nat×Nat) (λ (k,p)=>[(5,(.int .i64 p)),(19,(.int .i64 k))]) (λ (k,p) w'=>Sat w [] w'/\(k<=c.length)/\(p<=k)) (λ (k,p)=>c.length-k) (0,0) ⟨hs0,KD _,KB _⟩ ?_
 rintro ⟨k,p⟩ w1 ⟨s1,hk,hp⟩
 refine .Z rfl<| .seq<| .ae rfl (λ c1=> ?_) λ c1=> ?_
 ·refine .skip<| .seq<| .block<| .seq ?_
  obtain ⟨x,hx⟩:∃ x,(c)[k]? =some x:=⟨_,py c1⟩
  refine .region<| .ix 0 (hv.ext s1.ext) rfl<| .le 0 (hv.ext s1.ext) hx rfl<| .Z rfl<| .seq<| .seq<| .bN 28 ((x<0)\/(4096<x)) ?_ ?_
  ·refine .z 3 rfl<| .B 25 rfl (λ g1=> ?_) λ g1=> ?_
   ·refine .M rfl (by simp [g1])
   refine .M rfl (by simp [g1])
  refine .aj rfl (IN (by have:=hc x (a7 hx);omega))<| .skip<| .Z rfl<| .ae rfl (λ c2=> ?_) λ c2=> ?_
  ·refine .U rfl<| .U rfl ?_
   exact aT (k+1,(p+1)) ⟨s1,by omega,by omega⟩
  refine .skip<| .U rfl ?_
  exact aT (k+1,p) ⟨s1,by omega,by omega⟩
 refine .ao<| .seq<| .h<| .a 3 rfl (.HH (a:=1) (b:=15) rfl rfl (by omega) (by omega))<| .Z rfl<| .aj rfl (IN (by omega))<| .skip<| .Z rfl<| .aC rfl rfl ?_
 exact ⟨rfl,s1⟩
theorem CF (v:Value) (l:List Nat) (w:World) (hv:RdL w v (aa .i64) l) (hn:l.length<=1024):
  CallsV prog 265 [v] w λ r w'=>r= .bool (eC l)/\Sat w [] w':=by
 refine cg func265 rfl λ hs0=> .Z rfl<| .seq<| .h<| .ln 1 (hv.ext hs0.ext) rfl<| .Z rfl<| .aj rfl (IN (by omega))<| .skip<| .Z rfl<| .seq<| .h<| .ln 1 (hv.ext hs0.ext) rfl<| .Z rfl<| .block<| .lq [9,10] rfl (α:=Nat×Nat) (λ (k,s)=>[(3,(.int .i64 s)),(11,(.int .i64 k))]) (λ (k,s) w'=>Sat w [] w'/\(k<=l.length)/\(s=iB (l.take k))/\(s<=k*2^14)/\(∀ x∈l.take k,x<=15)) (λ (k,s)=>l.length-k) (0,0) ⟨hs0,KD _,rfl,KD _,by simp⟩ ?_
 rintro ⟨k,s⟩ w1 ⟨s1,hk,hsum,hsb,hall⟩
 refine .Z rfl<| .seq<| .ae rfl (λ c1=> ?_) λ c1=> ?_
 ·refine .skip<| .seq<| .block<| .seq ?_
  obtain ⟨x,hx⟩:∃ x,(l)[k]? =some x:=⟨_,py c1⟩
  refine .region<| .ix 0 (hv.ext s1.ext) rfl<| .le 0 (hv.ext s1.ext) hx rfl<| .Z rfl<| .seq<| .seq<| .bN 20 ((x<0)\/(15<x)) ?_ ?_
  ·refine .z 3 rfl<| .B 17 rfl (λ g1=> ?_) λ g1=> ?_
   ·refine .M rfl (by simp [g1])
   refine .M rfl (by simp [g1])
  refine .ae rfl (λ c2=> ?_) λ c2=> ?_
  ·refine .Z rfl<| .aC rfl rfl ?_
   exact ⟨by rw [rP (a7 hx) (by omega)],s1⟩
  refine .skip<| .Z rfl<| .ae rfl (λ c3=> ?_) λ c3=> ?_
  ·have h2:2^(15-x)<=2^14:=Qg (by decide) (by omega)
   refine .region<| .a 4 rfl (.HH (a:=1) rfl rfl (by omega) (by omega))<| .Z rfl<| .U rfl ?_
   exact aT (k+1,(s+(1*2^(15-x)))) ⟨s1,by omega,by rw [ak hx,fA,<-hsum];simp [iB,kr,c3],by omega,all_take hall hx (by omega)⟩
  refine .skip<| .U rfl ?_
  exact aT (k+1,s) ⟨s1,by omega,by rw [ak hx,fA,<-hsum];simp [iB,kr,c3],by omega,all_take hall hx (by omega)⟩
 refine .ao<| .Z rfl<| .aC rfl rfl ?_
 rw [show k=l.length by omega,PW] at hsum hall
 exact ⟨by rw [u6 hall,hsum],s1⟩
theorem CG (v:Value) (l:List Nat) (w:World) (hv:RdL w v (aa .i64) l) (hn:l.length<=1024) (hval:eC l=true):
  CallsV prog 239 [v] w λ r w'=>∃ v',r= .tuple #[v',.int .i64 ((0:Nat):Int)]/\Sat w [cL v' 132 (aa .u64) (ff l)] w':=by
 refine cg func239 rfl λ hs0=> .seq ?_
 have hb:=ud hval
 refine .U rfl<| .seq<| .h<| .cp 1 hs0 (CF _ (l) _ (hv.ext hs0.ext) (hn)) rfl λ _ s1=> .e rfl (.cO rfl)<| .nil<| .aj rfl (by rw [hval]<;>rfl)<| .skip<| .h<| .ln 1 (hv.ext s1.ext) rfl<| .f rfl (.cP (aa .u64) (0) Hl rfl s1 rfl rfl (by omega) (by omega) (by omega) λ v1 _ s2 _=> ?_)
 refine .Z rfl<| .Z rfl<| .seq<| .Z rfl<| .block<| .lq [0,4] rfl (α:=Nat×Nat×Nat×List Nat×Nat) (λ (n,code0,bef0,cds0,cnt0)=>[(5,(.int .u64 code0)),(6,(.int .i64 bef0)),(7,(.int .i64 n))]) (λ (n,code0,bef0,cds0,cnt0) w'=>Sat w [cL v1 132 (aa .u64) (cds0)] w'/\(1<=n)/\(n<=16)/\(eD l (kG l n 0)=(cnt0,code0,bef0,cds0))/\(code0<2^64)/\(cds0.length=l.length)/\(bef0<n)/\(bef0=0↔cnt0=0)/\(cnt0=0->code0=0)) (λ (n,code0,bef0,cds0,cnt0)=>16-n) (1,0,0,List.replicate l.length 0,0) ⟨s2,KB _,by omega,by rw [AI]<;>rfl,by omega,by simp,by omega,by omega,λ _=>rfl⟩ ?_
 rintro ⟨n,code0,bef0,cds0,cnt0⟩ w3 ⟨s3,h1n,hn16,hst0,hcd0,hcl0,hbn0,h0c0,h0d0⟩
 refine .seq<| .Z rfl<| .ae rfl (λ c1=> ?_) λ c1=> ?_
 ·refine .skip<| .seq<| .block<| .h<| .ln 1 (hv.ext s3.ext) rfl<| .Z rfl<| .block<| .lq [0,4,7,20,21] rfl (α:=Nat×Nat×Nat×List Nat×Nat) (λ (k,code,bef,cds,fQ)=>[(5,(.int .u64 code)),(6,(.int .i64 bef)),(22,(.int .i64 k))]) (λ (k,code,bef,cds,fQ) w'=>Sat w [cL v1 132 (aa .u64) (cds)] w'/\(k<=l.length)/\(eD l (kG l n k)=(fQ,code,bef,cds))/\(code<2^64)/\(cds.length=l.length)/\(bef<=n)/\(bef=0↔fQ=0)/\(fQ=0->code=0)) (λ (k,code,bef,cds,fQ)=>l.length-k) (0,code0,bef0,cds0,cnt0) ⟨s3,KD _,hst0,hcd0,hcl0,by omega,h0c0,h0d0⟩ ?_
  rintro ⟨k,code,bef,cds,fQ⟩ w4 ⟨s4,hk,hst,hcd,hcl,hbn,h0c,h0d⟩
  refine .Z rfl<| .seq<| .ae rfl (λ c2=> ?_) λ c2=> ?_
  ·refine .skip<| .seq<| .block<| .seq ?_
   obtain ⟨x,hx⟩:∃ x,(l)[k]? =some x:=⟨_,py c2⟩
   refine .region<| .ix 1 (hv.ext s4.ext) rfl<| .le 0 (hv.ext s4.ext) hx rfl<| .Z rfl<| .seq<| .Z rfl<| .ae rfl (λ c3=> ?_) λ c3=> ?_
   ·refine .ao<| .U rfl ?_
    exact aT (k+1,code,bef,cds,fQ) ⟨s4,by omega,by rw [DO h1n hx (by simpa using c3)];exact hst,hcd,hcl,hbn,h0c,h0d⟩
   refine .skip<| .seq<| .seq ?_
   have hxn:x=n:=QR λ h=>c3 h
   have hlk:aE l k=n:=by simp [aE,KW,hx,hxn]
   refine .U rfl<| .ae rfl (λ c4=> ?_) λ c4=> ?_
   ·refine .U rfl<| .region<| .ix 4 (s4.ah 0 rfl) rfl<| .f rfl (.cH (a:=0) 0 wA s4 rfl rfl rfl rfl (by omega) λ _ s5 _=> ?_)
    have s5:=s5.nn
    refine .Z rfl<| .U rfl ?_
    exact aT (k+1,0,n,cds.set k 0,fQ+1) ⟨s5,by omega,by rw [uy h1n (by rw [hx,hxn]),dV,hst,wc (h0c.1 c4) (h0d (h0c.1 c4)),hlk],by omega,by simp only [PJ];exact hcl,KB _,by omega,by omega⟩
   refine .region<| .a 1 rfl (.MZ (b:=1) rfl rfl rfl)<| .Z rfl<| .region<| .ix 4 (s4.ah 0 rfl) rfl<| .f rfl (.cH (a:=(((code+1)%2^64)*2^(n-bef)%2^64)) 0 wA s4 rfl rfl rfl rfl (by omega) λ _ s6 _=> ?_)
   have s6:=s6.nn
   refine .Z rfl<| .U rfl ?_
   exact aT (k+1,(((code+1)%2^64)*2^(n-bef)%2^64),n,cds.set k (((code+1)%2^64)*2^(n-bef)%2^64),fQ+1) ⟨s6,by omega,by rw [uy h1n (by rw [hx,hxn]),dV,hst,yK (λ h=>c4 (h0c.2 h)),hlk],by omega,by simp only [PJ];exact hcl,KB _,by omega,by omega⟩
  refine .ao<| .U rfl ?_
  exact aT (n+1,code,bef,cds,fQ) ⟨s4,by omega,by omega,by rw [<-DP,<-hst,show k=l.length by omega],hcd,hcl,by omega,h0c,h0d⟩
 refine .ao<| .Z rfl<| .cj rfl rfl rfl ?_
 have s8:=(s3.pk [0]).aZ 0 rfl (show cds0=ff l from by unfold ff;rw [<-DQ (λ i=>u9 hb i),show 16=n by omega,hst0])
 exact ⟨_,rfl,s8⟩
theorem xk (v u:Value) (l syms:List Nat) (w:World) (hv:RdL w v (aa .i64) l) (hu:RdL w u (aa .i64) syms) (hn:l.length<=1024) (hval:eC l=true) (hsn:syms.length<=4096) (hsy:∀ s∈syms,s<l.length/\0<aE l s):
  CallsV prog 202 [v,u] w λ r w'=>∃ v',r= .tuple #[v',.int .i64 ((db l syms).length:Int),.int .i64 ((0:Nat):Int)]/\Sat w [cL v' 5 (aa .u8) (aH (db l syms))] w':=by
 refine cg func202 rfl λ hs0=> .seq ?_
 have hgl:=GoodLens.sH hval
 refine .U rfl<| .h<| .c 1 (CG _ (l) _ (hv.ext hs0.ext) (hn) (hval)) rfl λ r1 _ h1=> ?_
 obtain ⟨cv1,rfl,p1⟩:=h1
 have s1:=hs0.az p1
 refine .Z rfl<| .seq<| .Z rfl<| .aj rfl (IN (by omega))<| .skip<| .seq<| .h<| .ln 1 (hu.ext s1.ext) rfl<| .Z rfl<| .aj rfl (IN (by omega))<| .skip<| .Z rfl<| .seq<| .h<| .ln 1 (hu.ext s1.ext) rfl<| .Z rfl<| .block ?_
 have s2:=s1.aA 4 (jb)
 refine .lq [0,7,23,24] rfl (α:=Nat×Value×List Bool) (λ (k,wv,bits)=>[(9,wv),(25,(.int .i64 k))]) (λ (k,wv,bits) w'=>Sat w (s2.U [(1,cL wv 4 (jb) (bits))]) w'/\(k<=syms.length)/\(bits=db l (syms.take k))/\(bits.length<=15*k)) (λ (k,wv,bits)=>syms.length-k) (0,(.slice none 0 0),[]) ⟨s2,KD _,rfl,KB _⟩ ?_
 rintro ⟨k,wv,bits⟩ w2 ⟨s3,hk,hbits,hbl⟩
 refine .Z rfl<| .seq<| .ae rfl (λ c1=> ?_) λ c1=> ?_
 ·refine .skip<| .seq<| .block<| .seq ?_
  obtain ⟨x,hx⟩:∃ x,(syms)[k]? =some x:=⟨_,py c1⟩
  refine .region<| .ix 0 (hu.ext s3.ext) rfl<| .le 0 (hu.ext s3.ext) hx rfl<| .Z rfl<| .seq<| .seq ?_
  have hx0:=hsy x (a7 hx)
  have hlx:=pE hx0.1
  have hcdx:=(qj hgl hx0.2).2
  have hl15:=hgl.le x
  have hp15:2^aE l x<=2^15:=Qg (by decide) hl15
  have hcl:=lD l
  refine .region<| .z 3 rfl<| .Gf 31 rfl (IN (by omega))<| .ln 2 (hv.ext s3.ext) rfl<| .z 3 rfl<| .Gf 37 rfl (IN (by omega))<| .ix 2 (hv.ext s3.ext) rfl (hj:=hx0.1)<| .le 0 (hv.ext s3.ext) hlx rfl<| .Z rfl<| .aj rfl (IN (by omega))<| .skip ?_
  have hshp1:=(s3.ah (E:=jb) 1 rfl).iH (by decide)
  refine .dk [0] s3 rfl (pl [0,1,2,3,4,5,6,7,8,1009,1010,11] .fin) λ s4 S1=> .ix 3 S1 (·.ah 0 rfl) rfl<| .le 0 S1 (·.ah 0 rfl) (qj hgl hx0.2).1 rfl<| .ix 2 S1 (hv.ext ·.ext) rfl (hj:=hx0.1)<| .le 0 S1 (hv.ext ·.ext) hlx rfl<| .c 0 S1 (mQ ((mA l x)) ((aE l x)) _ (by omega) (by omega)) rfl λ r2 _ h2=> ?_
  have s5:=s4.az h2
  have S2:=s5.pk [0]
  refine ⟨S2,?_⟩
  refine .f rfl (.aw 1 nZ s5 rfl rfl rfl underlying183 (s5.ah 2 rfl) (by simp only [sp,aF];omega) (by simp only [sp,aF];omega) λ v1 _ s6 _=> ?_)
  have S3:=s6.pk [0]
  refine ⟨S3,?_⟩
  refine .Z S3 rfl<| .U rfl ?_
  exact aT (k+1,v1,bits++aX (mA l x) (aE l x)) ⟨s6.pk [0,1],by omega,by rw [ak hx,uc,hbits],by simp only [sp,aF];omega⟩
 refine .ao<| .h<| .c 1 (qH _ (bits) _ (s3.ah 1 rfl) (by omega)) rfl λ r3 _ h3=> ?_
 have s8:=s3.az h3
 refine .ln 1 (s8.ah 1 rfl) rfl<| .Z rfl<| .ret ?_
 show aL _ _ _ _ _ _
 refine ie rfl rfl rfl rfl ?_
 have hkl:bits=db l syms:=by rw [hbits,show k=syms.length by omega,PW]
 subst hkl
 exact ⟨_,rfl,s8.pk [2]⟩
end Go.Proofs.YthffkcnbdehceaaGreat
