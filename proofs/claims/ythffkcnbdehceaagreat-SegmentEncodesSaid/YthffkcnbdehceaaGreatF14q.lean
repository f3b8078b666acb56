/-The walks of the functions of F14q,printed by our own program (kwgen.py) out of our descriptions (base.py). -/
import Derived.Test.YthffkcnbdehceaaGreatF14p
import Derived.Test.YthffkcnbdehceaaGreatM14q
open List
open Go.Proofs.Tryz
set_option linter.unusedVariables false
set_option linter.unusedSimpArgs false
set_option linter.unusedSectionVars false
namespace Go.Proofs.YthffkcnbdehceaaGreat
open Go.RowKit Go.Kw
set_option maxRecDepth 100000
set_option maxHeartbeats 2000000 in
theorem xf (v:Value) (c:List Nat) (w:World) (hv:RdL w v (aa .i64) c) (hn:c.length<=1024) (hc:∀ x∈c,x<=4096):
  CallsV prog 200 [v,(.int .i64 (15:Nat))] w λ r w'=>∃ v',r= .tuple #[v',.int .i64 ((0:Nat):Int)]/\Sat w [cL v' 3 (aa .i64) (ca c)] w':=by
 refine cg func200 rfl λ hs0=> .Z rfl<| .seq<| .h<| .cp 2 hs0 (zC _ (c) _ (hv.ext hs0.ext) (hn) (hc)) rfl λ _ s1=> .Z rfl<| .Z rfl<| .aj rfl (IN (by omega))<| .skip<| .h<| .ln 1 (hv.ext s1.ext) rfl<| .f rfl (.cP (aa .i64) (0) aQ rfl s1 rfl rfl (by omega) (by omega) (by omega) λ v1 w2 s2 _=> ?_)
 refine .Z rfl<| .Z rfl<| .seq<| .h<| .ln 1 (hv.ext s2.ext) rfl<| .Z rfl<| .block ?_
 have s3:=s2.aA 302 (ba)
 have s4:=s3.aZ 0 rfl (show List.replicate (c.length) 0=eV c 0 from by simp [eV,fG])
 have s5:Sat w [cL v1 3 (aa .i64) (eV c 0),cL (Value.slice none 0 0) 302 (ba) ([]),eG ([])] w2:=s4.Kd
 refine .lq [0,1,7,31,32] rfl (α:=Nat×Value×List RI×List RI) (λ (k,lvv,lv,pool)=>[(8,lvv),(33,(.int .i64 k))]) (λ (k,lvv,lv,pool) w'=>Sat w [cL v1 3 (aa .i64) (eV c k),cL lvv 302 (ba) (lv),eG (pool)] w'/\(k<=c.length)/\(lv.map wo=(bz It.w (aN 0 (c.take k))).map (JD c.length))/\(∀ x∈lv,x∈pool)) (λ (k,lvv,lv,pool)=>c.length-k) (0,(.slice none 0 0),[],[]) ⟨s5,KD _,rfl,λ _ h=>h⟩ ?_
 rintro ⟨k,lvv,lv,pool⟩ w3 ⟨s6,hk,hlv,hin0⟩
 have hlvl:lv.length<=k:=by have h1:=If List.length hlv;have h2:=er (c.take k) 0;simp only [No,jj,KV] at h1 h2;omega
 refine .Z rfl<| .seq<| .ae rfl (λ c1=> ?_) λ c1=> ?_
 ·refine .skip<| .seq<| .block<| .seq ?_
  obtain ⟨x,hx⟩:∃ x,(c)[k]? =some x:=⟨_,py c1⟩
  refine .region<| .ix 1 (hv.ext s6.ext) rfl<| .le 0 (hv.ext s6.ext) hx rfl<| .Z rfl<| .seq<| .Z rfl<| .ae rfl (λ c2=> ?_) λ c2=> ?_
  ·refine .ao<| .U rfl ?_
   have s7:=s6.aZ 0 rfl (show eV c k=eV c (k+1) from by rw [DN hx c2])
   exact aT (k+1,lvv,lv,pool) ⟨s7.pk [0,1,2],by omega,by rw [DM hx c2];exact hlv,hin0⟩
  refine .skip<| .h<| .ln 2 (hv.ext s6.ext) rfl<| .f rfl (.cP (aa .i64) (0) aQ rfl s6 rfl rfl (by omega) (by omega) (by omega) λ v2 _ s9 _=> ?_)
  have s9:=s9.nn
  obtain ⟨sv1,hsv1,hsv1n⟩:=(s9.ah 3 rfl).sv
  subst hsv1
  refine .e rfl (.build Hn rfl ⟨rfl,rfl,rfl,trivial⟩ rfl)<| .al 0 s9 rfl λ b1 _ s10 _ _=> .sa 0 s10 4 (vs:=[(.int .i64 x),(.bool true),sv1.val]) rfl (λ v h=>by simp only [PR,PU,Q9] at h;rcases h with rfl|rfl|rfl;exact rfl;exact rfl;exact rfl) λ _ s11 _=> .nil<| .h<| .ld 1 s11 4 rfl<| .ix 1 (s11.ah 3 rfl) rfl (hj:=by simp;omega)<| .f rfl (.cH (a:=1) 3 cQ s11 rfl rfl rfl rfl (by first|omega|(simp;omega)|(rw [bT (by omega)];omega)|(simp only [PJ];omega)) λ w7 s12 _=> ?_)
  have s12:=s12.nn
  refine .nil ?_
  have s13:=s12.aZ 3 rfl (show (List.replicate (c.length) 0).set k 1=cN c.length k from rfl)
  have s14:=(Sat.order [0,1,2,4,3] (by decide) s13.tail).aI.pk [0,1,2,3,4]
  have s15:Sat w [cL v1 3 (aa .i64) (eV c k),cL lvv 302 (ba) (lv),eG (pool++[(⟨x,true,sv1,cN c.length k⟩:RI)]),aq b1 302 [(.int .i64 x),(.bool true),sv1.val]] w7:=Sat.sE (A:=[cL v1 3 (aa .i64) (eV c k),cL lvv 302 (ba) (lv),eG (pool),aq b1 302 [(.int .i64 x),(.bool true),sv1.val]]) s14 2 rfl
  refine .h<| .ln 1 (s15.ah 1 rfl) rfl<| .Z rfl<| .seq<| .block<| .lq [0,1,7,8,9,10,11,31,32,33] rfl (α:=Nat) (λ j=>[(12,(.int .i64 j))]) (λ j w'=>Sat w s15.L w'/\(j<=lv.length)/\(∀ z∈lv.drop j,x<z.w)) (λ j=>j) lv.length ⟨s15,KB _,λ z hz=>by rw [SO] at hz;cases hz⟩ ?_
  rintro j w8 ⟨s16,hj,hhi⟩
  refine .seq<| .seq ?_
  rcases QF j with hw|hw
  ·refine .region<| .z 3 rfl<| .Gf 53 rfl (IN (by omega))<| .Z rfl<| .aj rfl (rfl)<| .ao<| .seq ?_
   have hlo:0<j->∀ z,lv[j-1]? =some z->z.w<=x:=λ h=>by omega
   refine .dk [0,1,2,3] s16 rfl (pl [0,1,2,4,7,8,9] (.two 3 5 (pl [1005,1006,1010,11] .fin) (pl [1003,1006,1010,11] .fin))) λ s17 S1=> .z 2 S1 rfl<| .e rfl (λ _ hS=> .aV (E:=ba) (a:=0) (c:=j) dh rfl (hS.ah 1 rfl) rfl ⟨_,rfl⟩ (KD _) (hj)) S1<| .e rfl (λ _ hS=> .fH wD rfl hS (i:=3) rfl rfl) S1<| .z 2 S1 rfl<| .e rfl (λ _ hS=> .aV (E:=ba) (a:=j) (c:=(lv).length) dh rfl (hS.ah 1 rfl) ⟨_,rfl⟩ rfl (hj) (KB _)) S1 ?_
   have s18:=s17.aA 302 (ba)
   refine .two rfl rfl rfl rfl rfl rfl (OpE.aw 4 dh s18 rfl rfl rfl underlying300 (((s18.ah 1 rfl)).sub (a:=0) (b:=j) (KD _) (hj)) (by simp;omega) (by simp;omega) λ v3 _ s19 _=> ?_) (OpE.cn (ba) (⟨x,true,sv1,cN c.length k⟩:RI) dh (by decide) (by decide) s17 rfl λ v_4 _ s20 _=> ?_)
   ·skip
    have S2:=s19.pk [0,1,2,3]
    refine ⟨S2,?_⟩
    refine .f rfl (.cn (ba) (⟨x,true,sv1,cN c.length k⟩:RI) dh (by decide) (by decide) s19 rfl λ v5 _ s21 _=> ?_)
    have S3:=s21.pk [0,1,2,3]
    refine ⟨S3,?_⟩
    refine .f rfl (.aw 4 dh s21 rfl rfl rfl underlying300 (s21.ah 5 rfl) (by simp;omega) (by simp;omega) λ v6 _ s22 _=> ?_)
    have s22:=s22.pk [0,1,2,3,4]
    have S4:=s22.pk [0,1,2,3]
    refine ⟨S4,?_⟩
    refine .f rfl (.aw 4 dh s22 rfl rfl rfl underlying300 (((s22.ah 1 rfl)).sub (a:=j) (b:=(lv).length) (hj) (KB _)) (by simp;omega) (by simp;omega) λ v7 _ s23 _=> ?_)
    have S5:=s23.pk [0,1,2,3]
    refine ⟨S5,?_⟩
    refine .Z S5 rfl<| .region<| .ix 2 (s23.ah 0 rfl) rfl (hj:=by rw [bT (by omega)];omega)<| .f rfl (.cH (a:=1) 0 cQ s23 rfl rfl rfl rfl (by first|omega|(simp;omega)|(rw [bT (by omega)];omega)|(simp only [PJ];omega)) λ _ s24 _=> ?_)
    refine .nil<| .U rfl ?_
    have s25:=s24.aZ 0 rfl (show (eV c k).set k 1=eV c (k+1) from by rw [nX hx (by omega)])
    have s26:=(Sat.order [0,4,2,1,3] (by decide) s25.tail).aI.pk [0,1,2]
    have s27:=s26.aZ 1 rfl (show ((lv).take j).drop 0++[(⟨x,true,sv1,cN c.length k⟩:RI)]++((lv).take ((lv).length)).drop j=lv.take j++[(⟨x,true,sv1,cN c.length k⟩:RI)]++lv.drop j from by simp)
    exact aT (k+1,v7,lv.take j++[(⟨x,true,sv1,cN c.length k⟩:RI)]++lv.drop j,pool++[(⟨x,true,sv1,cN c.length k⟩:RI)]) ⟨s27,by omega,lj hx (by omega) hlv hj hhi hlo true sv1,λ z hz=>by
    simp only [PT,Q0] at hz⊢
    rcases hz with (hz|hz)|hz
    ·exact .inl (hin0 z (Q8 hz))
    ·exact .inr hz
    ·exact .inl (hin0 z (Qi hz))⟩
   have S6:=s20.pk [0,1,2,3]
   refine ⟨S6,?_⟩
   have s28:=s20.aA 302 (ba)
   refine .f rfl (.aw 5 dh s28 rfl rfl rfl underlying300 (((s28.ah 1 rfl)).sub (a:=0) (b:=j) (KD _) (hj)) (by simp;omega) (by simp;omega) λ v8 _ s29 _=> ?_)
   have s29d:Sat w [_,_,_,_,cL v_4 302 (ba) ([(⟨x,true,sv1,cN c.length k⟩:RI)]),cL v8 302 (ba) (((lv).take j).drop 0)] _:=s29
   have S7:=s29d.pk [0,1,2,3]
   refine ⟨S7,?_⟩
   refine .f rfl (.aw 5 dh s29d rfl rfl rfl underlying300 (s29d.ah 4 rfl) (by simp;omega) (by simp;omega) λ v9 _ s30 _=> ?_)
   have S8:=s30.pk [0,1,2,3]
   refine ⟨S8,?_⟩
   refine .f rfl (.aw 5 dh s30 rfl rfl rfl underlying300 (((s30.ah 1 rfl)).sub (a:=j) (b:=(lv).length) (hj) (KB _)) (by simp;omega) (by simp;omega) λ v10 _ s31 _=> ?_)
   have S9:=s31.pk [0,1,2,3]
   refine ⟨S9,?_⟩
   refine .Z S9 rfl<| .region<| .ix 2 (s31.ah 0 rfl) rfl (hj:=by rw [bT (by omega)];omega)<| .f rfl (.cH (a:=1) 0 cQ s31 rfl rfl rfl rfl (by first|omega|(simp;omega)|(rw [bT (by omega)];omega)|(simp only [PJ];omega)) λ _ s32 _=> ?_)
   refine .nil<| .U rfl ?_
   have s33:=s32.aZ 0 rfl (show (eV c k).set k 1=eV c (k+1) from by rw [nX hx (by omega)])
   have s34:=(Sat.order [0,5,2,1,3,4] (by decide) s33.tail).aI.pk [0,1,2]
   have s35:=s34.aZ 1 rfl (show ((lv).take j).drop 0++[(⟨x,true,sv1,cN c.length k⟩:RI)]++((lv).take ((lv).length)).drop j=lv.take j++[(⟨x,true,sv1,cN c.length k⟩:RI)]++lv.drop j from by simp)
   exact aT (k+1,v10,lv.take j++[(⟨x,true,sv1,cN c.length k⟩:RI)]++lv.drop j,pool++[(⟨x,true,sv1,cN c.length k⟩:RI)]) ⟨s35,by omega,lj hx (by omega) hlv hj hhi hlo true sv1,λ z hz=>by
    simp only [PT,Q0] at hz⊢
    rcases hz with (hz|hz)|hz
    ·exact .inl (hin0 z (Q8 hz))
    ·exact .inr hz
    ·exact .inl (hin0 z (Qi hz))⟩
  obtain ⟨y,hy⟩:∃ y,(lv)[(j-1)]? =some y:=⟨_,py (by omega)⟩
  refine .region<| .z 3 rfl<| .Gt 53 rfl (PM hw)<| .ix 3 (s16.ah 1 rfl) rfl<| .fl 0 (s16.ah 1 rfl) rfl<| .lf 0 (s16.ah 1 rfl) hy rfl<| .Z rfl<| .ae rfl (λ c3=> ?_) λ c3=> ?_
  ·refine .skip<| .block<| .U rfl ?_
   exact aT (j-1) ⟨s16,by omega,λ z hz=>by
     rw [kb hy,show j-1+1=j by omega] at hz
     rcases PR.1 hz with rfl|hz
     ·omega
     ·exact hhi z hz⟩
  refine .ao<| .seq ?_
  have hlo:0<j->∀ z,lv[j-1]? =some z->z.w<=x:=λ _ z hz=>by rw [hy] at hz;cases hz;omega
  refine .dk [0,1,2,3] s16 rfl (pl [0,1,2,4,7,8,9] (.two 3 5 (pl [1005,1006,1010,11] .fin) (pl [1003,1006,1010,11] .fin))) λ s36 S10=> .z 2 S10 rfl<| .e rfl (λ _ hS=> .aV (E:=ba) (a:=0) (c:=j) dh rfl (hS.ah 1 rfl) rfl ⟨_,rfl⟩ (KD _) (hj)) S10<| .e rfl (λ _ hS=> .fH wD rfl hS (i:=3) rfl rfl) S10<| .z 2 S10 rfl<| .e rfl (λ _ hS=> .aV (E:=ba) (a:=j) (c:=(lv).length) dh rfl (hS.ah 1 rfl) ⟨_,rfl⟩ rfl (hj) (KB _)) S10 ?_
  have s37:=s36.aA 302 (ba)
  refine .two rfl rfl rfl rfl rfl rfl (OpE.aw 4 dh s37 rfl rfl rfl underlying300 (((s37.ah 1 rfl)).sub (a:=0) (b:=j) (KD _) (hj)) (by simp;omega) (by simp;omega) λ v11 _ s38 _=> ?_) (OpE.cn (ba) (⟨x,true,sv1,cN c.length k⟩:RI) dh (by decide) (by decide) s36 rfl λ v12 _ s39 _=> ?_)
  ·have s38d:Sat w [_,_,_,_,cL v11 302 (ba) (((lv).take j).drop 0)] _:=s38
   have S11:=s38d.pk [0,1,2,3]
   refine ⟨S11,?_⟩
   refine .f rfl (.cn (ba) (⟨x,true,sv1,cN c.length k⟩:RI) dh (by decide) (by decide) s38d rfl λ v13 _ s40 _=> ?_)
   have S12:=s40.pk [0,1,2,3]
   refine ⟨S12,?_⟩
   refine .f rfl (.aw 4 dh s40 rfl rfl rfl underlying300 (s40.ah 5 rfl) (by simp;omega) (by simp;omega) λ v14 _ s41 _=> ?_)
   have s41:=s41.pk [0,1,2,3,4]
   have S13:=s41.pk [0,1,2,3]
   refine ⟨S13,?_⟩
   refine .f rfl (.aw 4 dh s41 rfl rfl rfl underlying300 (((s41.ah 1 rfl)).sub (a:=j) (b:=(lv).length) (hj) (KB _)) (by simp;omega) (by simp;omega) λ v15 _ s42 _=> ?_)
   have S14:=s42.pk [0,1,2,3]
   refine ⟨S14,?_⟩
   refine .Z S14 rfl<| .region<| .ix 2 (s42.ah 0 rfl) rfl (hj:=by rw [bT (by omega)];omega)<| .f rfl (.cH (a:=1) 0 cQ s42 rfl rfl rfl rfl (by first|omega|(simp;omega)|(rw [bT (by omega)];omega)|(simp only [PJ];omega)) λ _ s43 _=> ?_)
   refine .nil<| .U rfl ?_
   have s44:=s43.aZ 0 rfl (show (eV c k).set k 1=eV c (k+1) from by rw [nX hx (by omega)])
   have s45:=(Sat.order [0,4,2,1,3] (by decide) s44.tail).aI.pk [0,1,2]
   have s46:=s45.aZ 1 rfl (show ((lv).take j).drop 0++[(⟨x,true,sv1,cN c.length k⟩:RI)]++((lv).take ((lv).length)).drop j=lv.take j++[(⟨x,true,sv1,cN c.length k⟩:RI)]++lv.drop j from by simp)
   exact aT (k+1,v15,lv.take j++[(⟨x,true,sv1,cN c.length k⟩:RI)]++lv.drop j,pool++[(⟨x,true,sv1,cN c.length k⟩:RI)]) ⟨s46,by omega,lj hx (by omega) hlv hj hhi hlo true sv1,λ z hz=>by
    simp only [PT,Q0] at hz⊢
    rcases hz with (hz|hz)|hz
    ·exact .inl (hin0 z (Q8 hz))
    ·exact .inr hz
    ·exact .inl (hin0 z (Qi hz))⟩
  have S15:=s39.pk [0,1,2,3]
  refine ⟨S15,?_⟩
  have s47:=s39.aA 302 (ba)
  refine .f rfl (.aw 5 dh s47 rfl rfl rfl underlying300 (((s47.ah 1 rfl)).sub (a:=0) (b:=j) (KD _) (hj)) (by simp;omega) (by simp;omega) λ v16 _ s48 _=> ?_)
  have S16:=s48.pk [0,1,2,3]
  refine ⟨S16,?_⟩
  refine .f rfl (.aw 5 dh s48 rfl rfl rfl underlying300 (s48.ah 4 rfl) (by simp;omega) (by simp;omega) λ v17 _ s49 _=> ?_)
  have s49d:Sat w [_,_,_,_,_,cL v17 302 (ba) (((lv).take j).drop 0++[(⟨x,true,sv1,cN c.length k⟩:RI)])] _:=s49
  have S17:=s49d.pk [0,1,2,3]
  refine ⟨S17,?_⟩
  refine .f rfl (.aw 5 dh s49d rfl rfl rfl underlying300 (((s49d.ah 1 rfl)).sub (a:=j) (b:=(lv).length) (hj) (KB _)) (by simp;omega) (by simp;omega) λ v18 _ s50 _=> ?_)
  have S18:=s50.pk [0,1,2,3]
  refine ⟨S18,?_⟩
  refine .Z S18 rfl<| .region<| .ix 2 (s50.ah 0 rfl) rfl (hj:=by rw [bT (by omega)];omega)<| .f rfl (.cH (a:=1) 0 cQ s50 rfl rfl rfl rfl (by first|omega|(simp;omega)|(rw [bT (by omega)];omega)|(simp only [PJ];omega)) λ _ s51 _=> ?_)
  refine .nil<| .U rfl ?_
  have s52:=s51.aZ 0 rfl (show (eV c k).set k 1=eV c (k+1) from by rw [nX hx (by omega)])
  have s53:=(Sat.order [0,5,2,1,3,4] (by decide) s52.tail).aI.pk [0,1,2]
  have s54:=s53.aZ 1 rfl (show ((lv).take j).drop 0++[(⟨x,true,sv1,cN c.length k⟩:RI)]++((lv).take ((lv).length)).drop j=lv.take j++[(⟨x,true,sv1,cN c.length k⟩:RI)]++lv.drop j from by simp)
  exact aT (k+1,v18,lv.take j++[(⟨x,true,sv1,cN c.length k⟩:RI)]++lv.drop j,pool++[(⟨x,true,sv1,cN c.length k⟩:RI)]) ⟨s54,by omega,lj hx (by omega) hlv hj hhi hlo true sv1,λ z hz=>by
    simp only [PT,Q0] at hz⊢
    rcases hz with (hz|hz)|hz
    ·exact .inl (hin0 z (Q8 hz))
    ·exact .inr hz
    ·exact .inl (hin0 z (Qi hz))⟩
 refine .ao<| .seq<| .seq ?_
 have hkc:k=c.length:=by omega
 have hlvE:lv.map wo=(leaves c).map (JD c.length):=by rw [hlv,hkc,PW]<;>rfl
 have hlvl:lv.length=(leaves c).length:=by have:=If List.length hlvE;simpa using this
 have hllc:=dA c
 have s55:=s6.aZ 0 rfl (show eV c k=fG c from by rw [hkc,GM])
 refine .region<| .ln 1 (s55.ah 1 rfl) rfl<| .Z rfl<| .ae rfl (λ c4=> ?_) λ c4=> ?_
 ·refine .Z rfl<| .cj rfl rfl rfl ?_
  have s57:=(s55.pk [0]).aZ 0 rfl (show fG c=ca c from by rw [GN (by omega)])
  exact ⟨_,rfl,s57⟩
 refine .skip<| .Z rfl<| .seq<| .Z rfl<| .block ?_
 obtain ⟨sv2,hsv2,hsv2n⟩:=(s55.ah 1 rfl).sv
 subst hsv2
 have s58:Sat w [cL v1 3 (aa .i64) (fG c),eG (pool),bh 302 ba ([]),cL sv2.val 302 (ba) (lv)] _:=Sat.order [0,2,3,1] (by decide) (s55.qp 176 ba).tail|>.aI
 have s59:Sat w [cL v1 3 (aa .i64) (fG c),eG (pool),bh 302 ba ([]++[(sv2,lv)])] w3:=Sat.kI (A:=[cL v1 3 (aa .i64) (fG c),eG (pool),bh 302 ba ([])]) s58 2 rfl
 refine .lq [0,1,7,8] rfl (α:=Nat×List RI×List (SV×List RI)×(SV×List RI)×Nat) (λ (m,pool,ps,p,q)=>[(13,p.1.val),(14,(.int .i64 m))]) (λ (m,pool,ps,p,q) w'=>Sat w (s59.U [(1,eG (pool)),(2,bh 302 ba (ps))]) w'/\(1<=m)/\(m<=15)/\(ps[0]? =some (sv2,lv))/\(ps[q]? =some p)/\(p.2.map wo=yG c (m-1))/\(∀ x∈lv,x∈pool)/\(∀ x∈p.2,x∈pool)) (λ (m,pool,ps,p,q)=>15-m) (1,pool,[(sv2,lv)],(sv2,lv),0) ⟨s59,KB _,by omega,rfl,rfl,hlvE,hin0,hin0⟩ ?_
 rintro ⟨m,pool,ps,p,q⟩ w29 ⟨s60,hm1,hm15,hp0,hp,hpw,hinl,hinp⟩
 have hpl:p.2.length<=2048:=by have h1:=If List.length hpw;have h2:=(gJ c (m-1)).2;rw [No,si] at h1;omega
 refine .seq<| .Z rfl<| .ae rfl (λ c5=> ?_) λ c5=> ?_
 ·refine .skip<| .seq<| .block<| .Z rfl<| .seq<| .Z rfl<| .block ?_
  have s61:=s60.aA 302 (ba)
  refine .lq [0,1,7,8,13,14] rfl (α:=Nat×Value×List RI×List RI) (λ (t,pv,pk,pool2)=>[(15,pv),(16,(.int .i64 ((2*t):Nat)))]) (λ (t,pv,pk,pool2) w'=>Sat w (s61.U [(1,eG (pool2)),(3,cL pv 302 (ba) (pk))]) w'/\(2*t<=p.2.length)/\(pk.map wo=ta ((p.2.take (2*t)).map wo))/\(∀ x∈pool,x∈pool2)/\(∀ x∈pk,x∈pool2)/\(pk.length=t)) (λ (t,pv,pk,pool2)=>p.2.length-2*t) (0,(.slice none 0 0),[],pool) ⟨s61,by omega,by simp [ta],λ _ h=>h,(λ _ h=>by cases h),rfl⟩ ?_
  rintro ⟨t,pv,pk,pool2⟩ w30 ⟨s62,ht,hpk,hsub,hinpk,hpkl⟩
  refine .seq<| .h<| .ln 3 (s62.bt 2 rfl hp) rfl<| .Z rfl<| .ae rfl (λ c6=> ?_) λ c6=> ?_
  ·refine .skip<| .seq<| .block<| .seq ?_
   obtain ⟨x,hx⟩:∃ x,(p.2)[(2*t)]? =some x:=⟨_,py (by omega)⟩
   obtain ⟨y,hy⟩:∃ y,(p.2)[((2*t)+1)]? =some y:=⟨_,py (by omega)⟩
   have hxe:wo x∈yG c (m-1):=by rw [<-hpw];exact Qv (a7 hx)
   have hxl:x.occ.length=c.length:=lh c _ _ hxe
   have hxw:x.w<=4096*2^(m-1):=GO c 4096 hc _ _ hxe
   have hxo:∀ z∈x.occ,z<=2^(m-1):=AF c _ _ hxe
   have hye:wo y∈yG c (m-1):=by rw [<-hpw];exact Qv (a7 hy)
   have hyl:y.occ.length=c.length:=lh c _ _ hye
   have hyw:y.w<=4096*2^(m-1):=GO c 4096 hc _ _ hye
   have hyo:∀ z∈y.occ,z<=2^(m-1):=AF c _ _ hye
   have h2m:2^(m-1)<=2^14:=Qg (by decide) (by omega)
   refine .dk [0,1,2,3] s62 rfl (pl [0,1,2,3,4,5,6,7,8,9,10,11,12,13] (.two 14 16 (pl [15,1016,1017] .fin) (pl [1014,15,1017] .fin))) λ s63 S19=> .ix 2 S19 (λ hS=>hS.bt 2 rfl hp) rfl<| .fl 0 S19 (λ hS=>hS.bt 2 rfl hp) rfl<| .lf 0 S19 (λ hS=>hS.bt 2 rfl hp) hx rfl<| .ix 3 S19 (λ hS=>hS.bt 2 rfl hp) rfl<| .fl 0 S19 (λ hS=>hS.bt 2 rfl hp) rfl<| .lf 0 S19 (λ hS=>hS.bt 2 rfl hp) hy rfl<| .ln 2 S19 (hv.ext ·.ext) rfl<| .two rfl rfl rfl rfl rfl rfl (OpE.cP (aa .i64) (0) aQ rfl s63 rfl rfl (by omega) (by omega) (by omega) λ v19 _ s64 _=> ?_) (OpE.alloc s63 wE λ b2 _ s65 _ _=> ?_)
   ·have s64:=s64.nn
    obtain ⟨sv3,hsv3,hsv3n⟩:=(s64.ah 4 rfl).sv
    subst hsv3
    have S20:=s64.pk [0,1,2,3]
    refine ⟨S20,?_⟩
    refine .e rfl (λ _ hS=> .build Hn rfl ⟨rfl,rfl,trivial⟩ rfl) S20<| .f rfl (.alloc s64 wE λ b3 _ s66 _ _=> ?_)
    have S21:=s66.pk [0,1,2,3]
    refine ⟨S21,?_⟩
    refine .f rfl (.cz (vs:=[(.int .i64 ((x.w+y.w):Nat)),(.bool false),sv3.val]) wD s66 (i:=5) rfl rfl rfl rfl (λ v h=>by simp only [PR,PU,Q9] at h;rcases h with rfl|rfl|rfl;exact rfl;exact rfl;exact rfl) λ _ s67 _=> ?_)
    have S22:=s67.pk [0,1,2,3]
    refine ⟨S22,?_⟩
    refine .fin ?_
    have s68:=s67.pk [0,1,2,3,4,5]
    refine .seq<| .h<| .ln 1 (hv.ext s68.ext) rfl<| .Z rfl<| .block ?_
    have s69:=s68.aZ 4 rfl (show List.replicate (c.length) 0=ux x.occ y.occ 0 from by rw [yJ,hxl])
    refine .lq [0,1,7,8,13,14,15,16,17,113,114] rfl (α:=Nat) (λ s=>[(115,(.int .i64 s))]) (λ s w'=>Sat w (s69.U [(4,cL sv3.val 3 (aa .i64) (ux x.occ y.occ s))]) w'/\(s<=c.length)) (λ s=>c.length-s) 0 ⟨s69,KD _⟩ ?_
    rintro s w35 ⟨s70,hsn⟩
    refine .Z rfl<| .seq<| .ae rfl (λ c7=> ?_) λ c7=> ?_
    ·refine .skip<| .seq<| .block<| .Z rfl ?_
     obtain ⟨xa,hxa⟩:∃ xa,(x.occ)[s]? =some xa:=⟨_,py (by omega)⟩
     obtain ⟨ya,hya⟩:∃ ya,(y.occ)[s]? =some ya:=⟨_,py (by omega)⟩
     have hxab:=hxo _ (a7 hxa)
     have hyab:=hyo _ (a7 hya)
     have hvl:=so (s:=s) hxl hyl (by omega)
     have hshp1:=(s70.ah (E:=aa .i64) 4 rfl).iH (by decide)
     refine .dk [0,1,2,3,5] s70 rfl (pl [0,1,2,3,4,5,6,7,8,9,10,11,12,13,14,15,16,17,18,19,20,21,1022] .fin) λ s71 S23=> .ld 1 S23 4 rfl<| .ix 3 S23 (λ hS=>hS.bt 2 rfl hp) rfl<| .fl 0 S23 (λ hS=>hS.bt 2 rfl hp) rfl<| .lf 0 S23 (λ hS=>hS.bt 2 rfl hp) hx rfl<| .ix 1 S23 (λ hS=>hS.iG 1 rfl x (hsub _ (hinp _ (a7 hx)))) rfl<| .le 0 S23 (λ hS=>hS.iG 1 rfl x (hsub _ (hinp _ (a7 hx)))) hxa rfl<| .ix 3 S23 (λ hS=>hS.bt 2 rfl hp) rfl<| .fl 0 S23 (λ hS=>hS.bt 2 rfl hp) rfl<| .lf 0 S23 (λ hS=>hS.bt 2 rfl hp) hy rfl<| .ix 1 S23 (λ hS=>hS.iG 1 rfl y (hsub _ (hinp _ (a7 hy)))) rfl<| .le 0 S23 (λ hS=>hS.iG 1 rfl y (hsub _ (hinp _ (a7 hy)))) hya rfl<| .z 1 S23 rfl<| .e rfl (λ _ hS=> .kJ aQ rfl rfl hshp1 (by omega)) S23<| .f rfl (.cH (a:=(xa+ya)) 4 cQ s71 rfl rfl rfl rfl (by first|omega|(simp;omega)|(rw [bT (by omega)];omega)|(simp only [PJ];omega)) λ _ s72 _=> ?_)
     have S24:=s72.pk [0,1,2,3,5]
     refine ⟨S24,?_⟩
     refine .fin<| .U rfl ?_
     have s73:=s72.aZ 4 rfl (show (ux x.occ y.occ s).set s (xa+ya)=ux x.occ y.occ (s+1) from by rw [BZ hxl hyl hxa hya])
     exact aT (s+1) ⟨s73,by omega⟩
    refine .ao ?_
    have s74:=s70.aZ 4 rfl (show ux x.occ y.occ s=eY x.occ y.occ from by rw [show s=c.length by omega,BY hxl hyl])
    have s75:=(Sat.order [0,1,2,3,5,4] (by decide) s74.tail).aI.pk [0,1,2,3,4,5]
    have s76:Sat w [cL v1 3 (aa .i64) (fG c),eG (pool2++[(⟨x.w+y.w,false,sv3,eY x.occ y.occ⟩:RI)]),bh 302 ba (ps),cL pv 302 (ba) (pk),aq b3 302 [(.int .i64 ((x.w+y.w):Nat)),(.bool false),sv3.val]] w35:=Sat.sE (A:=[cL v1 3 (aa .i64) (fG c),eG (pool2),bh 302 ba (ps),cL pv 302 (ba) (pk),aq b3 302 [(.int .i64 ((x.w+y.w):Nat)),(.bool false),sv3.val]]) s75 1 rfl
    refine .region<| .lo 1 s76 4 rfl<| .f rfl (.cn (ba) (⟨x.w+y.w,false,sv3,eY x.occ y.occ⟩:RI) dh (by decide) (by decide) s76 rfl λ v20 _ s77 _=> ?_)
    refine .ap 0 s77 3 (s77.ah 5 rfl) rfl λ v21 _ s78 _=> ?_
    refine .Z rfl<| .U rfl ?_
    have s79:=(s78.pk [0,1,2,3,4]).pk [0,1,2,3]
    exact aT (t+1,v21,pk++[(⟨x.w+y.w,false,sv3,eY x.occ y.occ⟩:RI)],pool2++[(⟨x.w+y.w,false,sv3,eY x.occ y.occ⟩:RI)]) ⟨s79,by omega,by rw [Ql,hpk,Sr,Sr,sj t _ (wo x) (wo y) (by rw [PX,hx]<;>rfl) (by rw [PX,hy]<;>rfl)];rfl,λ z hz=>R3 _ (hsub z hz),λ z hz=>by
     rcases PT.1 hz with hz|hz
     ·exact R3 _ (hinpk z hz)
     ·exact QQ _ hz,by simp;omega⟩
   have s65:=s65.nn
   have S25:=s65.pk [0,1,2,3]
   refine ⟨S25,?_⟩
   refine .f rfl (.cP (aa .i64) (0) aQ rfl s65 rfl rfl (by omega) (by omega) (by omega) λ v22 _ s80 _=> ?_)
   obtain ⟨sv4,hsv4,hsv4n⟩:=(s80.ah 5 rfl).sv
   subst hsv4
   have S26:=s80.pk [0,1,2,3]
   refine ⟨S26,?_⟩
   refine .e rfl (λ _ hS=> .build Hn rfl ⟨rfl,rfl,trivial⟩ rfl) S26<| .f rfl (.cz (vs:=[(.int .i64 ((x.w+y.w):Nat)),(.bool false),sv4.val]) wD s80 (i:=4) rfl rfl rfl rfl (λ v h=>by simp only [PR,PU,Q9] at h;rcases h with rfl|rfl|rfl;exact rfl;exact rfl;exact rfl) λ _ s81 _=> ?_)
   have S27:=s81.pk [0,1,2,3]
   refine ⟨S27,?_⟩
   refine .fin ?_
   have s82:=(Sat.order [0,1,2,3,5,4] (by decide) s81.tail).aI.pk [0,1,2,3,4,5]
   refine .seq<| .h<| .ln 1 (hv.ext s82.ext) rfl<| .Z rfl<| .block ?_
   have s83:=s82.aZ 4 rfl (show List.replicate (c.length) 0=ux x.occ y.occ 0 from by rw [yJ,hxl])
   refine .lq [0,1,7,8,13,14,15,16,17,113,114] rfl (α:=Nat) (λ s=>[(115,(.int .i64 s))]) (λ s w'=>Sat w (s83.U [(4,cL sv4.val 3 (aa .i64) (ux x.occ y.occ s))]) w'/\(s<=c.length)) (λ s=>c.length-s) 0 ⟨s83,KD _⟩ ?_
   rintro s w41 ⟨s84,hsn⟩
   refine .Z rfl<| .seq<| .ae rfl (λ c8=> ?_) λ c8=> ?_
   ·refine .skip<| .seq<| .block<| .Z rfl ?_
    obtain ⟨xa,hxa⟩:∃ xa,(x.occ)[s]? =some xa:=⟨_,py (by omega)⟩
    obtain ⟨ya,hya⟩:∃ ya,(y.occ)[s]? =some ya:=⟨_,py (by omega)⟩
    have hxab:=hxo _ (a7 hxa)
    have hyab:=hyo _ (a7 hya)
    have hvl:=so (s:=s) hxl hyl (by omega)
    have hshp2:=(s84.ah (E:=aa .i64) 4 rfl).iH (by decide)
    refine .dk [0,1,2,3,5] s84 rfl (pl [0,1,2,3,4,5,6,7,8,9,10,11,12,13,14,15,16,17,18,19,20,21,1022] .fin) λ s85 S28=> .ld 1 S28 4 rfl<| .ix 3 S28 (λ hS=>hS.bt 2 rfl hp) rfl<| .fl 0 S28 (λ hS=>hS.bt 2 rfl hp) rfl<| .lf 0 S28 (λ hS=>hS.bt 2 rfl hp) hx rfl<| .ix 1 S28 (λ hS=>hS.iG 1 rfl x (hsub _ (hinp _ (a7 hx)))) rfl<| .le 0 S28 (λ hS=>hS.iG 1 rfl x (hsub _ (hinp _ (a7 hx)))) hxa rfl<| .ix 3 S28 (λ hS=>hS.bt 2 rfl hp) rfl<| .fl 0 S28 (λ hS=>hS.bt 2 rfl hp) rfl<| .lf 0 S28 (λ hS=>hS.bt 2 rfl hp) hy rfl<| .ix 1 S28 (λ hS=>hS.iG 1 rfl y (hsub _ (hinp _ (a7 hy)))) rfl<| .le 0 S28 (λ hS=>hS.iG 1 rfl y (hsub _ (hinp _ (a7 hy)))) hya rfl<| .z 1 S28 rfl<| .e rfl (λ _ hS=> .kJ aQ rfl rfl hshp2 (by omega)) S28<| .f rfl (.cH (a:=(xa+ya)) 4 cQ s85 rfl rfl rfl rfl (by first|omega|(simp;omega)|(rw [bT (by omega)];omega)|(simp only [PJ];omega)) λ _ s86 _=> ?_)
    have S29:=s86.pk [0,1,2,3,5]
    refine ⟨S29,?_⟩
    refine .fin<| .U rfl ?_
    have s87:=s86.aZ 4 rfl (show (ux x.occ y.occ s).set s (xa+ya)=ux x.occ y.occ (s+1) from by rw [BZ hxl hyl hxa hya])
    exact aT (s+1) ⟨s87,by omega⟩
   refine .ao ?_
   have s88:=s84.aZ 4 rfl (show ux x.occ y.occ s=eY x.occ y.occ from by rw [show s=c.length by omega,BY hxl hyl])
   have s89:=(Sat.order [0,1,2,3,5,4] (by decide) s88.tail).aI.pk [0,1,2,3,4,5]
   have s90:Sat w [cL v1 3 (aa .i64) (fG c),eG (pool2++[(⟨x.w+y.w,false,sv4,eY x.occ y.occ⟩:RI)]),bh 302 ba (ps),cL pv 302 (ba) (pk),aq b2 302 [(.int .i64 ((x.w+y.w):Nat)),(.bool false),sv4.val]] w41:=Sat.sE (A:=[cL v1 3 (aa .i64) (fG c),eG (pool2),bh 302 ba (ps),cL pv 302 (ba) (pk),aq b2 302 [(.int .i64 ((x.w+y.w):Nat)),(.bool false),sv4.val]]) s89 1 rfl
   refine .region<| .lo 1 s90 4 rfl<| .f rfl (.cn (ba) (⟨x.w+y.w,false,sv4,eY x.occ y.occ⟩:RI) dh (by decide) (by decide) s90 rfl λ v23 _ s91 _=> ?_)
   refine .ap 0 s91 3 (s91.ah 5 rfl) rfl λ v24 _ s92 _=> ?_
   refine .Z rfl<| .U rfl ?_
   have s93:=(s92.pk [0,1,2,3,4]).pk [0,1,2,3]
   exact aT (t+1,v24,pk++[(⟨x.w+y.w,false,sv4,eY x.occ y.occ⟩:RI)],pool2++[(⟨x.w+y.w,false,sv4,eY x.occ y.occ⟩:RI)]) ⟨s93,by omega,by rw [Ql,hpk,Sr,Sr,sj t _ (wo x) (wo y) (by rw [PX,hx]<;>rfl) (by rw [PX,hy]<;>rfl)];rfl,λ z hz=>R3 _ (hsub z hz),λ z hz=>by
     rcases PT.1 hz with hz|hz
     ·exact R3 _ (hinpk z hz)
     ·exact QQ _ hz,by simp;omega⟩
  refine .ao ?_
  have hpkE:pk.map wo=ta (yG c (m-1)):=by rw [hpk,Sr,BX t _ (by rw [No];omega),hpw]
  refine .region<| .c 2 (CC _ _ (lv) (pk) _ (show RdL _ sv2.val ba lv from s62.bt 2 rfl hp0) (s62.ah 3 rfl) (by omega) (by omega)) rfl λ r2 w45 h_2=> ?_
  have s94:=(s62.az h_2).nn
  obtain ⟨sv5,hsv5,hsv5n⟩:=(s94.ah 4 rfl).sv
  subst hsv5
  refine .Z rfl<| .U rfl ?_
  have s96:Sat w [cL v1 3 (aa .i64) (fG c),eG (pool2),bh 302 ba (ps++[(sv5,gl lv pk)])] w45:=Sat.kI (A:=[cL v1 3 (aa .i64) (fG c),eG (pool2),bh 302 ba (ps)]) (s94.pick [0,1,2,4] rfl) 2 rfl
  exact aT (m+1,pool2,ps++[(sv5,gl lv pk)],(sv5,gl lv pk),ps.length) ⟨s96,by omega,by omega,by rw [Q4 (bQ hp0)];exact hp0,by simp,by rw [show m+1-1=(m-1)+1 by omega];show (gl lv pk).map wo=_;rw [JG,hlvE,hpkE]<;>rfl,λ z hz=>hsub z (hinl z hz),λ z hz=>by
    rcases GI.1 hz with hz|hz
    ·exact hsub z (hinl z hz)
    ·exact hinpk z hz⟩
 refine .ao<| .seq<| .seq ?_
 have hm:m=15:=by omega
 subst hm
 have hp14:p.2.map wo=yG c 14:=hpw
 have hpl:p.2.length=(lvl c 14).length:=by have:=If List.length hp14;rw [No,si] at this;exact this
 have htop:=rR c (by omega) (by omega)
 refine .region<| .ln 1 (hv.ext s60.ext) rfl<| .Z rfl<| .block<| .lq [7,8,13,148,149] rfl (α:=Nat×List Nat) (λ (s,cur)=>[(150,(.int .i64 s))]) (λ (s,cur) w'=>Sat w (s60.U [(0,cL v1 3 (aa .i64) (cur))]) w'/\(s<=c.length)/\(cur.length=c.length)/\(∀ j,j<s->cur[j]? =some ((ca c).getD j 0))) (λ (s,cur)=>c.length-s) (0,fG c) ⟨s60,KD _,by simp [fG],λ j hj=>by omega⟩ ?_
 rintro ⟨s,cur⟩ w46 ⟨s97,hsn,hcl,hcur⟩
 refine .Z rfl<| .seq<| .ae rfl (λ c9=> ?_) λ c9=> ?_
 ·refine .skip<| .seq<| .block<| .Z rfl<| .h<| .ix 2 (s97.ah 0 rfl) rfl<| .f rfl (.cH (a:=0) 0 cQ s97 rfl rfl rfl rfl (by first|omega|(simp;omega)|(rw [bT (by omega)];omega)|(simp only [PJ];omega)) λ _ s98 _=> ?_)
  have s98:=s98.nn
  refine .nil<| .h<| .ln 2 (show RdL _ sv2.val ba lv from s98.bt 2 rfl hp0) rfl<| .a 2 rfl (.aV (E:=ba) (a:=0) (c:=((2*lv.length)-2)) dh rfl (s98.bt 2 rfl hp) rfl ⟨_,rfl⟩ (KD _) (by omega))<| .ln 0 (((s98.bt 2 rfl hp)).sub (a:=0) (b:=((2*lv.length)-2)) (KD _) (by omega)) rfl<| .Z rfl<| .block ?_
  have s99:=s98.aZ 0 rfl (show cur.set s 0=cur.set s (mI (((((p.2).take ((2*lv.length)-2)).drop 0).take 0).map RI.occ) s) from by simp [mI])
  refine .lq [7,8,13,19,148,149,150,161,162] rfl (α:=Nat) (λ q=>[(163,(.int .i64 q))]) (λ q w'=>Sat w (s99.U [(0,cL v1 3 (aa .i64) (cur.set s (mI (((((p.2).take ((2*lv.length)-2)).drop 0).take q).map RI.occ) s)))]) w'/\(q<=(((p.2).take ((2*lv.length)-2)).drop 0).length)/\(mI (((((p.2).take ((2*lv.length)-2)).drop 0).take q).map RI.occ) s<=q*2^14)) (λ q=>(((p.2).take ((2*lv.length)-2)).drop 0).length-q) 0 ⟨s99,KD _,by simp [mI]⟩ ?_
  rintro q w48 ⟨s100,hq,hacc⟩
  refine .Z rfl<| .seq<| .ae rfl (λ c10=> ?_) λ c10=> ?_
  ·refine .skip<| .seq<| .block<| .seq ?_
   obtain ⟨x,hx⟩:∃ x,(((p.2).take ((2*lv.length)-2)).drop 0)[q]? =some x:=⟨_,py c10⟩
   have hxtl:(((p.2).take ((2*lv.length)-2)).drop 0).length<=2048:=by have:=(gJ c 14).2;simp;omega
   refine .region<| .ix 0 (((s100.bt 2 rfl hp)).sub (a:=0) (b:=((2*lv.length)-2)) (KD _) (by omega)) rfl<| .lg 0 (((s100.bt 2 rfl hp)).sub (a:=0) (b:=((2*lv.length)-2)) (KD _) (by omega)) hx rfl<| .al 0 s100 rfl λ b4 _ s101 _ _=> .sa 0 s101 3 rfl ((ba).one _) λ _ s102 _=> ?_
   have s102:=s102.nn
   refine .nil ?_
   have hxm:x∈p.2:=Q8 (Qi (a7 hx))
   have hxe:wo x∈yG c 14:=by rw [<-hp14];exact Qv hxm
   have hxl:x.occ.length=c.length:=lh c _ _ hxe
   obtain ⟨xa,hxa⟩:∃ xa,(x.occ)[s]? =some xa:=⟨_,py (by omega)⟩
   have hxab:xa<=2^14:=AF c _ _ hxe _ (a7 hxa)
   have hgs:(cur.set s (mI (((((p.2).take ((2*lv.length)-2)).drop 0).take q).map RI.occ) s))[s]? =some (mI (((((p.2).take ((2*lv.length)-2)).drop 0).take q).map RI.occ) s):=Qo (by omega)
   have htq:mI (((((p.2).take ((2*lv.length)-2)).drop 0).take (q+1)).map RI.occ) s=mI (((((p.2).take ((2*lv.length)-2)).drop 0).take q).map RI.occ) s+xa:=by rw [ak hx,Ql,Qm,Sl,GP,getD_some hxa]
   have hshp3:=(s102.ah (E:=aa .i64) 0 rfl).iH (by decide)
   refine .dk [1,2,3] s102 rfl (pl [0,1,2,4,5,6,7,8,1003,9,10,1011] .fin) λ s103 S30=> .z 2 S30 rfl<| .e rfl (λ _ hS=> .kJ aQ rfl rfl hshp3 (by (try simp only [PJ]);omega)) S30<| .ld 1 S30 2 rfl<| .ix 1 S30 (λ hS=>hS.iG 0 rfl x ((hinp _ (Q8 (Qi (a7 hx)))))) rfl<| .le 0 S30 (λ hS=>hS.iG 0 rfl x ((hinp _ (Q8 (Qi (a7 hx)))))) hxa rfl<| .f rfl (.ev (Ev.OK (E:=aa .i64) gO rfl (s103.ah 0 rfl) hgs (by decide) rfl) ⟨S30,?_⟩)
   refine .z 1 S30 rfl<| .e rfl (λ _ hS=> .kJ aQ rfl rfl hshp3 (by (try simp only [PJ]);omega)) S30<| .f rfl (.cH (a:=((mI (((((p.2).take ((2*lv.length)-2)).drop 0).take q).map RI.occ) s)+xa)) 0 cQ s103 rfl rfl rfl rfl (by first|omega|(simp;omega)|(rw [bT (by omega)];omega)|(simp only [PJ];omega)) λ _ s104 _=> ?_)
   have S31:=s104.pk [1,2,3]
   refine ⟨S31,?_⟩
   refine .fin<| .U rfl ?_
   have s106:=(s104.pk [0,1,2]).aZ 0 rfl (show (cur.set s (mI (((((p.2).take ((2*lv.length)-2)).drop 0).take q).map RI.occ) s)).set s ((mI (((((p.2).take ((2*lv.length)-2)).drop 0).take q).map RI.occ) s)+xa)=cur.set s (mI (((((p.2).take ((2*lv.length)-2)).drop 0).take (q+1)).map RI.occ) s) from by rw [htq,SY])
   exact aT (q+1) ⟨s106,by omega,by omega⟩
  refine .ao<| .U rfl ?_
  exact aT (s+1,cur.set s (mI (((((p.2).take ((2*lv.length)-2)).drop 0).take q).map RI.occ) s)) ⟨s100,by omega,by simp only [PJ];exact hcl,λ j hj=>by
    by_cases e:j=s
    ·subst e;rw [Qo (by omega),show q=(((p.2).take ((2*lv.length)-2)).drop 0).length by omega,PW,show 2*lv.length-2=2*(leaves c).length-2 by omega,JH hp14 (by omega) (by omega)]
    ·rw [Rv (λ h=>e h.symm)];exact hcur j (by omega)⟩
 refine .ao<| .Z rfl<| .cj rfl rfl rfl ?_
 have hfin:cur=ca c:=GQ (by omega) hcl hcur
 subst hfin
 exact ⟨_,rfl,s97.pk [0]⟩
theorem qA (w0 w:World) (cs:List Chunk) (s:SV) (l:List Nat) (hs:Sat w0 ([]++cs) w) (hv:RdL w0 s.val (aa .i64) l) (hn:l.length<=4096):
  CallsV prog 201 [s.val] w λ r w'=>∃ ps:List (SV×List Nat),ps.map Prod.snd=(List.range (dq l.length)).map (fP l)/\(∀ p∈ps,RdL w0 p.1.val (aa .i64) p.2)/\Sat w0 ([cL r 22 (ck Nat) ps]++cs) w':=by
 refine ai func201 rfl rfl ?_
 refine .Z rfl<| .Z rfl<| .seq<| .Z rfl<| .block ?_
 have s1:=(hs.aA 22 (ck Nat)).mn
 refine .lq [0] rfl (α:=Nat×Value×List (SV×List Nat)) (λ (k,ov,ps)=>[(3,ov),(4,(.int .i64 ((64*k):Nat)))]) (λ (k,ov,ps) w'=>Sat w0 ([cL ov 22 (ck Nat) (ps)]++cs) w'/\(64*k<=l.length+63)/\(ps.map Prod.snd=(List.range k).map (fP l))/\(∀ p∈ps,RdL w0 p.1.val (aa .i64) p.2)) (λ (k,ov,ps)=>l.length+64-64*k) (0,(.slice none 0 0),[]) ⟨s1,by omega,rfl,(λ _ h=>by cases h)⟩ ?_
 rintro ⟨k,ov,ps⟩ w1 ⟨s2,hk,hps,hall⟩
 have hpl:ps.length=k:=by have:=If List.length hps;simpa using this
 refine .seq<| .h<| .ln 2 (hv.ext s2.ext) rfl<| .Z rfl<| .ae rfl (λ c1=> ?_) λ c1=> ?_
 ·refine .skip<| .seq<| .block<| .region<| .ln 6 (hv.ext s2.ext) rfl<| .e rfl (.Kg rfl rfl)<| .e rfl (.aV (E:=aa .i64) (a:=(64*k)) (c:=(min ((64*k)+64) l.length)) aQ rfl (hv.ext s2.ext) ⟨_,rfl⟩ ⟨_,rfl⟩ (by omega) (by omega))<| .f rfl (.bU (ck Nat) (Nn (fu (aa .i64).s s.val (64*k) (min ((64*k)+64) l.length)),((l).take (min ((64*k)+64) l.length)).drop (64*k)) C8 rfl s2 rfl λ v1 _ s3 _=> ?_)
  have s3d:=s3.mn
  refine .ap 0 s3d 0 (s3d.ah 1 rfl) rfl λ v2 _ s4 _=> ?_
  have s4d:=(s4.sn).pt [0]
  refine .Z rfl<| .U rfl ?_
  exact aT (k+1,v2,ps++[(Nn (fu (aa .i64).s s.val (64*k) (min ((64*k)+64) l.length)),((l).take (min ((64*k)+64) l.length)).drop (64*k))]) ⟨s4d,by omega,by rw [Ql,hps,Ru,Ql];exact If (_++[·]) (mB l k),λ p hp=>by
    rcases PT.1 hp with hp|hp
    ·exact hall p hp
    ·have:=Q0.1 hp
     subst this
     exact hv.sub (by omega) (by omega)⟩
 refine .ao<| .Z rfl<| .aC rfl rfl ?_
 exact ⟨ps,by rw [hps,show k=dq l.length by unfold dq;omega],hall,s2⟩
theorem tu (s:SV) (l:List Nat) (w:World) (hv:RdL w s.val (aa .i64) l) (hl:OkN l):
  CallsV prog 146 [s.val] w λ r w'=>Sat w [cL r 5 (aa .u8) (jM l 0)] w':=by
 refine cg func146 rfl λ hs0=> .seq ?_
 have hln:=hl.len
 have hu0:=aD l.length
 have hnb:dq l.length<=64:=by unfold dq;omega
 refine .U rfl<| .h<| .ln 1 (hv.ext hs0.ext) rfl<| .c 1 (cT (l.length) _ (by omega)) rfl λ r1 _ h_1=> ?_
 have s1:=hs0.az h_1
 refine .f rfl (.bU (aa .u8) 0 ch rfl s1 rfl λ v1 _ s2 _=> ?_)
 refine .ap 0 s2 0 (s2.ah 1 rfl) rfl λ v2 _ s3 _=> ?_
 refine .Z rfl<| .seq<| .h<| .z 1 rfl ?_
 have A1:=(s3.pk [0]).tail.oc [0] 0
 refine .c 0 (qA _ _ _ _ (l) A1 hv (by omega)) rfl λ r2 _ h_2=> ?_
 obtain ⟨ps1,hps1,hall1,p2⟩:=h_2
 have s4:=(Sat.order [1,0] (by decide) p2.join).aI.nn
 refine .ln 0 (s4.ah 1 rfl) rfl<| .Z rfl<| .block ?_
 have hpsl:ps1.length=dq l.length:=by have h1:=If List.length hps1;simpa using h1
 have s5:=s4.aZ 0 rfl (show uv (l.length)++[0]=jt l.length 0 []++ee 0 ((jK l (dq l.length)).take (0)) from by rw [y0];simp [ee])
 have s6:=s5.pk [0,1]
 refine .lq [0,14,15] rfl (α:=Nat×Value) (λ (k,bv)=>[(3,bv),(16,(.int .i64 k))]) (λ (k,bv) w'=>Sat w (s6.U [(0,cL bv 5 (aa .u8) (jt l.length 0 []++ee 0 ((jK l (dq l.length)).take (k))))]) w'/\(k<=ps1.length)/\((jt l.length 0 []++ee 0 ((jK l (dq l.length)).take (k))).length<=100+20010*k)) (λ (k,bv)=>dq l.length-k) (0,v2) ⟨s6,KD _,by rw [y0];have:=aD l.length;simp [ee];omega⟩ ?_
 rintro ⟨k,bv⟩ w5 ⟨s7,hk,hpb⟩
 refine .Z rfl<| .seq<| .ae rfl (λ c1=> ?_) λ c1=> ?_
 ·refine .skip<| .seq<| .block<| .seq ?_
  obtain ⟨x,hx⟩:∃ x,(ps1)[k]? =some x:=⟨_,py c1⟩
  obtain ⟨hkb,hx2⟩:=y1 hps1 hx
  have hcl:x.2.length<=64:=by rw [hx2,cM];omega
  refine .region<| .ix 0 (s7.ah 1 rfl) rfl<| .le 0 (s7.ah 1 rfl) hx rfl<| .Z rfl<| .seq ?_
  have hpkl:=jw x.2 (by omega)
  have hpu:=aD (bD x.2).length
  refine .region<| .c 1 (CU _ (x.2) _ ((hall1 x (a7 hx)).ext s7.ext) (by omega) (λ y hy=>by rw [hx2] at hy;have:=hl.lt y (l8 hy);omega)) rfl λ r3 _ h3=> ?_
  have s8:=s7.az h3
  refine .Z rfl<| .region<| .ln 2 (s8.ah 2 rfl) rfl<| .c 1 (cT ((bD (x.2)).length) _ (by omega)) rfl λ r4 _ h4=> ?_
  have s9:=s8.az h4
  refine .ap 0 s9 0 (s9.ah 3 rfl) rfl (h1:=by (try simp only [sp]);simp only [sp] at hpb;omega) (h2:=by (try simp only [sp]);simp only [sp] at hpb;omega) λ v3 _ s10 _=> .ap 1 s10 0 (s10.ah 2 rfl) rfl (h1:=by (try simp only [sp]);simp only [sp] at hpb;omega) (h2:=by (try simp only [sp]);simp only [sp] at hpb;omega) λ v_4 _ s11 _=> .Z rfl<| .U rfl ?_
  have s13:=(s11.pk [0,1]).aZ 0 rfl (show jt l.length 0 []++ee 0 ((jK l (dq l.length)).take (k))++uv ((bD (x.2)).length)++bD (x.2)=jt l.length 0 []++ee 0 ((jK l (dq l.length)).take (k+1)) from by rw [ak (vB hkb),fE,mC,hx2];simp)
  exact aT (k+1,v_4) ⟨s13,by omega,by rw [ak (vB hkb),fE,mC,PI rfl,<-hx2];simp only [sp] at hpb⊢;omega⟩
 refine .ao<| .Z rfl<| .aC rfl rfl ?_
 have hkn:k=dq l.length:=by have h1:=If List.length hps1;simp at h1;omega
 have s15:=(s7.pk [0]).aZ 0 rfl (show jt l.length 0 []++ee 0 ((jK l (dq l.length)).take (k))=jM l 0 from by rw [xZ,hkn,PV (by rw [Bs];exact KB _)])
 exact s15
theorem tz (s:SV) (l:List Nat) (w:World) (hv:RdL w s.val (aa .i64) l) (hl:OkN l):
  CallsV prog 145 [s.val] w λ r w'=>Sat w [cL r 5 (aa .u8) (jM l 1)] w':=by
 refine cg func145 rfl λ hs0=> .seq ?_
 have hln:=hl.len
 have hu0:=aD l.length
 have hnb:dq l.length<=64:=by unfold dq;omega
 have hmx:=hl.mx
 have hsyl:=dr l
 have hu1:=aD (lz l)
 refine .U rfl<| .Z rfl<| .seq<| .h<| .ln 1 (hv.ext hs0.ext) rfl<| .Z rfl<| .block<| .lq [0,19,20] rfl (α:=Nat×Nat) (λ (k,m)=>[(3,(.int .i64 m)),(21,(.int .i64 k))]) (λ (k,m) w'=>Sat w [] w'/\(k<=l.length)/\(m=lz (l.take k))/\(m<=1024)) (λ (k,m)=>l.length-k) (0,0) ⟨hs0,KD _,rfl,KD _⟩ ?_
 rintro ⟨k,m⟩ w1 ⟨s1,hk,hm,hmb⟩
 refine .Z rfl<| .seq<| .ae rfl (λ c1=> ?_) λ c1=> ?_
 ·refine .skip<| .seq<| .block<| .seq ?_
  obtain ⟨x,hx⟩:∃ x,(l)[k]? =some x:=⟨_,py c1⟩
  refine .region<| .ix 0 (hv.ext s1.ext) rfl<| .le 0 (hv.ext s1.ext) hx rfl<| .Z rfl ?_
  have hxb:=hl.lt x (a7 hx)
  refine .region<| .a 3 rfl (.MR rfl rfl)<| .Z rfl<| .U rfl ?_
  exact aT (k+1,(max m (x+1))) ⟨s1,by omega,by rw [ak hx,yx,hm],by have:=hl.lt x (a7 hx);omega⟩
 refine .ao<| .seq ?_
 have hmm:m=lz l:=by rw [hm,show k=l.length by omega,PW]
 refine .region<| .b 1 rfl (.cP (aa .i64) (0) aQ rfl s1 rfl rfl (by omega) (by omega) (by omega) λ v1 _ s2 _=> ?_)
 refine .Z rfl<| .seq<| .h<| .ln 1 (hv.ext s2.ext) rfl<| .Z rfl<| .block<| .lq [0,3,6,32,33] rfl (α:=Nat×List Nat) (λ (k,cur)=>[(34,(.int .i64 k))]) (λ (k,cur) w'=>Sat w [cL v1 3 (aa .i64) (cur)] w'/\(k<=l.length)/\(cur=js (lz l) (l.take k))/\(cur.length=lz l)/\(∀ x∈cur,x<=k)) (λ (k,cur)=>l.length-k) (0,List.replicate (m) 0) ⟨s2,KD _,by rw [hmm]<;>rfl,by rw [hmm];simp,λ x hx=>by have:=Rj hx;omega⟩ ?_
 rintro ⟨k,cur⟩ w3 ⟨s3,hk,hcur,hcl,hcb⟩
 refine .Z rfl<| .seq<| .ae rfl (λ c2=> ?_) λ c2=> ?_
 ·refine .skip<| .seq<| .block<| .seq ?_
  obtain ⟨x,hx⟩:∃ x,(l)[k]? =some x:=⟨_,py c2⟩
  refine .region<| .ix 0 (hv.ext s3.ext) rfl<| .le 0 (hv.ext s3.ext) hx rfl<| .Z rfl ?_
  have hxm:x<cur.length:=by rw [hcl];exact vT l x (a7 hx)
  obtain ⟨y,hy⟩:∃ y,(cur)[x]? =some y:=⟨_,py (hxm)⟩
  have hyk:=hcb y (a7 hy)
  refine .region<| .ix 2 (s3.ah 0 rfl) rfl<| .le 0 (s3.ah 0 rfl) hy rfl<| .ix 1 (s3.ah 0 rfl) rfl<| .f rfl (.cH (a:=(y+1)) 0 cQ s3 rfl rfl rfl rfl (by (try simp only [PJ]);omega) λ _ s4 _=> ?_)
  refine .nil<| .U rfl ?_
  exact aT (k+1,cur.set x (y+1)) ⟨s4,by omega,by rw [ak hx,ue,<-hcur,dx,getD_some hy],by simp only [PJ];exact hcl,λ z hz=>by
    rcases R2 hz with hz|rfl
    ·have:=hcb z hz;omega
    ·omega⟩
 refine .ao<| .seq ?_
 have s5:=s3.aZ 0 rfl (show cur=js (lz l) l from by rw [hcur,show k=l.length by omega,PW])
 refine .region<| .c 1 (xf _ (js (lz l) l) _ (s5.ah 0 rfl) (by rw [fD];exact hmx) (λ x hx=>by have:=BT (lz l) l x hx;omega)) rfl λ r1 _ h_1=> ?_
 obtain ⟨lv1,rfl,p1⟩:=h_1
 have s6:=(s5.az p1).nn
 refine .Z rfl<| .seq ?_
 have s7:=s6.aZ 1 rfl (show ca (js (lz l) l)=bA l from rfl)
 refine .region<| .ln 1 (hv.ext s7.ext) rfl<| .c 1 (cT (l.length) _ (by omega)) rfl λ r2 _ h_2=> ?_
 have s8:=s7.az h_2
 refine .f rfl (.bU (aa .u8) 1 ch rfl s8 rfl λ v2 _ s9 _=> ?_)
 have s9:=s9.nn
 refine .ap 0 s9 2 (s9.ah 3 rfl) rfl λ v3 _ s10 _=> ?_
 refine .Z rfl<| .seq ?_
 have hu2:=aD m
 refine .region<| .c 3 (cT (m) _ (by omega)) rfl λ r3 _ h3=> ?_
 have s11:=(s10.pk [0,1,2]).az h3
 refine .ap 0 s11 2 (s11.ah 3 rfl) rfl λ v_4 _ s12 _=> .Z rfl<| .seq<| .h<| .ln 1 (s12.ah 1 rfl) rfl<| .Z rfl<| .block ?_
 have s13:=(Sat.order [2,1,0,3] (by decide) s12.tail).aI.pk [0,1]
 have s14:=s13.aZ 0 rfl (show uv (l.length)++[1]++uv (m)=uv l.length++[1]++uv (bA l).length++((bA l).take (0)).map (· %2^8) from by rw [dr,<-hmm];simp)
 refine .lq [0,9,61,62] rfl (α:=Nat×Value) (λ (k,bv)=>[(11,bv),(63,(.int .i64 k))]) (λ (k,bv) w'=>Sat w (s14.U [(0,cL bv 5 (aa .u8) (uv l.length++[1]++uv (bA l).length++((bA l).take (k)).map (· %2^8)))]) w'/\(k<=(bA l).length)) (λ (k,bv)=>(bA l).length-k) (0,v_4) ⟨s14,KD _⟩ ?_
 rintro ⟨k,bv⟩ w11 ⟨s15,hk⟩
 refine .Z rfl<| .seq<| .ae rfl (λ c3=> ?_) λ c3=> ?_
 ·refine .skip<| .seq<| .block<| .seq ?_
  have hu3:=aD (bA l).length
  obtain ⟨x,hx⟩:∃ x,(bA l)[k]? =some x:=⟨_,py c3⟩
  refine .region<| .ix 0 (s15.ah 1 rfl) rfl<| .le 0 (s15.ah 1 rfl) hx rfl<| .Z rfl<| .region<| .a 2 rfl (.gR (by rw [underlying3]<;>rfl) underlying5 rfl rfl)<| .f rfl (.bU (aa .u8) (x%2^8) ch rfl s15 rfl λ v5 _ s16 _=> ?_)
  refine .ap 0 s16 0 (s16.ah 2 rfl) rfl λ v6 _ s17 _=> ?_
  refine .Z rfl<| .U rfl ?_
  have s18:=(s17.pk [0,1]).pk [0,1]
  have s19:=s18.aZ 0 rfl (show uv l.length++[1]++uv (bA l).length++((bA l).take (k)).map (· %2^8)++[(x%2^8)]=uv l.length++[1]++uv (bA l).length++((bA l).take (k+1)).map (· %2^8) from by rw [ak hx];simp)
  exact aT (k+1,v6) ⟨s19,by omega⟩
 refine .ao<| .seq<| .h<| .z 1 rfl ?_
 have A1:=s15.tail.oc [0,1] 0
 refine .c 0 (qA _ _ _ _ (l) A1 hv (by omega)) rfl λ r4 _ h4=> ?_
 obtain ⟨ps1,hps1,hall1,p4⟩:=h4
 have s20:=(Sat.order [1,2,0] (by decide) p4.join).aI.nn
 refine .ln 0 (s20.ah 2 rfl) rfl<| .Z rfl<| .block ?_
 have hpsl:ps1.length=dq l.length:=by have h1:=If List.length hps1;simpa using h1
 have s22:=(s20.pk [0,1,2]).aZ 0 rfl (show uv l.length++[1]++uv (bA l).length++((bA l).take (k)).map (· %2^8)=jt l.length 1 (bA l)++ee 1 ((oN l (dq l.length)).take (0)) from by rw [J7,show k=(bA l).length by omega,PW];simp [ee])
 refine .lq [0,9,74,75] rfl (α:=Nat×Value) (λ (q,bv)=>[(11,bv),(76,(.int .i64 q))]) (λ (q,bv) w'=>Sat w (s22.U [(0,cL bv 5 (aa .u8) (jt l.length 1 (bA l)++ee 1 ((oN l (dq l.length)).take (q))))]) w'/\(q<=ps1.length)/\((jt l.length 1 (bA l)++ee 1 ((oN l (dq l.length)).take (q))).length<=2000+20010*q)) (λ (q,bv)=>dq l.length-q) (0,bv) ⟨s22,KD _,by have h1:=ju l.length 1 (bA l);simp [ee];omega⟩ ?_
 rintro ⟨q,bv⟩ w15 ⟨s23,hq,hpb⟩
 refine .Z rfl<| .seq<| .ae rfl (λ c4=> ?_) λ c4=> ?_
 ·refine .skip<| .seq<| .block<| .seq ?_
  obtain ⟨x,hx⟩:∃ x,(ps1)[q]? =some x:=⟨_,py c4⟩
  obtain ⟨hkb,hx2⟩:=y1 hps1 hx
  have hcl:x.2.length<=64:=by rw [hx2,cM];omega
  have hhl:=im (GoodLens.sH (oM (l9 l hmx))) x.2
  have hpkl:=bc (db (bA l) x.2)
  have hpu:=aD (db (bA l) x.2).length
  refine .region<| .ix 0 (s23.ah 2 rfl) rfl<| .le 0 (s23.ah 2 rfl) hx rfl<| .Z rfl<| .h<| .c 2 (xk _ _ (bA l) (x.2) _ (s23.ah 1 rfl) ((hall1 x (a7 hx)).ext s23.ext) (by rw [dr];exact hmx) (oM (l9 l hmx)) (by omega) (λ y hy=>yy hmx y (by rw [hx2] at hy;exact l8 hy))) rfl λ r5 _ h5=> ?_
  obtain ⟨hv1,rfl,p5⟩:=h5
  have s24:=s23.az p5
  refine .Z rfl<| .region<| .c 3 (cT ((db (bA l) x.2).length) _ (by omega)) rfl λ r6 _ h6=> ?_
  have s25:=(s24.az h6).nn
  refine .ap 0 s25 0 (s25.ah 4 rfl) rfl (h1:=by (try simp only [sp]);simp only [sp] at hpb;omega) (h2:=by (try simp only [sp]);simp only [sp] at hpb;omega) λ v7 _ s26 _=> .ap 1 s26 0 (s26.ah 3 rfl) rfl (h1:=by (try simp only [sp]);simp only [sp] at hpb;omega) (h2:=by (try simp only [sp]);simp only [sp] at hpb;omega) λ v8 _ s27 _=> ?_
  have s27d:Sat w [cL v8 5 (aa .u8) (jt l.length 1 (bA l)++ee 1 ((oN l (dq l.length)).take (q))++uv ((db (bA l) x.2).length)++aH (db (bA l) x.2)),_,_,_,_] _:=s27
  refine .Z rfl<| .U rfl ?_
  have s29:=(s27d.pk [0,1,2]).aZ 0 rfl (show jt l.length 1 (bA l)++ee 1 ((oN l (dq l.length)).take (q))++uv ((db (bA l) x.2).length)++aH (db (bA l) x.2)=jt l.length 1 (bA l)++ee 1 ((oN l (dq l.length)).take (q+1)) from by rw [ak (Br hkb),fE,mC,hx2];simp)
  exact aT (q+1,v8) ⟨s29,by omega,by rw [ak (Br hkb),fE,mC,M2 (by decide),<-hx2];simp only [sp] at hpb⊢;omega⟩
 refine .ao<| .Z rfl<| .aC rfl rfl ?_
 have hkn:q=dq l.length:=by omega
 have s31:=(s23.pk [0]).aZ 0 rfl (show jt l.length 1 (bA l)++ee 1 ((oN l (dq l.length)).take (q))=jM l 1 from by rw [J6,hkn,PV (by rw [Bt];exact KB _)])
 exact s31
theorem El (s:SV) (l:List Nat) (w:World) (hv:RdL w s.val (aa .i64) l) (hl:OkN l):
  CallsV prog 144 [s.val] w λ r w'=>r= .int .i64 ((br l:Nat):Int)/\Sat w [] w':=by
 refine cg func144 rfl λ hs0=> .Z rfl<| .seq<| .h<| .c 1 (tz _ (l) _ (hv.ext hs0.ext) (hl)) rfl λ r1 _ h1=> ?_
 have s1:=hs0.az h1
 refine .ln 0 (s1.ah 0 rfl) rfl<| .c 1 (tu _ (l) _ (hv.ext s1.ext) (hl)) rfl λ r2 _ h2=> ?_
 have s2:=s1.az h2
 refine .ln 0 (s2.ah 1 rfl) rfl<| .Z rfl<| .ae rfl (λ c1=> ?_) λ c1=> ?_
 ·refine .Z rfl<| .aC rfl rfl ?_
  exact ⟨by rw [br,PI c1]<;>rfl,s2.pk []⟩
 refine .skip<| .Z rfl<| .aC rfl rfl ?_
 exact ⟨by rw [br,M2 c1]<;>rfl,s2.pk []⟩
theorem zA (s:SV) (l:List Nat) (w:World) (hv:RdL w s.val (aa .i64) l) (hl:OkN l):
  CallsV prog 93 [s.val] w λ r w'=>Sat w [cL r 5 (aa .u8) (aM (jM l (br l)))] w':=by
 refine cg func93 rfl λ hs0=> .Z rfl<| .seq<| .h<| .cp 1 hs0 (El _ (l) _ (hv.ext hs0.ext) (hl)) rfl λ _ s1=> .Z rfl<| .ae rfl (λ c1=> ?_) λ c1=> ?_
 ·refine .seq ?_
  have hpn:=np hl (k:=1) (by decide)
  refine .region<| .c 1 (tz _ (l) _ (hv.ext s1.ext) (hl)) rfl λ r2 _ h2=> ?_
  have s2:=s1.az h2
  refine .c 0 (jQ _ (jM l 1) _ (s2.ah 0 rfl) (jO (by decide)) (by omega)) rfl λ r3 _ h3=> ?_
  have s3:=(s2.az h3).nn
  refine .Z rfl<| .aC rfl rfl ?_
  have hkd:br l=1:=c1
  have s5:=(s3.pk [1]).aZ 0 rfl (show aM (jM l 1)=aM (jM l (br l)) from by rw [hkd])
  exact s5
 refine .skip<| .seq ?_
 have hpn:=np hl (k:=0) (by decide)
 refine .region<| .c 1 (tu _ (l) _ (hv.ext s1.ext) (hl)) rfl λ r4 _ h4=> ?_
 have s6:=s1.az h4
 refine .c 0 (jQ _ (jM l 0) _ (s6.ah 0 rfl) (jO (by decide)) (by omega)) rfl λ r5 _ h5=> ?_
 have s7:=(s6.az h5).nn
 refine .Z rfl<| .aC rfl rfl ?_
 have hkd:br l=0:=by have:=et l;omega
 have s9:=(s7.pk [1]).aZ 0 rfl (show aM (jM l 0)=aM (jM l (br l)) from by rw [hkd])
 exact s9
theorem mL {l:List ByteArray} {i c:Nat} (h:(ar l)[i]? =some c):c<=l.length:=by
 unfold ar at h
 rw [PX] at h
 obtain ⟨y,_,rfl⟩:=QI.1 h
 exact GF l y
theorem pQ {C:List Nat} {b:Nat} (h:b<=C.length):(((C.take b).drop 0++[0])++(C.take C.length).drop b)[b]? =some 0:=by
 have h1:(C.take b).length=b:=length_take_of_le h
 rw [Ra,LW,Qb (by omega),h1,Qp]<;>rfl
theorem pR {C:List Nat} {b:Nat} (h:b<=C.length):(((C.take b).drop 0++[0])++(C.take C.length).drop b).set b (0+1)=C.take b++1::C.drop b:=by
 have h1:(C.take b).length=b:=length_take_of_le h
 rw [Ra,LW,Qq _ _ (by omega),h1,Qp,PW]<;>rfl
theorem xg (vw vc:Value) (W:List ByteArray) (s:ByteArray) (w:World) (hv:RdL w vw ax W) (hvc:vc.oneCell'=true) (hn:W.length<=1000000):
  CallsV prog 198 [(.agg #[vw,vc]),(.string s)] w λ r w'=>r= .tuple #[.int .i64 ((bJ W s:Nat):Int),.bool (decide (W[bJ W s]? =some s))]/\Sat w [] w':=by
 refine cg func198 rfl λ hs0=> .h<| .bx 0 hs0 rfl λ b1 _ s1 _ _=> .Z rfl<| .Z rfl<| .seq<| .block<| .lq [1,2] rfl (α:=Nat) (λ k=>[(6,(.int .i64 k))]) (λ k w'=>Sat w s1.L w'/\(k<=W.length)/\(∀ j y,j<k->W[j]? =some y->SLt y s)) (λ k=>W.length-k) 0 ⟨s1,KD _,λ j y hj=>absurd hj (TL j)⟩ ?_
 rintro k w2 ⟨s2,hk,hlt⟩
 refine .seq<| .seq ?_
 rcases SN (k<W.length) with hkw|hkw
 ·obtain ⟨x,hx⟩:∃ x,W[k]? =some x:=⟨_,py hkw⟩
  refine .region<| .ld 2 s2 0 rfl<| .ln 0 (hv.ext s2.ext) rfl<| .z 2 rfl<| .Gt 12 rfl (PM hkw)<| .ld 1 s2 0 rfl<| .ix 1 (hv.ext s2.ext) rfl<| .le 0 (hv.ext s2.ext) hx rfl<| .a 1 rfl (.wO rfl rfl)<| .Z rfl<| .ae rfl (λ c1=> ?_) λ c1=> ?_
  ·refine .skip<| .block<| .U rfl ?_
   exact aT (k+1) ⟨s2,by omega,λ j y hj hy=>by rcases Q1 j k with h9|h9;exact hlt j y h9 hy;rw [show j=k by omega,hx] at hy;cases hy;exact c1⟩
  refine .ao<| .seq<| .dk [0] s2 rfl (pl [0,1,2,3,4,5,6,7,8,9,10,11,12,13,14,15,16] .fin) λ s3 S1=> .ld 3 S1 0 rfl<| .ln 0 S1 (hv.ext ·.ext) rfl<| .z 2 S1 rfl<| .Gt 29 rfl (PM hkw)<| .ld 1 S1 0 rfl<| .ix 1 S1 (hv.ext ·.ext) rfl<| .le 0 S1 (hv.ext ·.ext) hx rfl<| .a 1 S1 rfl (λ _ q=> .eF rfl rfl)<| .Z S1 rfl<| .cj rfl rfl rfl ?_
  have hl:bJ W s=k:=vZ hk (λ j y hj hy=>hlt j y hj hy) (λ y hy=>by rw [hx] at hy;cases hy;exact c1)
  rw [hl]
  exact ⟨by simp [hx],s3.pk []⟩
 refine .region<| .ld 2 s2 0 rfl<| .ln 0 (hv.ext s2.ext) rfl<| .z 2 rfl<| .Gf 12 rfl (IN hkw)<| .Z rfl<| .aj rfl (rfl)<| .ao<| .seq<| .dk [0] s2 rfl (pl [0,1,2,3,4,5,6,7,8,9,10,11,12,13,14,15,16] .fin) λ s5 S2=> .ld 3 S2 0 rfl<| .ln 0 S2 (hv.ext ·.ext) rfl<| .z 2 S2 rfl<| .Gf 29 rfl (IN hkw)<| .Z S2 rfl<| .cj rfl rfl rfl ?_
 have hl:bJ W s=k:=vZ hk (λ j y hj hy=>hlt j y hj hy) (λ y hy=>by rw [Q3 (by omega)] at hy;cases hy)
 have hn:W[k]? =none:=Q3 (by omega)
 rw [hl]
 exact ⟨by simp [hn],s5.pk []⟩
set_option maxHeartbeats 1000000 in
theorem CD (v:Value) (vs:List ByteArray) (w:World) (hv:RdL w v ax vs):
  CallsV prog 142 [v] w λ r w'=>(dn vs≠0/\r= .tuple #[.agg #[.slice none 0 0,.slice none 0 0],.slice none 0 0,.int .i64 ((dn vs:Nat):Int)]/\Sat w [] w')\/(dn vs=0/\∃ vw vc vn,r= .tuple #[.agg #[vw,vc],vn,.int .i64 0]/\Sat w [cL vw 9 ax (a8 vs),cL vc 3 (aa .i64) (ar vs),cL vn 3 (aa .i64) (vs.map (bJ (a8 vs)))] w'):=by
 refine cg func142 rfl λ hs0=> .h<| .al 0 hs0 rfl λ b1 _ s1 _ _=> .Z rfl<| .seq<| .h<| .ln 1 (hv.ext s1.ext) rfl<| .Z rfl<| .ae rfl (λ c1=> ?_) λ c1=> ?_
 ·refine .h<| .e rfl (.build yT rfl trivial rfl)<| .sa 0 s1 0 (vs:=[(.slice none 0 0),(.slice none 0 0)]) rfl (λ v h=>by simp only [PR,PU,Q9] at h;rcases h with rfl|rfl;exact rfl;exact rfl) λ _ s2 _=> .Z rfl<| .ret ?_
  show aL _ _ _ _ _ _
  refine jW (vs:=[(.slice none 0 0),(.slice none 0 0)]) rfl rfl rfl rfl sB (λ j u hu=>s2.cell (i:=0) rfl hu) ?_
  have hq:dn vs=2:=by
   unfold dn
   rw [PI c1]
  rw [hq]
  exact .inl ⟨by decide,rfl,s2.pk []⟩
 refine .skip<| .h<| .e rfl (.build yT rfl trivial rfl)<| .al 0 s1 rfl λ b2 _ s4 _ _=> .sa 0 s4 1 (vs:=[(.slice none 0 0),(.slice none 0 0)]) rfl (λ v h=>by simp only [PR,PU,Q9] at h;rcases h with rfl|rfl;exact rfl;exact rfl) λ _ s5 _=> ?_
 have s5:=s5.nn
 refine .nil<| .seq<| .h<| .ln 1 (hv.ext s5.ext) rfl<| .Z rfl<| .block ?_
 have s6:=s5.aA 9 (ax)
 have s7:=s6.aA 3 (aa .i64)
 have s8:=s7.aZ 2 rfl (show []=a8 (vs.take 0) from rfl)
 have s9:=s8.aZ 3 rfl (show []=ar (vs.take 0) from rfl)
 refine .lq [0,2,5,20,21] rfl (α:=Nat×Value×Value) (λ (k,vw,vc)=>[(22,(.int .i64 k))]) (λ (k,vw,vc) w'=>Sat w (s9.U [(1,aq b2 199 [vw,vc]),(2,cL vw 9 (ax) (a8 (vs.take k))),(3,cL vc 3 (aa .i64) (ar (vs.take k)))]) w'/\(k<=vs.length)/\(eu vs=eu (vs.drop k))) (λ (k,vw,vc)=>vs.length-k) (0,(.slice none 0 0),(.slice none 0 0)) ⟨s9,KD _,rfl⟩ ?_
 rintro ⟨k,vw,vc⟩ w5 ⟨s10,hk,hchk⟩
 refine .Z rfl<| .seq<| .ae rfl (λ c2=> ?_) λ c2=> ?_
 ·refine .skip<| .seq<| .block<| .seq ?_
  obtain ⟨x,hx⟩:∃ x,(vs)[k]? =some x:=⟨_,py c2⟩
  refine .region<| .ix 0 (hv.ext s10.ext) rfl<| .le 0 (hv.ext s10.ext) hx rfl<| .Z rfl<| .seq<| .h<| .a 1 rfl (.bo underlying9 rfl)<| .Z rfl<| .ae rfl (λ c3=> ?_) λ c3=> ?_
  ·refine .h<| .e rfl (.build yT rfl trivial rfl)<| .sa 0 s10 0 (vs:=[(.slice none 0 0),(.slice none 0 0)]) rfl (λ v h=>by simp only [PR,PU,Q9] at h;rcases h with rfl|rfl;exact rfl;exact rfl) λ _ s11 _=> ?_
   have s11:=s11.nn
   refine .Z rfl<| .ret ?_
   show aL _ _ _ _ _ _
   refine jW (vs:=[(.slice none 0 0),(.slice none 0 0)]) rfl rfl rfl rfl sB (λ j u hu=>s11.cell (i:=0) rfl hu) ?_
   have hq:dn vs=2:=by
    unfold dn
    have h9:eu vs=2:=by rw [hchk,cV hx,eu,PI c3]
    rw [M2 c1,h9]<;>rfl
   rw [hq]
   exact .inl ⟨by decide,rfl,s11.pk []⟩
  refine .skip<| .seq<| .h<| .cq 1 s10 (mJ x _ (by omega)) rfl λ _ s13=> .e rfl (.cO rfl)<| .nil<| .cond rfl (λ c4=> ?_) (λ c4=> ?_)
  ·refine .h<| .e rfl (.build yT rfl trivial rfl)<| .sa 0 s13 0 (vs:=[(.slice none 0 0),(.slice none 0 0)]) rfl (λ v h=>by simp only [PR,PU,Q9] at h;rcases h with rfl|rfl;exact rfl;exact rfl) λ _ s14 _=> .Z rfl<| .ret ?_
   show aL _ _ _ _ _ _
   refine jW (vs:=[(.slice none 0 0),(.slice none 0 0)]) rfl rfl rfl rfl sB (λ j u hu=>s14.cell (i:=0) rfl hu) ?_
   have hq:dn vs=7:=by
    unfold dn
    have h9:eu vs=7:=by rw [hchk,cV hx,eu,M2 (by omega),PI (by simpa using c4)]
    rw [M2 c1,h9]<;>rfl
   rw [hq]
   exact .inl ⟨by decide,rfl,s14.pk []⟩
  refine .skip<| .seq ?_
  have hwl:=bI (vs.take k)
  have htl:=Ty k vs
  have hlb:bJ (a8 (vs.take k)) x<=(a8 (vs.take k)).length:=AD (R:=SLt) _ x
  have hcl:=eU (vs.take k)
  refine .region<| .lo 0 s13 1 rfl<| .cp 1 s13 (xg _ _ (a8 (vs.take k)) x _ (s13.ah 2 rfl) ((s13.ah 3 rfl).ab) (by omega)) rfl λ _ s16=> .Z rfl<| .seq<| .h<| .a 1 rfl (.mF rfl)<| .nil<| .ae rfl (λ c5=> ?_) λ c5=> ?_
  ·refine .seq<| .iF [0,1,2,3] [0,2,3] s16 rfl rfl 14 (pl [0,1,2,3,5,8,9,10,11] (.two 4 6 (pl [1006,1007,1012,13] (.bar 14 .fin)) (pl [1004,1007,1012,13] (.bar 14 .fin)))) mixed (by kernel_rfl) ?_
   have s17:=s16.drew
   have S1:=s17.pk [0,1,2,3]
   refine .ld 1 S1 1 rfl<| .z 1 S1 rfl<| .e rfl (λ _ s=> .aV (E:=ax) (a:=0) (c:=(bJ (a8 (vs.take k)) x)) bu rfl (s.ah 2 rfl) rfl ⟨_,rfl⟩ (by omega) (by omega)) S1<| .ld 2 S1 1 rfl<| .z 1 S1 rfl<| .e rfl (λ _ s=> .aV (E:=ax) (a:=(bJ (a8 (vs.take k)) x)) (c:=(a8 (vs.take k)).length) bu rfl (s.ah 2 rfl) ⟨_,rfl⟩ rfl (by omega) (by omega)) S1 ?_
   have s18:=s17.aA 9 (ax)
   refine .two rfl rfl rfl rfl rfl rfl (OpE.aw 4 bu s18 rfl rfl rfl underlying28 (((s18.ah 2 rfl)).sub (a:=0) (b:=(bJ (a8 (vs.take k)) x)) (by omega) (by omega)) (by simp only [sp,KV,PK,KP,KY,No] at*;omega) (by simp only [sp,KV,PK,KP,KY,No] at*;omega) λ v1 _ s19 _=> ?_) (OpE.bU (ax) x bu rfl s17 rfl λ v2 _ s20 _=> ?_)
   ·skip
    have S2:=s19.pk [0,1,2,3]
    refine ⟨S2,?_⟩
    refine .f rfl (.bU (ax) x bu rfl s19 rfl λ v3 _ s21 _=> ?_)
    have S3:=s21.pk [0,1,2,3]
    refine ⟨S3,?_⟩
    refine .f rfl (.aw 4 bu s21 rfl rfl rfl underlying28 (s21.ah 5 rfl) (by simp only [sp,KV,PK,KP,KY,No] at*;omega) (by simp only [sp,KV,PK,KP,KY,No] at*;omega) λ v_4 _ s22 _=> ?_)
    have s22:=s22.pk [0,1,2,3,4]
    have S4:=s22.pk [0,1,2,3]
    refine ⟨S4,?_⟩
    refine .f rfl (.aw 4 bu s22 rfl rfl rfl underlying28 (((s22.ah 2 rfl)).sub (a:=(bJ (a8 (vs.take k)) x)) (b:=(a8 (vs.take k)).length) (by omega) (by omega)) (by simp only [sp,KV,PK,KP,KY,No] at*;omega) (by simp only [sp,KV,PK,KP,KY,No] at*;omega) λ v5 _ s23 _=> ?_)
    have S5:=s23.pk [0,1,2,3]
    refine ⟨S5,?_⟩
    refine .z 1 S5 rfl<| .bar rfl rfl rfl (OpE.aK lH s23 (i:=1) rfl rfl rfl ((s23.ah 4 rfl).ab) rfl λ _ s24 _=> ?_)
    have S6:=s24.pk [0,2,3]
    refine ⟨S6,?_⟩
    refine .fin<| .iF [0,1,2,3,4] [0,2,3,4] s24 rfl rfl 13 (pl [0,1,2,3,7,8,9,10] (.two 4 5 (pl [1005,1006,1011,12] (.bar 13 .fin)) (pl [1004,1006,1011,12] (.bar 13 .fin)))) mixed (by kernel_rfl) ?_
    have s25:=s24.drew
    have S7:=s25.pk [0,1,2,3,4]
    refine .ld 1 S7 1 rfl<| .z 1 S7 rfl<| .e rfl (λ _ s=> .aV (E:=aa .i64) (a:=0) (c:=(bJ (a8 (vs.take k)) x)) aQ rfl (s.ah 3 rfl) rfl ⟨_,rfl⟩ (by omega) (by omega)) S7<| .ld 1 S7 1 rfl<| .z 1 S7 rfl<| .e rfl (λ _ s=> .aV (E:=aa .i64) (a:=(bJ (a8 (vs.take k)) x)) (c:=(ar (vs.take k)).length) aQ rfl (s.ah 3 rfl) ⟨_,rfl⟩ rfl (by omega) (by omega)) S7 ?_
    have s26:=s25.aA 3 (aa .i64)
    refine .two rfl rfl rfl rfl rfl rfl (OpE.aw 5 aQ s26 rfl rfl rfl underlying22 (((s26.ah 3 rfl)).sub (a:=0) (b:=(bJ (a8 (vs.take k)) x)) (by omega) (by omega)) (by simp only [sp,KV,PK,KP,KY,No] at*;omega) (by simp only [sp,KV,PK,KP,KY,No] at*;omega) λ v6 _ s27 _=> ?_) (OpE.bU (aa .i64) 0 aQ rfl s25 rfl λ v7 _ s28 _=> ?_)
    ·have s27d:Sat w [_,aq b2 199 [v5,vc],_,_,_,cL v6 3 (aa .i64) (((ar (vs.take k)).take (bJ (a8 (vs.take k)) x)).drop 0)] _:=s27
     have S8:=s27d.pk [0,1,2,3,4]
     refine ⟨S8,?_⟩
     refine .f rfl (.bU (aa .i64) 0 aQ rfl s27d rfl λ v8 _ s29 _=> ?_)
     have S9:=s29.pk [0,1,2,3,4]
     refine ⟨S9,?_⟩
     refine .f rfl (.aw 5 aQ s29 rfl rfl rfl underlying22 (s29.ah 6 rfl) (by simp only [sp,KV,PK,KP,KY,No] at*;omega) (by simp only [sp,KV,PK,KP,KY,No] at*;omega) λ v9 _ s30 _=> ?_)
     have s30:=s30.pk [0,1,2,3,4,5]
     have S10:=s30.pk [0,1,2,3,4]
     refine ⟨S10,?_⟩
     refine .f rfl (.aw 5 aQ s30 rfl rfl rfl underlying22 (((s30.ah 3 rfl)).sub (a:=(bJ (a8 (vs.take k)) x)) (b:=(ar (vs.take k)).length) (by omega) (by omega)) (by simp only [sp,KV,PK,KP,KY,No] at*;omega) (by simp only [sp,KV,PK,KP,KY,No] at*;omega) λ v10 _ s31 _=> ?_)
     have S11:=s31.pk [0,1,2,3,4]
     refine ⟨S11,?_⟩
     refine .z 1 S11 rfl<| .bar rfl rfl rfl (OpE.aK fR s31 (i:=1) rfl rfl rfl ((s31.ah 5 rfl).ab) rfl λ _ s32 _=> ?_)
     have S12:=s32.pk [0,2,3,4]
     refine ⟨S12,?_⟩
     refine .fin<| .trim [0,2,5,7,8,9,20,21,22] rfl ?_
     have hws:((a8 (vs.take k)).take (bJ (a8 (vs.take k)) x)).drop 0++[x]++((a8 (vs.take k)).take ((a8 (vs.take k)).length)).drop (bJ (a8 (vs.take k)) x)=a8 (vs.take (k+1)):=by rw [aR hx,cy,addW,M2 c5,gM];simp
     have hcx:(((ar (vs.take k)).take (bJ (a8 (vs.take k)) x)).drop 0++[0]++((ar (vs.take k)).take ((ar (vs.take k)).length)).drop (bJ (a8 (vs.take k)) x))[bJ (a8 (vs.take k)) x]? =some 0:=pQ (by omega)
     have hcs:ar (vs.take (k+1))=(((ar (vs.take k)).take (bJ (a8 (vs.take k)) x)).drop 0++[0]++((ar (vs.take k)).take ((ar (vs.take k)).length)).drop (bJ (a8 (vs.take k)) x)).set (bJ (a8 (vs.take k)) x) (0+1):=by rw [aR hx,gN c5];exact (pR (by omega)).symm
     refine .region<| .ld 1 s32 1 rfl<| .ix 1 (s32.ah 5 rfl) rfl (hj:=AT.1 hcx|>.1) ?_
     refine .le 0 (s32.ah 5 rfl) hcx rfl<| .ix 1 (s32.ah 5 rfl) rfl (hj:=AT.1 hcx|>.1) ?_
     refine .f rfl (.cH (a:=(0+1)) 5 cQ s32 rfl rfl rfl rfl (AT.1 hcx|>.1) λ _ s33 _=> ?_)
     refine .nil<| .U rfl ?_
     have s34:=s33.aZ 4 rfl (show ((a8 (vs.take k)).take (bJ (a8 (vs.take k)) x)).drop 0++[x]++((a8 (vs.take k)).take ((a8 (vs.take k)).length)).drop (bJ (a8 (vs.take k)) x)=a8 (vs.take (k+1)) from hws)
     have s35:=s34.aZ 5 rfl (show (((ar (vs.take k)).take (bJ (a8 (vs.take k)) x)).drop 0++[0]++((ar (vs.take k)).take ((ar (vs.take k)).length)).drop (bJ (a8 (vs.take k)) x)).set (bJ (a8 (vs.take k)) x) (0+1)=ar (vs.take (k+1)) from hcs.symm)
     exact aT (k+1,v5,v10) ⟨s35.pk [0,1,4,5],by omega,by rw [hchk,cV hx,eu,M2 (by omega),M2 (by simpa using c4)]⟩
    have S13:=s28.pk [0,1,2,3,4]
    refine ⟨S13,?_⟩
    have s37:=s28.aA 3 (aa .i64)
    refine .f rfl (.aw 6 aQ s37 rfl rfl rfl underlying22 (((s37.ah 3 rfl)).sub (a:=0) (b:=(bJ (a8 (vs.take k)) x)) (by omega) (by omega)) (by simp only [sp,KV,PK,KP,KY,No] at*;omega) (by simp only [sp,KV,PK,KP,KY,No] at*;omega) λ v11 _ s38 _=> ?_)
    have S14:=s38.pk [0,1,2,3,4]
    refine ⟨S14,?_⟩
    refine .f rfl (.aw 6 aQ s38 rfl rfl rfl underlying22 (s38.ah 5 rfl) (by simp only [sp,KV,PK,KP,KY,No] at*;omega) (by simp only [sp,KV,PK,KP,KY,No] at*;omega) λ v12 _ s39 _=> ?_)
    have s39d:Sat w [_,_,_,_,_,_,cL v12 3 (aa .i64) (((ar (vs.take k)).take (bJ (a8 (vs.take k)) x)).drop 0++[0])] _:=s39
    have S15:=s39d.pk [0,1,2,3,4]
    refine ⟨S15,?_⟩
    refine .f rfl (.aw 6 aQ s39d rfl rfl rfl underlying22 (((s39d.ah 3 rfl)).sub (a:=(bJ (a8 (vs.take k)) x)) (b:=(ar (vs.take k)).length) (by omega) (by omega)) (by simp only [sp,KV,PK,KP,KY,No] at*;omega) (by simp only [sp,KV,PK,KP,KY,No] at*;omega) λ v13 _ s40 _=> ?_)
    have S16:=s40.pk [0,1,2,3,4]
    refine ⟨S16,?_⟩
    refine .z 1 S16 rfl<| .bar rfl rfl rfl (OpE.aK fR s40 (i:=1) rfl rfl rfl ((s40.ah 6 rfl).ab) rfl λ _ s41 _=> ?_)
    have s41:=s41.nn
    have S17:=s41.pk [0,2,3,4]
    refine ⟨S17,?_⟩
    refine .fin<| .trim [0,2,5,7,8,9,20,21,22] rfl ?_
    have hws:((a8 (vs.take k)).take (bJ (a8 (vs.take k)) x)).drop 0++[x]++((a8 (vs.take k)).take ((a8 (vs.take k)).length)).drop (bJ (a8 (vs.take k)) x)=a8 (vs.take (k+1)):=by rw [aR hx,cy,addW,M2 c5,gM];simp
    have hcx:(((ar (vs.take k)).take (bJ (a8 (vs.take k)) x)).drop 0++[0]++((ar (vs.take k)).take ((ar (vs.take k)).length)).drop (bJ (a8 (vs.take k)) x))[bJ (a8 (vs.take k)) x]? =some 0:=pQ (by omega)
    have hcs:ar (vs.take (k+1))=(((ar (vs.take k)).take (bJ (a8 (vs.take k)) x)).drop 0++[0]++((ar (vs.take k)).take ((ar (vs.take k)).length)).drop (bJ (a8 (vs.take k)) x)).set (bJ (a8 (vs.take k)) x) (0+1):=by rw [aR hx,gN c5];exact (pR (by omega)).symm
    refine .region<| .ld 1 s41 1 rfl<| .ix 1 (s41.ah 6 rfl) rfl (hj:=AT.1 hcx|>.1) ?_
    refine .le 0 (s41.ah 6 rfl) hcx rfl<| .ix 1 (s41.ah 6 rfl) rfl (hj:=AT.1 hcx|>.1) ?_
    refine .f rfl (.cH (a:=(0+1)) 6 cQ s41 rfl rfl rfl rfl (AT.1 hcx|>.1) λ _ s42 _=> ?_)
    refine .nil<| .U rfl ?_
    have s43:=s42.aZ 4 rfl (show ((a8 (vs.take k)).take (bJ (a8 (vs.take k)) x)).drop 0++[x]++((a8 (vs.take k)).take ((a8 (vs.take k)).length)).drop (bJ (a8 (vs.take k)) x)=a8 (vs.take (k+1)) from hws)
    have s44:=s43.aZ 6 rfl (show (((ar (vs.take k)).take (bJ (a8 (vs.take k)) x)).drop 0++[0]++((ar (vs.take k)).take ((ar (vs.take k)).length)).drop (bJ (a8 (vs.take k)) x)).set (bJ (a8 (vs.take k)) x) (0+1)=ar (vs.take (k+1)) from hcs.symm)
    exact aT (k+1,v5,v13) ⟨s44.pk [0,1,4,6],by omega,by rw [hchk,cV hx,eu,M2 (by omega),M2 (by simpa using c4)]⟩
   have S18:=s20.pk [0,1,2,3]
   refine ⟨S18,?_⟩
   have s46:=s20.aA 9 (ax)
   refine .f rfl (.aw 5 bu s46 rfl rfl rfl underlying28 (((s46.ah 2 rfl)).sub (a:=0) (b:=(bJ (a8 (vs.take k)) x)) (by omega) (by omega)) (by simp only [sp,KV,PK,KP,KY,No] at*;omega) (by simp only [sp,KV,PK,KP,KY,No] at*;omega) λ v14 _ s47 _=> ?_)
   have S19:=s47.pk [0,1,2,3]
   refine ⟨S19,?_⟩
   refine .f rfl (.aw 5 bu s47 rfl rfl rfl underlying28 (s47.ah 4 rfl) (by simp only [sp,KV,PK,KP,KY,No] at*;omega) (by simp only [sp,KV,PK,KP,KY,No] at*;omega) λ v15 _ s48 _=> ?_)
   have s48d:Sat w [_,_,_,_,_,cL v15 9 (ax) (((a8 (vs.take k)).take (bJ (a8 (vs.take k)) x)).drop 0++[x])] _:=s48
   have S20:=s48d.pk [0,1,2,3]
   refine ⟨S20,?_⟩
   refine .f rfl (.aw 5 bu s48d rfl rfl rfl underlying28 (((s48d.ah 2 rfl)).sub (a:=(bJ (a8 (vs.take k)) x)) (b:=(a8 (vs.take k)).length) (by omega) (by omega)) (by simp only [sp,KV,PK,KP,KY,No] at*;omega) (by simp only [sp,KV,PK,KP,KY,No] at*;omega) λ v16 _ s49 _=> ?_)
   have S21:=s49.pk [0,1,2,3]
   refine ⟨S21,?_⟩
   refine .z 1 S21 rfl<| .bar rfl rfl rfl (OpE.aK lH s49 (i:=1) rfl rfl rfl ((s49.ah 5 rfl).ab) rfl λ _ s50 _=> ?_)
   have s50:=s50.nn
   have S22:=s50.pk [0,2,3]
   refine ⟨S22,?_⟩
   refine .fin<| .iF [0,1,2,3,4,5] [0,2,3,4,5] s50 rfl rfl 13 (pl [0,1,2,3,7,8,9,10] (.two 4 5 (pl [1005,1006,1011,12] (.bar 13 .fin)) (pl [1004,1006,1011,12] (.bar 13 .fin)))) mixed (by kernel_rfl) ?_
   have s51:=s50.drew
   have S23:=s51.pk [0,1,2,3,4,5]
   refine .ld 1 S23 1 rfl<| .z 1 S23 rfl<| .e rfl (λ _ s=> .aV (E:=aa .i64) (a:=0) (c:=(bJ (a8 (vs.take k)) x)) aQ rfl (s.ah 3 rfl) rfl ⟨_,rfl⟩ (by omega) (by omega)) S23<| .ld 1 S23 1 rfl<| .z 1 S23 rfl<| .e rfl (λ _ s=> .aV (E:=aa .i64) (a:=(bJ (a8 (vs.take k)) x)) (c:=(ar (vs.take k)).length) aQ rfl (s.ah 3 rfl) ⟨_,rfl⟩ rfl (by omega) (by omega)) S23 ?_
   have s52:=s51.aA 3 (aa .i64)
   refine .two rfl rfl rfl rfl rfl rfl (OpE.aw 6 aQ s52 rfl rfl rfl underlying22 (((s52.ah 3 rfl)).sub (a:=0) (b:=(bJ (a8 (vs.take k)) x)) (by omega) (by omega)) (by simp only [sp,KV,PK,KP,KY,No] at*;omega) (by simp only [sp,KV,PK,KP,KY,No] at*;omega) λ v17 _ s53 _=> ?_) (OpE.bU (aa .i64) 0 aQ rfl s51 rfl λ v18 _ s54 _=> ?_)
   ·skip
    have S24:=s53.pk [0,1,2,3,4,5]
    refine ⟨S24,?_⟩
    refine .f rfl (.bU (aa .i64) 0 aQ rfl s53 rfl λ v19 _ s55 _=> ?_)
    have S25:=s55.pk [0,1,2,3,4,5]
    refine ⟨S25,?_⟩
    refine .f rfl (.aw 6 aQ s55 rfl rfl rfl underlying22 (s55.ah 7 rfl) (by simp only [sp,KV,PK,KP,KY,No] at*;omega) (by simp only [sp,KV,PK,KP,KY,No] at*;omega) λ v20 _ s56 _=> ?_)
    have s56:=s56.pk [0,1,2,3,4,5,6]
    have S26:=s56.pk [0,1,2,3,4,5]
    refine ⟨S26,?_⟩
    refine .f rfl (.aw 6 aQ s56 rfl rfl rfl underlying22 (((s56.ah 3 rfl)).sub (a:=(bJ (a8 (vs.take k)) x)) (b:=(ar (vs.take k)).length) (by omega) (by omega)) (by simp only [sp,KV,PK,KP,KY,No] at*;omega) (by simp only [sp,KV,PK,KP,KY,No] at*;omega) λ v21 _ s57 _=> ?_)
    have s57d:Sat w [_,_,_,_,_,_,cL v21 3 (aa .i64) (((ar (vs.take k)).take (bJ (a8 (vs.take k)) x)).drop 0++[0]++((ar (vs.take k)).take ((ar (vs.take k)).length)).drop (bJ (a8 (vs.take k)) x))] _:=s57
    have S27:=s57d.pk [0,1,2,3,4,5]
    refine ⟨S27,?_⟩
    refine .z 1 S27 rfl<| .bar rfl rfl rfl (OpE.aK fR s57d (i:=1) rfl rfl rfl ((s57d.ah 6 rfl).ab) rfl λ _ s58 _=> ?_)
    have S28:=s58.pk [0,2,3,4,5]
    refine ⟨S28,?_⟩
    refine .fin<| .trim [0,2,5,7,8,9,20,21,22] rfl ?_
    have hws:((a8 (vs.take k)).take (bJ (a8 (vs.take k)) x)).drop 0++[x]++((a8 (vs.take k)).take ((a8 (vs.take k)).length)).drop (bJ (a8 (vs.take k)) x)=a8 (vs.take (k+1)):=by rw [aR hx,cy,addW,M2 c5,gM];simp
    have hcx:(((ar (vs.take k)).take (bJ (a8 (vs.take k)) x)).drop 0++[0]++((ar (vs.take k)).take ((ar (vs.take k)).length)).drop (bJ (a8 (vs.take k)) x))[bJ (a8 (vs.take k)) x]? =some 0:=pQ (by omega)
    have hcs:ar (vs.take (k+1))=(((ar (vs.take k)).take (bJ (a8 (vs.take k)) x)).drop 0++[0]++((ar (vs.take k)).take ((ar (vs.take k)).length)).drop (bJ (a8 (vs.take k)) x)).set (bJ (a8 (vs.take k)) x) (0+1):=by rw [aR hx,gN c5];exact (pR (by omega)).symm
    refine .region<| .ld 1 s58 1 rfl<| .ix 1 (s58.ah 6 rfl) rfl (hj:=AT.1 hcx|>.1) ?_
    refine .le 0 (s58.ah 6 rfl) hcx rfl<| .ix 1 (s58.ah 6 rfl) rfl (hj:=AT.1 hcx|>.1) ?_
    refine .f rfl (.cH (a:=(0+1)) 6 cQ s58 rfl rfl rfl rfl (AT.1 hcx|>.1) λ _ s59 _=> ?_)
    refine .nil<| .U rfl ?_
    have s60:=s59.aZ 5 rfl (show ((a8 (vs.take k)).take (bJ (a8 (vs.take k)) x)).drop 0++[x]++((a8 (vs.take k)).take ((a8 (vs.take k)).length)).drop (bJ (a8 (vs.take k)) x)=a8 (vs.take (k+1)) from hws)
    have s61:=s60.aZ 6 rfl (show (((ar (vs.take k)).take (bJ (a8 (vs.take k)) x)).drop 0++[0]++((ar (vs.take k)).take ((ar (vs.take k)).length)).drop (bJ (a8 (vs.take k)) x)).set (bJ (a8 (vs.take k)) x) (0+1)=ar (vs.take (k+1)) from hcs.symm)
    exact aT (k+1,v16,v21) ⟨s61.pk [0,1,5,6],by omega,by rw [hchk,cV hx,eu,M2 (by omega),M2 (by simpa using c4)]⟩
   have S29:=s54.pk [0,1,2,3,4,5]
   refine ⟨S29,?_⟩
   have s63:=s54.aA 3 (aa .i64)
   refine .f rfl (.aw 7 aQ s63 rfl rfl rfl underlying22 (((s63.ah 3 rfl)).sub (a:=0) (b:=(bJ (a8 (vs.take k)) x)) (by omega) (by omega)) (by simp only [sp,KV,PK,KP,KY,No] at*;omega) (by simp only [sp,KV,PK,KP,KY,No] at*;omega) λ v22 _ s64 _=> ?_)
   have S30:=s64.pk [0,1,2,3,4,5]
   refine ⟨S30,?_⟩
   refine .f rfl (.aw 7 aQ s64 rfl rfl rfl underlying22 (s64.ah 6 rfl) (by simp only [sp,KV,PK,KP,KY,No] at*;omega) (by simp only [sp,KV,PK,KP,KY,No] at*;omega) λ v23 _ s65 _=> ?_)
   have S31:=s65.pk [0,1,2,3,4,5]
   refine ⟨S31,?_⟩
   refine .f rfl (.aw 7 aQ s65 rfl rfl rfl underlying22 (((s65.ah 3 rfl)).sub (a:=(bJ (a8 (vs.take k)) x)) (b:=(ar (vs.take k)).length) (by omega) (by omega)) (by simp only [sp,KV,PK,KP,KY,No] at*;omega) (by simp only [sp,KV,PK,KP,KY,No] at*;omega) λ v24 _ s66 _=> ?_)
   have s66d:Sat w [_,_,_,_,_,_,_,cL v24 3 (aa .i64) (((ar (vs.take k)).take (bJ (a8 (vs.take k)) x)).drop 0++[0]++((ar (vs.take k)).take ((ar (vs.take k)).length)).drop (bJ (a8 (vs.take k)) x))] _:=s66
   have S32:=s66d.pk [0,1,2,3,4,5]
   refine ⟨S32,?_⟩
   refine .z 1 S32 rfl<| .bar rfl rfl rfl (OpE.aK fR s66d (i:=1) rfl rfl rfl ((s66d.ah 7 rfl).ab) rfl λ _ s67 _=> ?_)
   have S33:=s67.pk [0,2,3,4,5]
   refine ⟨S33,?_⟩
   refine .fin<| .trim [0,2,5,7,8,9,20,21,22] rfl ?_
   have hws:((a8 (vs.take k)).take (bJ (a8 (vs.take k)) x)).drop 0++[x]++((a8 (vs.take k)).take ((a8 (vs.take k)).length)).drop (bJ (a8 (vs.take k)) x)=a8 (vs.take (k+1)):=by rw [aR hx,cy,addW,M2 c5,gM];simp
   have hcx:(((ar (vs.take k)).take (bJ (a8 (vs.take k)) x)).drop 0++[0]++((ar (vs.take k)).take ((ar (vs.take k)).length)).drop (bJ (a8 (vs.take k)) x))[bJ (a8 (vs.take k)) x]? =some 0:=pQ (by omega)
   have hcs:ar (vs.take (k+1))=(((ar (vs.take k)).take (bJ (a8 (vs.take k)) x)).drop 0++[0]++((ar (vs.take k)).take ((ar (vs.take k)).length)).drop (bJ (a8 (vs.take k)) x)).set (bJ (a8 (vs.take k)) x) (0+1):=by rw [aR hx,gN c5];exact (pR (by omega)).symm
   refine .region<| .ld 1 s67 1 rfl<| .ix 1 (s67.ah 7 rfl) rfl (hj:=AT.1 hcx|>.1) ?_
   refine .le 0 (s67.ah 7 rfl) hcx rfl<| .ix 1 (s67.ah 7 rfl) rfl (hj:=AT.1 hcx|>.1) ?_
   refine .f rfl (.cH (a:=(0+1)) 7 cQ s67 rfl rfl rfl rfl (AT.1 hcx|>.1) λ _ s68 _=> ?_)
   have s68:=s68.nn
   refine .nil<| .U rfl ?_
   have s69:=s68.aZ 5 rfl (show ((a8 (vs.take k)).take (bJ (a8 (vs.take k)) x)).drop 0++[x]++((a8 (vs.take k)).take ((a8 (vs.take k)).length)).drop (bJ (a8 (vs.take k)) x)=a8 (vs.take (k+1)) from hws)
   have s70:=s69.aZ 7 rfl (show (((ar (vs.take k)).take (bJ (a8 (vs.take k)) x)).drop 0++[0]++((ar (vs.take k)).take ((ar (vs.take k)).length)).drop (bJ (a8 (vs.take k)) x)).set (bJ (a8 (vs.take k)) x) (0+1)=ar (vs.take (k+1)) from hcs.symm)
   exact aT (k+1,v16,v24) ⟨s70.pk [0,1,5,7],by omega,by rw [hchk,cV hx,eu,M2 (by omega),M2 (by simpa using c4)]⟩
  refine .skip ?_
  have hfd:=Qf.1 c5
  obtain ⟨c,hcx,hcs⟩:=nR hfd
  have hws:a8 (vs.take k)=a8 (vs.take (k+1)):=by rw [aR hx,cy,addW,PI hfd]
  have hcb:=mL hcx
  refine .region<| .ld 1 s16 1 rfl<| .ix 1 (s16.ah 3 rfl) rfl (hj:=AT.1 hcx|>.1) ?_
  refine .le 0 (s16.ah 3 rfl) hcx rfl<| .ix 1 (s16.ah 3 rfl) rfl (hj:=AT.1 hcx|>.1) ?_
  refine .f rfl (.cH (a:=(c+1)) 3 cQ s16 rfl rfl rfl rfl (AT.1 hcx|>.1) λ _ s72 _=> ?_)
  refine .nil<| .U rfl ?_
  have s73:=s72.aZ 2 rfl (show a8 (vs.take k)=a8 (vs.take (k+1)) from hws)
  have s74:=s73.aZ 3 rfl (show (ar (vs.take k)).set (bJ (a8 (vs.take k)) x) (c+1)=ar (vs.take (k+1)) from by rw [aR hx];exact hcs.symm)
  exact aT (k+1,vw,vc) ⟨s74.pk [0,1,2,3],by omega,by rw [hchk,cV hx,eu,M2 (by omega),M2 (by simpa using c4)]⟩
 refine .ao<| .seq<| .seq ?_
 have hkl:k=vs.length:=by omega
 have s76:=s10.aZ 2 rfl (show a8 (vs.take k)=a8 vs from by rw [hkl,PW])
 have s77:=s76.aZ 3 rfl (show ar (vs.take k)=ar vs from by rw [hkl,PW])
 rw [hkl,SO] at hchk
 have hwl:=bI vs
 have hlen:vs.length<=4096:=by omega
 refine .region<| .ld 1 s77 1 rfl<| .ln 0 (s77.ah 2 rfl) rfl<| .Z rfl<| .ae rfl (λ c6=> ?_) λ c6=> ?_
 ·refine .h<| .e rfl (.build yT rfl trivial rfl)<| .sa 0 s77 0 (vs:=[(.slice none 0 0),(.slice none 0 0)]) rfl (λ v h=>by simp only [PR,PU,Q9] at h;rcases h with rfl|rfl;exact rfl;exact rfl) λ _ s78 _=> ?_
  have s78:=s78.nn
  refine .Z rfl<| .ret ?_
  show aL _ _ _ _ _ _
  refine jW (vs:=[(.slice none 0 0),(.slice none 0 0)]) rfl rfl rfl rfl sB (λ j u hu=>s78.cell (i:=0) rfl hu) ?_
  have hq:dn vs=2:=by
   unfold dn
   have h9:eu vs=0:=hchk
   rw [M2 c1,M2 (by rw [h9];decide),PI (by omega)]
  rw [hq]
  exact .inl ⟨by decide,rfl,s78.pk []⟩
 refine .skip<| .Z rfl<| .seq<| .h<| .ln 1 (hv.ext s77.ext) rfl<| .Z rfl<| .block ?_
 have s80:=s77.aA 3 (aa .i64)
 have s81:=s80.aZ 4 rfl (show []=(vs.take 0).map (bJ (a8 vs)) from rfl)
 refine .lq [2,5,82,83] rfl (α:=Nat×Value) (λ (j,vn)=>[(10,vn),(84,(.int .i64 j))]) (λ (j,vn) w'=>Sat w (s81.U [(4,cL vn 3 (aa .i64) ((vs.take j).map (bJ (a8 vs))))]) w'/\(j<=vs.length)) (λ (j,vn)=>vs.length-j) (0,(.slice none 0 0)) ⟨s81,KD _⟩ ?_
 rintro ⟨j,vn⟩ w46 ⟨s82,hj⟩
 refine .Z rfl<| .seq<| .ae rfl (λ c7=> ?_) λ c7=> ?_
 ·refine .skip<| .seq<| .block<| .seq ?_
  obtain ⟨x,hx⟩:∃ x,(vs)[j]? =some x:=⟨_,py c7⟩
  refine .region<| .ix 0 (hv.ext s82.ext) rfl<| .le 0 (hv.ext s82.ext) hx rfl<| .Z rfl<| .h<| .lo 0 s82 1 rfl<| .cq 1 s82 (xg _ _ (a8 vs) x _ (s82.ah 2 rfl) ((s82.ah 3 rfl).ab) (by omega)) rfl λ _ s83=> .Z rfl<| .region<| .b 2 rfl (.bU (aa .i64) (bJ (a8 vs) x) aQ rfl s83 rfl λ v25 _ s84 _=> ?_)
  refine .ap 0 s84 4 (s84.ah 5 rfl) rfl (h1:=by simp only [sp,KV,PK,KP,KY,No] at*;omega) (h2:=by simp only [sp,KV,PK,KP,KY,No] at*;omega) λ v26 _ s85 _=> ?_
  refine .Z rfl<| .U rfl ?_
  have s86:=(s85.pk [0,1,2,3,4]).aZ 4 rfl (show (vs.take j).map (bJ (a8 vs))++[(bJ (a8 vs) x)]=(vs.take (j+1)).map (bJ (a8 vs)) from by rw [aR hx,Ql]<;>rfl)
  exact aT (j+1,v26) ⟨s86,by omega⟩
 refine .ao<| .h<| .lo 0 s82 1 rfl<| .sa 1 s82 0 (vs:=[vw,vc]) rfl (λ v h=>by simp only [PR,PU,Q9] at h;rcases h with rfl|rfl;exact (s82.ah 2 rfl).ab;exact (s82.ah 3 rfl).ab) λ _ s87 _=> ?_
 have s87:=s87.nn
 refine .Z rfl<| .ret ?_
 show aL _ _ _ _ _ _
 refine jW (vs:=[vw,vc]) rfl rfl rfl rfl sB (λ j u hu=>s87.cell (i:=0) rfl hu) ?_
 have s88:=s87.aZ 4 rfl (show (vs.take j).map (bJ (a8 vs))=vs.map (bJ (a8 vs)) from by rw [show j=vs.length by omega,PW])
 have hq:dn vs=0:=by
  unfold dn
  have h9:eu vs=0:=hchk
  rw [M2 c1,M2 (by rw [h9];decide),M2 (by omega)]
 exact .inr ⟨hq,_,_,_,rfl,s88.pk [2,3,4]⟩
theorem zB (a b:ByteArray) (w:World) (ha:a.size<=1000000):
  CallsV prog 199 [(.string a),(.string b)] w λ r w'=>r= .int .i64 ((bg a b:Nat):Int)/\Sat w [] w':=by
 refine cg func199 rfl λ hs0=> .Z rfl<| .Z rfl<| .seq<| .block<| .lq [0,1] rfl (α:=Nat) (λ k=>[(5,(.int .i64 k))]) (λ k w'=>Sat w [] w'/\(k<=a.size)/\(bg a b=k+eJ (a.data.toList.drop k) (b.data.toList.drop k))) (λ k=>a.size-k) 0 ⟨hs0,KD _,by rw [Ra,Ra,Qa]<;>rfl⟩ ?_
 rintro k w1 ⟨s1,hk,hcom⟩
 refine .seq<| .seq ?_
 rcases (show ¬ k<a.size\/(k<a.size/\¬ k<b.size)\/(k<a.size/\k<b.size) by omega) with hcw|hcw|hcw
 ·refine .dk [] s1 rfl (pl [0,1,2,3,4,5,6,7,8,9,10,11,12,13,14,15,16,17,18] .fin) λ s2 S1=> .z 2 S1 rfl<| .e rfl (λ _ s=> .bo underlying9 rfl) S1<| .z 2 S1 rfl<| .Gf 10 rfl (IN hcw)<| .Z S1 rfl<| .aj rfl (rfl)<| .ao<| .Z rfl<| .aC rfl rfl ?_
  have hq:bg a b=k:=xd (by rw [sJ];omega) hcom
  rw [hq]
  exact ⟨rfl,s2⟩
 ·refine .dk [] s1 rfl (pl [0,1,2,3,4,5,6,7,8,9,10,11,12,13,14,15,16,17,18] .fin) λ s3 S2=> .z 2 S2 rfl<| .e rfl (λ _ s=> .bo underlying9 rfl) S2<| .z 2 S2 rfl<| .Gt 10 rfl (PM hcw.1)<| .a 2 S2 rfl (λ _ s=> .bo underlying9 rfl)<| .z 3 S2 rfl<| .Gf 16 rfl (IN hcw.2)<| .Z S2 rfl<| .aj rfl (rfl)<| .ao<| .Z rfl<| .aC rfl rfl ?_
  have hq:bg a b=k:=xe (by rw [sJ];omega) hcom
  rw [hq]
  exact ⟨rfl,s3⟩
 obtain ⟨x,hx⟩:∃ x,a.data.toList[k]? =some x:=⟨_,py (by rw [sJ];omega)⟩
 obtain ⟨y,hy⟩:∃ y,b.data.toList[k]? =some y:=⟨_,py (by rw [sJ];omega)⟩
 refine .dk [] s1 rfl (pl [0,1,2,3,4,5,6,7,8,9,10,11,12,13,14,15,16,17,18] .fin) λ s4 S3=> .z 2 S3 rfl<| .e rfl (λ _ s=> .bo underlying9 rfl) S3<| .z 2 S3 rfl<| .Gt 10 rfl (PM hcw.1)<| .a 2 S3 rfl (λ _ s=> .bo underlying9 rfl)<| .z 3 S3 rfl<| .Gt 16 rfl (PM hcw.2)<| .a 2 S3 rfl (λ _ s=> .eW underlying9 rfl rfl hx)<| .a 2 S3 rfl (λ _ s=> .eW underlying9 rfl rfl hy)<| .Z S3 rfl<| .ae rfl (λ c1=> ?_) λ c1=> ?_
 ·refine .skip<| .block<| .U rfl ?_
  exact aT (k+1) ⟨s4,by omega,Ej hx hy hcom c1⟩
 refine .ao<| .Z rfl<| .aC rfl rfl ?_
 have hq:bg a b=k:=Ek hx hy hcom c1
 rw [hq]
 exact ⟨rfl,s4⟩
theorem Em {W:List ByteArray} {k:Nat} {p x:ByteArray} (hp:p=dY W k) (hk:k=0):0=bg p x:=by
 subst hk;subst hp
 simp [bg,dY,eJ]
theorem xh {vs:List ByteArray} (h:dn vs=0):∀ x∈a8 vs,x.size<=120:=λ x hx=>(vk (AS h) x (cB.1 hx)).1
theorem CE {vs:List ByteArray} (h:dn vs=0):∀ c∈ar vs,1<=c/\c<=4096:=λ c hc=>by
 obtain ⟨i,hi⟩:=Qh hc
 have:=mL hi
 have:=Ei h
 exact ⟨lI hi,by omega⟩
theorem xi {vs:List ByteArray} (h:dn vs=0):(a8 vs).length<=1024:=by
 unfold dn at h
 split at h
 ·cases h
 split at h
 ·rename_i h1 h2;exact absurd h h2
 split at h
 ·cases h
 omega
theorem xj (vw vc:Value) (W:List ByteArray) (C:List Nat) (w:World) (hv:RdL w vw ax W) (hvc:RdL w vc (aa .i64) C) (hCl:C.length=W.length) (hsz:∀ x∈W,x.size<=120) (hC:∀ c∈C,1<=c/\c<=4096) (hn:W.length<=1024):
  CallsV prog 143 [(.agg #[vw,vc])] w λ r w'=>Sat w [cL r 5 (aa .u8) (aM (cS W C W.length))] w':=by
 refine cg func143 rfl λ hs0=> .h<| .bx 0 hs0 rfl λ b1 _ s1 _ _=> .Z rfl<| .h<| .ld 1 s1 0 rfl<| .ln 0 (hv.ext s1.ext) rfl<| .c 1 (cT (W.length) _ (by omega)) rfl λ r1 _ h_1=> ?_
 have s2:=s1.az h_1
 refine .Z rfl<| .Z rfl<| .seq<| .seq ?_
 have s3:=s2.aZ 1 rfl (show uv (W.length)=cS W C 0 from rfl)
 refine .region<| .ld 1 s3 0 rfl<| .ln 0 (hv.ext s3.ext) rfl<| .Z rfl<| .block<| .lq [1,14,15] rfl (α:=Nat×ByteArray×Value) (λ (k,p,v)=>[(3,v),(4,(.string p)),(16,(.int .i64 k))]) (λ (k,p,v) w'=>Sat w (s3.U [(1,cL v 5 (aa .u8) (cS W C k))]) w'/\(k<=W.length)/\(p=dY W k)/\(p.size<=120)) (λ (k,p,v)=>W.length-k) (0,(ByteArray.mk #[]),r1) ⟨s3,KD _,rfl,KD _⟩ ?_
 rintro ⟨k,p,v⟩ w3 ⟨s4,hk,hp,hpl⟩
 refine .Z rfl<| .seq<| .ae rfl (λ c1=> ?_) λ c1=> ?_
 ·refine .skip<| .seq<| .block<| .seq ?_
  obtain ⟨x,hx⟩:∃ x,(W)[k]? =some x:=⟨_,py c1⟩
  obtain ⟨c,hcc⟩:∃ c,C[k]? =some c:=⟨_,py (by omega)⟩
  have hxs:=hsz x (PO hx)
  have hcb:=hC c (PO hcc)
  have hcm:=uQ p x
  have hel:=dG C hsz k (by omega)
  have hu1:=aD (bg p x)
  have hu2:=aD (x.size-bg p x)
  have hu3:=aD (c-1)
  refine .region<| .ix 1 (hv.ext s4.ext) rfl<| .le 0 (hv.ext s4.ext) hx rfl<| .Z rfl<| .Z rfl<| .seq<| .Z rfl<| .ae rfl (λ c2=> ?_) λ c2=> ?_
  ·refine .region<| .cq 2 s4 (zB p x _ (by omega)) rfl λ _ s5=> .Z rfl<| .h<| .c 3 (cT ((bg p x)) _ (by omega)) rfl λ r3 _ h3=> ?_
   have s6:=s5.az h3
   refine .ap 0 s6 1 (s6.ah 2 rfl) rfl (h1:=by (try simp only [sp,ay,PQ]);omega) (h2:=by (try simp only [sp,ay,PQ]);omega) λ v1 _ s7 _=> .a 1 rfl (.bo underlying9 rfl)<| .c 3 (cT ((x.size-(bg p x))) _ (by omega)) rfl λ r4 _ h4=> ?_
   have s8:=s7.az h4
   refine .ap 0 s8 1 (s8.ah 3 rfl) rfl (h1:=by (try simp only [sp,ay,PQ]);omega) (h2:=by (try simp only [sp,ay,PQ]);omega) λ v2 _ s9 _=> .Z rfl<| .seq ?_
   have hshp1:=(s9.ah (E:=aa .u8) 1 rfl).iH (by decide)
   refine .dk [0,2,3] s9 rfl (pl [0,1,2,3,5,6,7,8,9,10,11,1004,1012,1013,14] .fin) λ s10 S1=> .z 3 S1 rfl<| .e rfl (λ _ s=> .fI (l:=(bg p x)) (h:=x.size) underlying9 rfl ⟨_,rfl⟩ rfl (by omega) (by omega)) S1<| .ld 1 S1 0 rfl<| .ix 1 S1 (hvc.ext ·.ext) rfl<| .le 0 S1 (hvc.ext ·.ext) hcc rfl<| .z 2 S1 rfl<| .f rfl (.gu 1 ch s10 rfl rfl rfl (oq underlying9 _) (by (try simp only [sp,ay,PQ]);omega) (by (try simp only [sp,ay,PQ]);omega) λ v3 _ s11 _=> ?_)
   have s11d:Sat w [_,cL v3 5 (aa .u8) (cS W C k++uv ((bg p x))++uv ((x.size-(bg p x)))++bF (x.extract (bg p x) x.size)),_,_] _:=s11
   have S2:=s11d.pk [0,2,3]
   refine ⟨S2,?_⟩
   refine .c 0 S2 (cT ((c-1)) _ (by omega)) rfl λ r5 _ h5=> ?_
   have s12:=(s11d.az h5).nn
   have S3:=s12.pk [0,2,3]
   refine ⟨S3,?_⟩
   refine .f rfl (.aw 1 ch s12 rfl rfl rfl underlying45 (s12.ah 4 rfl) (by (try simp only [sp,ay,PQ]);omega) (by (try simp only [sp,ay,PQ]);omega) λ v_4 _ s13 _=> ?_)
   have S4:=s13.pk [0,2,3]
   refine ⟨S4,?_⟩
   refine .Z S4 rfl<| .trim [1,3,4,5,6,7,14,15,16] rfl<| .U rfl<| .U rfl ?_
   have s14:=s13.aZ 1 rfl (show cS W C k++uv ((bg p x))++uv ((x.size-(bg p x)))++bF (x.extract (bg p x) x.size)++uv ((c-1))=cS W C (k+1) from oa hx hcc hp)
   exact aT (k+1,x,v_4) ⟨s14.pk [0,1],by omega,(du hx).symm,hxs⟩
  refine .skip<| .seq<| .weaken [(1,_),(3,_),(4,_),(5,_),(6,_),(7,(.int .i64 (bg p x))),(14,_),(15,_),(16,_),(18,_),(19,_),(20,_),(21,_)] ⟨rfl,rfl,rfl,rfl,rfl,If some (If (λ q:Nat=>Value.int .i64 (q:Int)) (Em hp (by omega))),rfl,rfl,rfl,rfl,rfl,rfl,rfl,trivial⟩<| .region<| .c 3 (cT ((bg p x)) _ (by omega)) rfl λ r6 _ h6=> ?_
  have s16:=(s4.az h6).nn
  refine .ap 0 s16 1 (s16.ah 2 rfl) rfl (h1:=by (try simp only [sp,ay,PQ]);omega) (h2:=by (try simp only [sp,ay,PQ]);omega) λ v5 _ s17 _=> .a 1 rfl (.bo underlying9 rfl)<| .c 3 (cT ((x.size-(bg p x))) _ (by omega)) rfl λ r7 _ h7=> ?_
  have s18:=s17.az h7
  refine .ap 0 s18 1 (s18.ah 3 rfl) rfl (h1:=by (try simp only [sp,ay,PQ]);omega) (h2:=by (try simp only [sp,ay,PQ]);omega) λ v6 _ s19 _=> ?_
  have s19d:Sat w [_,cL v6 5 (aa .u8) (cS W C k++uv ((bg p x))++uv ((x.size-(bg p x)))),_,cL r7 5 (aa .u8) (uv ((x.size-(bg p x))))] _:=s19
  refine .Z rfl<| .seq ?_
  have hshp2:=(s19d.ah (E:=aa .u8) 1 rfl).iH (by decide)
  refine .dk [0,2,3] s19d rfl (pl [0,1,2,3,5,6,7,8,9,10,11,1004,1012,1013,14] .fin) λ s20 S5=> .z 3 S5 rfl<| .e rfl (λ _ s=> .fI (l:=(bg p x)) (h:=x.size) underlying9 rfl ⟨_,rfl⟩ rfl (by omega) (by omega)) S5<| .ld 1 S5 0 rfl<| .ix 1 S5 (hvc.ext ·.ext) rfl<| .le 0 S5 (hvc.ext ·.ext) hcc rfl<| .z 2 S5 rfl<| .f rfl (.gu 1 ch s20 rfl rfl rfl (oq underlying9 _) (by (try simp only [sp,ay,PQ]);omega) (by (try simp only [sp,ay,PQ]);omega) λ v7 _ s21 _=> ?_)
  have S6:=s21.pk [0,2,3]
  refine ⟨S6,?_⟩
  refine .c 0 S6 (cT ((c-1)) _ (by omega)) rfl λ r8 _ h8=> ?_
  have s22:=s21.az h8
  have S7:=s22.pk [0,2,3]
  refine ⟨S7,?_⟩
  refine .f rfl (.aw 1 ch s22 rfl rfl rfl underlying45 (s22.ah 4 rfl) (by (try simp only [sp,ay,PQ]);omega) (by (try simp only [sp,ay,PQ]);omega) λ v8 _ s23 _=> ?_)
  have S8:=s23.pk [0,2,3]
  refine ⟨S8,?_⟩
  refine .Z S8 rfl<| .U rfl<| .U rfl ?_
  have s24:=s23.aZ 1 rfl (show cS W C k++uv ((bg p x))++uv ((x.size-(bg p x)))++bF (x.extract (bg p x) x.size)++uv ((c-1))=cS W C (k+1) from oa hx hcc hp)
  exact aT (k+1,x,v8) ⟨s24.pk [0,1],by omega,(du hx).symm,hxs⟩
 refine .ao<| .seq ?_
 have s26:=s4.aZ 1 rfl (show cS W C k=cS W C W.length from by rw [show k=W.length by omega])
 have hel:=dG C hsz W.length (KB _)
 refine .region<| .c 1 (jQ _ (cS W C W.length) _ (s26.ah 1 rfl) (fS W C _) (by omega)) rfl λ r9 _ h9=> ?_
 have s27:=(s26.az h9).nn
 refine .Z rfl<| .aC rfl rfl ?_
 exact s27.pk [2]
end Go.Proofs.YthffkcnbdehceaaGreat
