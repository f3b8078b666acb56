/-The walks of the functions of F16,printed by our own program (kwgen.py) out of our descriptions (base.py). -/
import Derived.Test.YthffkcnbdehceaaGreatF15
open List
open Go.Proofs.Tryz
set_option linter.unusedVariables false
set_option linter.unusedSimpArgs false
set_option linter.unusedSectionVars false
namespace Go.Proofs.YthffkcnbdehceaaGreat
open Go.RowKit Go.Kw
set_option maxRecDepth 100000
theorem DI (v:Value) (l:List Nat) (w:World) (hv:RdL w v (a8 .i64) l) (hn:l.length<=4096) (hb:∀ x∈l,x<1024):
  CallsV prog 126 [v] w λ r w'=>∃ g lv bv ps,r= .pointer (some ⟨g,0,none⟩)/\bB ps=mj l (dE l.length)/\Sat w [aj g 245 [(.int .i64 l.length),(.int .i64 (0:Nat)),lv,bv,(.int .i64 (0:Nat)),(.slice none 0 0)],cL lv 3 (a8 .i64) ([]),cL bv 248 (cO) (ps),cz (ps),cL (Value.slice none 0 0) 3 (a8 .i64) ([])] w':=by
 refine cc func126 rfl λ hs0=> .Z rfl<| .h<| .ln 1 (hv.ext hs0.ext) rfl<| .e rfl (.build D5 rfl ⟨rfl,rfl,trivial⟩ rfl)<| .bx 0 hs0 rfl λ b1 _ s1 _ _=> .Z rfl<| .seq<| .seq ?_
 have s2:=s1.aH 3 (a8 .i64)
 have s3:Sat w [_,_,cL (Value.slice none 0 0) 248 (cO) ([])] _:=s2.aH 248 cO
 have s4:Sat w [aj b1 245 [(.int .i64 l.length),(.int .i64 (0:Nat)),(.slice none 0 0),(.slice none 0 0),(.int .i64 (0:Nat)),(.slice none 0 0)],cL (Value.slice none 0 0) 3 (a8 .i64) ([]),cL (Value.slice none 0 0) 248 (cO) ([]),cz ([])] _:=s3.Ag
 have s5:=s4.aH 3 (a8 .i64)
 refine .U rfl<| .block<| .lq [0,3] rfl (α:=Nat×Value×List Pt) (λ (k,bv,ps)=>[(4,(.int .i64 ((64*k):Nat)))]) (λ (k,bv,ps) w'=>Sat w (s5.U [(0,aj b1 245 [(.int .i64 l.length),(.int .i64 (0:Nat)),(.slice none 0 0),bv,(.int .i64 (0:Nat)),(.slice none 0 0)]),(2,cL bv 248 (cO) (ps)),(3,cz (ps))]) w'/\(64*k<=l.length+63)/\(bB ps=mj l k)) (λ (k,bv,ps)=>l.length+64-64*k) (0,(.slice none 0 0),[]) ⟨s5,by omega,rfl⟩ ?_
 rintro ⟨k,bv,ps⟩ w2 ⟨s6,hk,hps⟩
 have hpl:ps.length=k:=by rw [<-dR,hps];simp [mj]
 refine .seq<| .h<| .ln 2 (hv.ext s6.ext) rfl<| .Z rfl<| .ab rfl (λ c1=> ?_) λ c1=> ?_
 ·refine .skip<| .seq<| .block<| .h<| .ln 5 (hv.ext s6.ext) rfl<| .e rfl (.Nn rfl rfl)<| .e rfl (.bk (E:=a8 .i64) (a:=(64*k)) (c:=(min ((64*k)+64) l.length)) bj rfl (hv.ext s6.ext) ⟨_,rfl⟩ ⟨_,rfl⟩ (by omega) (by omega))<| .c 0 (BY _ (((l).take (min ((64*k)+64) l.length)).drop (64*k)) _ (((hv.ext s6.ext)).sub (a:=(64*k)) (b:=(min ((64*k)+64) l.length)) (by omega) (by omega)) (by rw [pG,cr];omega) (λ x hx=>by rw [pG] at hx;have:=hb x (kS hx);omega)) rfl λ r1 _ h_1=> ?_
  obtain ⟨pv1,rfl,p1⟩:=h_1
  have s7:=s6.aD p1
  obtain ⟨sv1,hsv1,hsv1n⟩:=(s7.ah 5 rfl).sv
  subst hsv1
  refine .Z rfl<| .region<| .ld 4 s7 0 rfl<| .a 1 rfl (.build Lz rfl ⟨rfl,trivial⟩ rfl)<| .f rfl (.cD (cO) (⟨sv1,0,bS (((l).take (min ((64*k)+64) l.length)).drop (64*k))⟩:Pt) HQ (by decide) (by decide) s7 rfl λ v1 _ s8 _=> ?_)
  have s8:=s8.nn
  refine .ap 0 s8 2 (s8.ah 6 rfl) rfl λ v2 _ s9 _=> ?_
  have s9:=s9.pk [0,1,2,3,4,5]
  refine .st 2 s9 0 rfl (h1:=(s9.ah 2 rfl).a7) λ w6 s10 _=> .nil<| .U rfl ?_
  have s11:Sat w [aj b1 245 [(.int .i64 l.length),(.int .i64 (0:Nat)),(.slice none 0 0),v2,(.int .i64 (0:Nat)),(.slice none 0 0)],cL (Value.slice none 0 0) 3 (a8 .i64) ([]),cL v2 248 (cO) (ps++[(⟨sv1,0,bS (((l).take (min ((64*k)+64) l.length)).drop (64*k))⟩:Pt)]),cz (ps++[(⟨sv1,0,bS (((l).take (min ((64*k)+64) l.length)).drop (64*k))⟩:Pt)]),cL (Value.slice none 0 0) 3 (a8 .i64) ([])] w6:=Sat.wF (A:=[aj b1 245 [(.int .i64 l.length),(.int .i64 (0:Nat)),(.slice none 0 0),v2,(.int .i64 (0:Nat)),(.slice none 0 0)],cL (Value.slice none 0 0) 3 (a8 .i64) ([]),cL v2 248 (cO) (ps++[(⟨sv1,0,bS (((l).take (min ((64*k)+64) l.length)).drop (64*k))⟩:Pt)]),cz (ps),cL (Value.slice none 0 0) 3 (a8 .i64) ([])]) s10 3 rfl
  exact bc (k+1,v2,ps++[(⟨sv1,0,bS (((l).take (min ((64*k)+64) l.length)).drop (64*k))⟩:Pt)]) ⟨s11,by omega,by rw [u4,hps,H3,<-pG]⟩
 refine .ao<| .Z rfl<| .aC rfl rfl ?_
 have hkn:k=dE l.length:=by unfold dE;omega
 exact ⟨_,_,_,ps,rfl,by rw [hps,hkn],s6.pk [0,1,2,3,4]⟩
theorem F9 (v:Value) (l:List Nat) (w:World) (hv:RdL w v (a8 .i64) l) (hn:l.length<=4096) (hb:∀ x∈l,x<1024):
  CallsV prog 127 [v] w λ r w'=>∃ g lv bv ps,r= .pointer (some ⟨g,0,none⟩)/\bB ps=k9 l (dE l.length)/\Sat w [aj g 245 [(.int .i64 l.length),(.int .i64 (1:Nat)),lv,bv,(.int .i64 (0:Nat)),(.slice none 0 0)],cL lv 3 (a8 .i64) (bh l),cL bv 248 (cO) (ps),cz (ps),cL (Value.slice none 0 0) 3 (a8 .i64) ([])] w':=by
 refine cc func127 rfl λ hs0=> .Z rfl<| .Z rfl<| .seq<| .h<| .ln 1 (hv.ext hs0.ext) rfl<| .Z rfl<| .block<| .lq [0,14,15] rfl (α:=Nat×Nat) (λ (k,m)=>[(3,(.int .i64 m)),(16,(.int .i64 k))]) (λ (k,m) w'=>Sat w [] w'/\(k<=l.length)/\(m=uF (l.take k))/\(m<=1024)) (λ (k,m)=>l.length-k) (0,0) ⟨hs0,Nat.zero_le _,rfl,Nat.zero_le _⟩ ?_
 rintro ⟨k,m⟩ w1 ⟨s1,hk,hm,hmb⟩
 refine .Z rfl<| .seq<| .ab rfl (λ c1=> ?_) λ c1=> ?_
 ·refine .skip<| .seq<| .block<| .seq ?_
  obtain ⟨x,hx⟩:∃ x,(l)[k]? =some x:=⟨_,getElem?_eq_getElem c1⟩
  refine .region<| .ix 0 (hv.ext s1.ext) rfl<| .le 0 (hv.ext s1.ext) hx rfl<| .Z rfl ?_
  have hxb:=hb x (aa hx)
  refine .region<| .a 3 rfl (.OK rfl rfl)<| .Z rfl<| .U rfl ?_
  exact bc (k+1,(max m (x+1))) ⟨s1,by omega,by rw [au hx,H4,hm],by have:=hb x (aa hx);omega⟩
 refine .ao<| .seq ?_
 have hmm:m=uF l:=by rw [hm,show k=l.length by omega,take_length]
 have hmx:uF l<=1024:=H5 hb
 refine .region<| .b 1 rfl (.ee (a8 .i64) (0) bj rfl s1 rfl rfl (by omega) (by omega) (by omega) λ v1 _ s2 _=> ?_)
 refine .Z rfl<| .seq<| .h<| .ln 1 (hv.ext s2.ext) rfl<| .Z rfl<| .block<| .lq [0,6,27,28] rfl (α:=Nat×List Nat) (λ (k,cur)=>[(29,(.int .i64 k))]) (λ (k,cur) w'=>Sat w [cL v1 3 (a8 .i64) (cur)] w'/\(k<=l.length)/\(cur=ml (uF l) (l.take k))/\(cur.length=uF l)/\(∀ x∈cur,x<=k)) (λ (k,cur)=>l.length-k) (0,List.replicate (m) 0) ⟨s2,Nat.zero_le _,by rw [hmm]<;>rfl,by rw [hmm];simp,λ x hx=>by have:=eq_of_mem_replicate hx;omega⟩ ?_
 rintro ⟨k,cur⟩ w3 ⟨s3,hk,hcur,hcl,hcb⟩
 refine .Z rfl<| .seq<| .ab rfl (λ c2=> ?_) λ c2=> ?_
 ·refine .skip<| .seq<| .block<| .seq ?_
  obtain ⟨x,hx⟩:∃ x,(l)[k]? =some x:=⟨_,getElem?_eq_getElem c2⟩
  refine .region<| .ix 0 (hv.ext s3.ext) rfl<| .le 0 (hv.ext s3.ext) hx rfl<| .Z rfl ?_
  have hxm:x<cur.length:=by rw [hcl];exact BC l x (aa hx)
  obtain ⟨y,hy⟩:∃ y,(cur)[x]? =some y:=⟨_,getElem?_eq_getElem (hxm)⟩
  have hyk:=hcb y (aa hy)
  refine .region<| .ix 2 (s3.ah 0 rfl) rfl<| .le 0 (s3.ah 0 rfl) hy rfl<| .ix 1 (s3.ah 0 rfl) rfl<| .f rfl (.dS (a:=(y+1)) 0 dj s3 rfl rfl rfl rfl (by (try simp only [length_set]);omega) λ _ s4 _=> ?_)
  refine .nil<| .U rfl ?_
  exact bc (k+1,cur.set x (y+1)) ⟨s4,by omega,by rw [au hx,EA,<-hcur,dC,getD_some hy],by simp only [length_set];exact hcl,λ z hz=>by
    rcases mem_or_eq_of_mem_set hz with hz|rfl
    ·have:=hcb z hz;omega
    ·omega⟩
 refine .ao<| .seq ?_
 have s5:=s3.cF 0 rfl (show cur=ml (uF l) l from by rw [hcur,show k=l.length by omega,take_length])
 refine .region<| .ln 1 (hv.ext s5.ext) rfl<| .e rfl (.build D5 rfl ⟨rfl,rfl,trivial⟩ rfl)<| .bx 0 s5 rfl λ b1 _ s6 _ _=> ?_
 have s6:=s6.nn
 refine .Z rfl<| .h<| .c 2 (AJ _ (ml (uF l) l) _ (s6.ah 0 rfl) (by rw [gY];exact hmx) (λ x hx=>by have:=JV (uF l) l x hx;omega)) rfl λ r1 _ h_1=> ?_
 obtain ⟨lv1,rfl,p1⟩:=h_1
 have s7:=s6.aD p1
 refine .st 5 s7 1 rfl (h1:=(s7.ah 2 rfl).a7) λ _ s8 _=> .nil<| .seq<| .seq ?_
 have s10:=(s8.pk [1,2]).cF 1 rfl (show cW (ml (uF l) l)=bh l from rfl)
 have s11:Sat w [aj b1 245 [(.int .i64 l.length),(.int .i64 (1:Nat)),lv1,(.slice none 0 0),(.int .i64 (0:Nat)),(.slice none 0 0)],cL lv1 3 (a8 .i64) (bh l),cL (Value.slice none 0 0) 248 (cO) ([])] _:=s10.aH 248 cO
 have s12:Sat w [aj b1 245 [(.int .i64 l.length),(.int .i64 (1:Nat)),lv1,(.slice none 0 0),(.int .i64 (0:Nat)),(.slice none 0 0)],cL lv1 3 (a8 .i64) (bh l),cL (Value.slice none 0 0) 248 (cO) ([]),cz ([])] _:=s11.Ag
 have s13:=s12.aH 3 (a8 .i64)
 refine .U rfl<| .block<| .lq [0,9] rfl (α:=Nat×Value×List Pt) (λ (k,bv,ps)=>[(10,(.int .i64 ((64*k):Nat)))]) (λ (k,bv,ps) w'=>Sat w (s13.U [(0,aj b1 245 [(.int .i64 l.length),(.int .i64 (1:Nat)),lv1,bv,(.int .i64 (0:Nat)),(.slice none 0 0)]),(2,cL bv 248 (cO) (ps)),(3,cz (ps))]) w'/\(64*k<=l.length+63)/\(bB ps=k9 l k)) (λ (k,bv,ps)=>l.length+64-64*k) (0,(.slice none 0 0),[]) ⟨s13,by omega,rfl⟩ ?_
 rintro ⟨k,bv,ps⟩ w8 ⟨s14,hk,hps⟩
 have hpl:ps.length=k:=by rw [<-dR,hps];simp [k9]
 refine .seq<| .h<| .ln 2 (hv.ext s14.ext) rfl<| .Z rfl<| .ab rfl (λ c3=> ?_) λ c3=> ?_
 ·refine .skip<| .seq<| .block<| .seq<| .dk [0,1,2,3,4] s14 rfl (pl [0,1,2,3,4,5,6,7,8,9,10,11,1012,13,14,15,16,17,18,19] .fin) λ s15 S1=> .ld 3 S1 0 rfl<| .ln 5 S1 (hv.ext ·.ext) rfl<| .e rfl (λ _ s=> .Nn rfl rfl) S1<| .e rfl (λ _ s=> .bk (E:=a8 .i64) (a:=(64*k)) (c:=(min ((64*k)+64) l.length)) bj rfl (hv.ext s.ext) ⟨_,rfl⟩ ⟨_,rfl⟩ (by omega) (by omega)) S1<| .c 0 S1 (AK _ _ (bh l) (((l).take (min ((64*k)+64) l.length)).drop (64*k)) _ (s15.ah 1 rfl) (((hv.ext s15.ext)).sub (a:=(64*k)) (b:=(min ((64*k)+64) l.length)) (by omega) (by omega)) (by rw [eB];exact hmx) (iK (gZ l hmx)) (by rw [pG,cr];omega) (λ x hx=>u5 hmx x (by rw [pG] at hx;exact kS hx))) rfl λ r2 _ h2=> ?_
  obtain ⟨hv1,rfl,p2⟩:=h2
  have s16:=s15.aD p2
  obtain ⟨sv1,hsv1,hsv1n⟩:=(s16.ah 5 rfl).sv
  subst hsv1
  have S2:=s16.pk [0,1,2,3,4]
  refine ⟨S2,?_⟩
  refine .Z S2 rfl<| .region<| .ld 4 s16 0 rfl<| .a 2 rfl (.build Lz rfl ⟨rfl,rfl,trivial⟩ rfl)<| .f rfl (.cD (cO) (⟨sv1,(cy (bh l) (((l).take (min ((64*k)+64) l.length)).drop (64*k))).length,aJ (cy (bh l) (((l).take (min ((64*k)+64) l.length)).drop (64*k)))⟩:Pt) HQ (by decide) (by decide) s16 rfl λ v2 _ s17 _=> ?_)
  have s17:=s17.nn
  refine .ap 0 s17 2 (s17.ah 6 rfl) rfl λ v3 _ s18 _=> ?_
  have s18:=s18.pk [0,1,2,3,4,5]
  refine .st 2 s18 0 rfl (h1:=(s18.ah 2 rfl).a7) λ w12 s19 _=> .nil<| .U rfl ?_
  have s20:Sat w [aj b1 245 [(.int .i64 l.length),(.int .i64 (1:Nat)),lv1,v3,(.int .i64 (0:Nat)),(.slice none 0 0)],cL lv1 3 (a8 .i64) (bh l),cL v3 248 (cO) (ps++[(⟨sv1,(cy (bh l) (((l).take (min ((64*k)+64) l.length)).drop (64*k))).length,aJ (cy (bh l) (((l).take (min ((64*k)+64) l.length)).drop (64*k)))⟩:Pt)]),cz (ps++[(⟨sv1,(cy (bh l) (((l).take (min ((64*k)+64) l.length)).drop (64*k))).length,aJ (cy (bh l) (((l).take (min ((64*k)+64) l.length)).drop (64*k)))⟩:Pt)]),cL (Value.slice none 0 0) 3 (a8 .i64) ([])] w12:=Sat.wF (A:=[aj b1 245 [(.int .i64 l.length),(.int .i64 (1:Nat)),lv1,v3,(.int .i64 (0:Nat)),(.slice none 0 0)],cL lv1 3 (a8 .i64) (bh l),cL v3 248 (cO) (ps++[(⟨sv1,(cy (bh l) (((l).take (min ((64*k)+64) l.length)).drop (64*k))).length,aJ (cy (bh l) (((l).take (min ((64*k)+64) l.length)).drop (64*k)))⟩:Pt)]),cz (ps),cL (Value.slice none 0 0) 3 (a8 .i64) ([])]) s19 3 rfl
  exact bc (k+1,v3,ps++[(⟨sv1,(cy (bh l) (((l).take (min ((64*k)+64) l.length)).drop (64*k))).length,aJ (cy (bh l) (((l).take (min ((64*k)+64) l.length)).drop (64*k)))⟩:Pt)]) ⟨s20,by omega,by rw [u4,hps,H7,<-pG]⟩
 refine .ao<| .Z rfl<| .aC rfl rfl ?_
 have hkn:k=dE l.length:=by unfold dE;omega
 exact ⟨_,_,_,ps,rfl,by rw [hps,hkn],s14.pk [0,1,2,3,4]⟩
theorem lu (g n kind:Nat) (lv bv:Value) (lens:List Nat) (ps:List Pt) (w:World) (h0:w.cell? ⟨g,0,none⟩=some (.int .i64 (n:Int))) (h1:w.cell? ⟨g,1,none⟩=some (.int .i64 (kind:Int))) (h2:w.cell? ⟨g,2,none⟩=some lv) (h3:w.cell? ⟨g,3,none⟩=some bv) (hl:RdL w lv (a8 .i64) lens) (hb:RdL w bv cO ps) (hall:∀ p∈ps,RdL w p.sv.val (a8 .u8) p.bys) (hn:n<=4096) (hk:kind<=1) (hll:lens.length<=1024) (hpl:ps.length<=100) (hpb:∀ p∈ps,p.bys.length<=20000/\p.bits<=1000000):
  CallsV prog 128 [(.pointer (some ⟨g,0,none⟩))] w λ r w'=>Sat w [cL r 5 (a8 .u8) (jy n kind lens (bB ps))] w':=by
 refine cc func128 rfl λ hs0=> .Z rfl<| .seq ?_
 have hu1:=aN n
 have hu2:=aN kind
 have hu3:=aN lens.length
 have hhd:=mm n kind lens
 refine .region<| .a 3 rfl (.load fN rfl (hs0.ext _ _ h0))<| .c 1 (cS (Value.slice none 0 0) ([]) (n) _ (RdL.nil _ _) (by simp) (by omega)) rfl λ r1 _ h_1=> ?_
 have s1:=hs0.aD h_1
 refine .Z rfl<| .h<| .a 4 rfl (.load fN rfl (s1.ext _ _ h1))<| .c 1 (cS r1 (uv (n)) (kind) _ (s1.ah 0 rfl) (by omega) (by omega)) rfl λ r2 _ h_2=> ?_
 have s2:=s1.aD h_2
 refine .Z rfl<| .jn [0] rfl (λ K L' w'=>∃ (ov:Value),Weak ([(3,ov)]++K) L'/\Sat w [cL ov 5 (a8 .u8) (u7 n kind lens)] w') ?_ ?_
 ·refine .h<| .a 3 rfl (.load fN rfl (s2.ext _ _ h1))<| .Z rfl<| .ab rfl (λ c1=> ?_) λ c1=> ?_
  ·refine .h<| .a 4 rfl (.load fI rfl (s2.ext _ _ h2))<| .ln 0 (hl.ext s2.ext) rfl<| .c 1 (cS r2 (uv (n)++uv (kind)) (lens.length) _ (s2.ah 1 rfl) (by simp only [length_append];omega) (by omega)) rfl λ r3 _ h_3=> ?_
   have s3:=(s2.aD h_3).nn
   refine .Z rfl<| .h<| .a 3 rfl (.load fI rfl (s3.ext _ _ h2))<| .ln 0 (hl.ext s3.ext) rfl<| .Z rfl<| .block ?_
   have s5:=(s3.pk [2]).cF 0 rfl (show uv (n)++uv (kind)++uv (lens.length)=uv n++uv kind++uv lens.length++(lens.take (0)).map (· %2^8) from by simp)
   refine .lq [0,37,38] rfl (α:=Nat×Value) (λ (k,ov)=>[(3,ov),(39,(.int .i64 k))]) (λ (k,ov) w'=>Sat w [cL ov 5 (a8 .u8) (uv n++uv kind++uv lens.length++(lens.take (k)).map (· %2^8))] w'/\(k<=lens.length)) (λ (k,ov)=>lens.length-k) (0,r3) ⟨s5,Nat.zero_le _⟩ ?_
   rintro ⟨k,ov⟩ w4 ⟨s6,hkl⟩
   refine .Z rfl<| .seq<| .ab rfl (λ c2=> ?_) λ c2=> ?_
   ·refine .skip<| .seq<| .block<| .seq ?_
    obtain ⟨x,hx⟩:∃ x,(lens)[k]? =some x:=⟨_,getElem?_eq_getElem c2⟩
    refine .region<| .ix 0 (hl.ext s6.ext) rfl<| .le 0 (hl.ext s6.ext) hx rfl<| .Z rfl<| .region<| .a 2 rfl (.qA (by rw [underlying3]<;>rfl) underlying5 rfl rfl)<| .f rfl (.cM (a8 .u8) (x%2^8) cg rfl s6 rfl λ v1 _ s7 _=> ?_)
    refine .ap 0 s7 0 (s7.ah 1 rfl) rfl (h1:=by simp only [length_append,length_map,length_take,length_cons,length_nil];omega) (h2:=by simp only [length_append,length_map,length_take,length_cons,length_nil];omega) λ v2 _ s8 _=> ?_
    refine .Z rfl<| .U rfl ?_
    have s9:=(s8.pk [0]).pk [0]
    have s10:=s9.cF 0 rfl (show uv n++uv kind++uv lens.length++(lens.take (k)).map (· %2^8)++[(x%2^8)]=uv n++uv kind++uv lens.length++(lens.take (k+1)).map (· %2^8) from by rw [au hx];simp)
    exact bc (k+1,v2) ⟨s10,by omega⟩
   refine .ao ?_
   have s12:=(s6.pk [0]).cF 0 rfl (show uv n++uv kind++uv lens.length++(lens.take (k)).map (· %2^8)=u7 n kind lens from by rw [u7,if_pos (c1),show k=lens.length by omega,take_length];simp)
   exact ⟨ov,(wk rfl),s12⟩
  refine .skip ?_
  have s14:=(s2.pk [1]).cF 0 rfl (show uv (n)++uv (kind)=u7 n kind lens from by rw [u7,if_neg c1];simp)
  exact ⟨r2,(wk rfl),s14⟩
 rintro L' w7 ⟨ov,hw1,s15⟩
 refine .weaken _ hw1<| .seq<| .h<| .a 3 rfl (.load Kn rfl (s15.ext _ _ h3))<| .ln 0 (hb.ext s15.ext) rfl<| .Z rfl<| .block ?_
 have s16:=s15.cF 0 rfl (show u7 n kind lens=u7 n kind lens++er kind ((bB ps).take (0)) from by simp [er])
 refine .lq [0,52,53] rfl (α:=Nat×Value) (λ (k,ov)=>[(3,ov),(54,(.int .i64 k))]) (λ (k,ov) w'=>Sat w [cL ov 5 (a8 .u8) (u7 n kind lens++er kind ((bB ps).take (k)))] w'/\(k<=ps.length)/\((er kind ((bB ps).take k)).length<=20010*k)) (λ (k,ov)=>ps.length-k) (0,ov) ⟨s16,Nat.zero_le _,by simp [er]⟩ ?_
 rintro ⟨k,ov⟩ w8 ⟨s17,hkl,hpk⟩
 refine .Z rfl<| .seq<| .ab rfl (λ c3=> ?_) λ c3=> ?_
 ·refine .skip<| .seq<| .block<| .seq ?_
  obtain ⟨x,hx⟩:∃ x,(ps)[k]? =some x:=⟨_,getElem?_eq_getElem c3⟩
  refine .region<| .ix 0 (hb.ext s17.ext) rfl<| .lg 0 (hb.ext s17.ext) hx rfl<| .al 0 s17 rfl λ b1 _ s18 _ _=> ?_
  have s18:=s18.nn
  refine .sa 0 s18 1 rfl ((cO).one _) λ _ s19 _=> .nil<| .seq<| .seq ?_
  have hxb:=hpb x (aa hx)
  have hu5:=aN x.bys.length
  have hu6:=aN x.bits
  refine .region<| .a 3 rfl (.load fN rfl (s19.ext _ _ h1))<| .Z rfl<| .ab rfl (λ c4=> ?_) λ c4=> ?_
  ·refine .region<| .ld 2 s19 1 rfl<| .ln 0 ((hall x (aa hx)).ext s19.ext) rfl<| .c 1 (cS ov (u7 n kind lens++er kind ((bB ps).take (k))) (x.bys.length) _ (s19.ah 0 rfl) (by simp only [length_append];omega) (by omega)) rfl λ r4 _ h4=> ?_
   have s20:=s19.aD h4
   refine .Z rfl<| .region<| .ld 2 s20 1 rfl<| .ap 0 s20 2 ((hall x (aa hx)).ext s20.ext) rfl (h1:=by simp only [length_append];omega) (h2:=by simp only [length_append];omega) λ v3 _ s21 _=> .Z rfl<| .U rfl ?_
   have s23:=(s21.pk [2]).cF 0 rfl (show u7 n kind lens++er kind ((bB ps).take (k))++uv (x.bys.length)++x.bys=u7 n kind lens++er kind ((bB ps).take (k+1)) from by rw [au (iO hx),oh,u6];simp [show kind=0 from c4])
   exact bc (k+1,v3) ⟨s23,by omega,by rw [au (iO hx),oh,u6];simp only [length_append,if_pos c4];omega⟩
  refine .region<| .ld 2 s19 1 rfl<| .c 1 (cS ov (u7 n kind lens++er kind ((bB ps).take (k))) (x.bits) _ (s19.ah 0 rfl) (by simp only [length_append];omega) (by omega)) rfl λ r5 _ h5=> ?_
  have s24:=s19.aD h5
  refine .Z rfl<| .region<| .ld 2 s24 1 rfl<| .ap 0 s24 2 ((hall x (aa hx)).ext s24.ext) rfl (h1:=by simp only [length_append];omega) (h2:=by simp only [length_append];omega) λ v_4 _ s25 _=> .Z rfl<| .U rfl ?_
  have s27:=(s25.pk [2]).cF 0 rfl (show u7 n kind lens++er kind ((bB ps).take (k))++uv (x.bits)++x.bys=u7 n kind lens++er kind ((bB ps).take (k+1)) from by rw [au (iO hx),oh,u6];simp [c4])
  exact bc (k+1,v_4) ⟨s27,by omega,by rw [au (iO hx),oh,u6];simp only [length_append,if_neg c4];omega⟩
 refine .ao<| .Z rfl<| .aC rfl rfl ?_
 have s28:=s17.cF 0 rfl (show u7 n kind lens++er kind ((bB ps).take (k))=jy n kind lens (bB ps) from by rw [jy,show k=(bB ps).length by rw [dR];omega,take_length])
 exact s28
theorem yj (v:Value) (l:List Nat) (w:World) (hv:RdL w v (a8 .i64) l) (hl:OkN l):
  CallsV prog 79 [v] w λ r w'=>∃ g lv bv ps,r= .tuple #[.pointer (some ⟨g,0,none⟩),.int .i64 0]/\bB ps=l6 l/\Sat w [aj g 245 [(.int .i64 l.length),(.int .i64 (bW l)),lv,bv,(.int .i64 (0:Nat)),(.slice none 0 0)],cL lv 3 (a8 .i64) (du l),cL bv 248 (cO) (ps),cz (ps),cL (Value.slice none 0 0) 3 (a8 .i64) ([])] w':=by
 refine cc func79 rfl λ hs0=> .seq ?_
 have hlen:=hl.len
 refine .U rfl<| .seq<| .h<| .ln 1 (hv.ext hs0.ext) rfl<| .Z rfl<| .ak rfl (decide_eq_false (by omega))<| .skip<| .seq<| .h<| .ln 1 (hv.ext hs0.ext) rfl<| .Z rfl<| .block<| .lq [0,11,12] rfl (α:=Nat) (λ k=>[(13,(.int .i64 k))]) (λ k w'=>Sat w [] w'/\(k<=l.length)) (λ k=>l.length-k) 0 ⟨hs0,Nat.zero_le _⟩ ?_
 rintro k w1 ⟨s1,hk⟩
 refine .Z rfl<| .seq<| .ab rfl (λ c1=> ?_) λ c1=> ?_
 ·refine .skip<| .seq<| .block<| .seq ?_
  obtain ⟨x,hx⟩:∃ x,(l)[k]? =some x:=⟨_,getElem?_eq_getElem c1⟩
  refine .region<| .ix 0 (hv.ext s1.ext) rfl<| .le 0 (hv.ext s1.ext) hx rfl<| .Z rfl<| .seq<| .bH 22 ((x<0)\/(1024<=x)) ?_ ?_
  ·refine .z 3 rfl<| .B 19 rfl (λ hg1=> ?_) λ hg1=> ?_
   ·refine .M rfl (by simp [hg1])
   refine .M rfl (by simp [hg1])
  refine .ak rfl (decide_eq_false (by have:=hl.lt x (aa hx);omega))<| .skip<| .U rfl ?_
  exact bc (k+1) ⟨s1,by omega⟩
 refine .ao<| .h<| .c 1 (DI _ (l) _ (hv.ext s1.ext) (hl.len) (hl.lt)) rfl λ r1 _ h1=> ?_
 obtain ⟨g1,lv1,bv1,ps1,rfl,hps1,p1⟩:=h1
 have s2:=s1.aD p1
 refine .c 1 (F9 _ (l) _ (hv.ext s2.ext) (hl.len) (hl.lt)) rfl λ r2 _ h2=> ?_
 obtain ⟨g2,lv2,bv2,ps2,rfl,hps2,p2⟩:=h2
 have s3:=s2.aD p2
 refine .Z rfl<| .seq<| .seq ?_
 have hb0:=Li hps1 hl.len
 have hb1:=Lj hps2 hl.len hl.mx
 refine .region<| .c 1 (lu g2 ((l).length) 1 lv2 bv2 (bh l) ps2 _ (s3.cell (i:=5) (j:=0) rfl rfl) (s3.cell (i:=5) (j:=1) rfl rfl) (s3.cell (i:=5) (j:=2) rfl rfl) (s3.cell (i:=5) (j:=3) rfl rfl) (s3.ah 6 rfl) (s3.ah 7 rfl) (s3.kW 8 rfl) (hl.len) (Nat.le_refl _) (by rw [eB];exact hl.mx) (hb1.1) (hb1.2)) rfl λ r3 _ h3=> ?_
 have s4:=(s3.aD h3).nn
 refine .ln 0 (s4.ah 10 rfl) rfl<| .c 1 (lu g1 ((l).length) 0 lv1 bv1 ([]) ps1 _ (s4.cell (i:=0) (j:=0) rfl rfl) (s4.cell (i:=0) (j:=1) rfl rfl) (s4.cell (i:=0) (j:=2) rfl rfl) (s4.cell (i:=0) (j:=3) rfl rfl) (s4.ah 1 rfl) (s4.ah 2 rfl) (s4.kW 3 rfl) (hl.len) (by omega) (by simp) (hb0.1) (hb0.2)) rfl λ r4 _ h4=> ?_
 have s5:=s4.aD h4
 refine .ln 0 (s5.ah 11 rfl) rfl<| .Z rfl<| .ab rfl (λ c2=> ?_) λ c2=> ?_
 ·refine .Z rfl<| .bG rfl rfl rfl ?_
  obtain ⟨hk1,hk2,hk3⟩:=EB (l:=l) (by have hc:=c2;rw [hps1,hps2] at hc;simpa [om] using hc)
  refine ⟨g2,lv2,bv2,ps2,rfl,by rw [hps2,hk3],?_⟩
  rw [hk1,hk2]
  exact s5.pk [5,6,7,8,9]
 refine .skip<| .Z rfl<| .bG rfl rfl rfl ?_
 obtain ⟨hk1,hk2,hk3⟩:=BD (l:=l) (by have hc:=c2;rw [hps1,hps2] at hc;simpa [om] using hc)
 refine ⟨g1,lv1,bv1,ps1,rfl,by rw [hps1,hk3],?_⟩
 rw [hk1,hk2]
 exact s5.pk [0,1,2,3,4]
theorem IT (v n:Nat) (w:World) (hv:v<4294967296) (hn:n<=1000):
  CallsV prog 133 [(.int .u32 v),(.int .i64 n)] w λ r w'=>r= .int .u32 (oo v n:Nat)/\Sat w [] w':=by
 refine cc func133 rfl λ hs0=> .Z rfl<| .seq<| .Z rfl<| .block<| .lq [5] rfl (α:=Nat×Nat) (λ (k,u)=>[(0,(.int .u32 u)),(6,(.int .i64 k))]) (λ (k,u) w'=>Sat w [] w'/\(k<=n)/\(u=oo v k)/\(u<4294967296)) (λ (k,u)=>n-k) (0,v) ⟨hs0,Nat.zero_le _,rfl,hv⟩ ?_
 rintro ⟨k,u⟩ w1 ⟨s1,hk,hu,hub⟩
 refine .Z rfl<| .seq<| .ab rfl (λ c1=> ?_) λ c1=> ?_
 ·refine .skip<| .seq<| .block<| .Z rfl<| .ab rfl (λ c2=> ?_) λ c2=> ?_
  ·refine .region<| .a 2 rfl (.KS (b:=2197175160) rfl rfl rfl (by (try simp only [IntKind.bits]);omega) (by (try simp only [IntKind.bits]);omega))<| .Z rfl<| .U rfl ?_
   exact bc (k+1,((u/2^1)^^^2197175160)) ⟨s1,by omega,by rw [oo,<-hu];simp [st1,c2],by have:=BE hub;simpa [st1,c2] using this⟩
  refine .U rfl<| .U rfl ?_
  exact bc (k+1,(u/2^1)) ⟨s1,by omega,by rw [oo,<-hu];simp [st1,c2],by have:=BE hub;simpa [st1,c2] using this⟩
 refine .ao<| .Z rfl<| .aC rfl rfl ?_
 rw [show k=n by omega] at hu
 exact ⟨by rw [hu],s1⟩
theorem sC (v:Value) (l:List Nat) (w:World) (hv:RdL w v (a8 .u8) l) (hb:∀ x∈l,x<256) (hn:l.length<=1000000000):
  CallsV prog 84 [v] w λ r w'=>r= .int .u32 (iP l:Nat)/\Sat w [] w':=by
 refine cc func84 rfl λ hs0=> .Z rfl<| .h<| .al 0 hs0 rfl λ b1 w1 s1 _ _=> .nil<| .seq<| .Z rfl<| .block ?_
 have s2:Sat w [aj b1 194 ((a8 .u32).all (pK 0))] w1:=s1
 refine .lq [0,3] rfl (α:=Nat) (λ k=>[(8,(.int .i64 k))]) (λ k w'=>Sat w [aj b1 194 ((a8 .u32).all (pK k))] w'/\(k<=16)) (λ k=>16-k) 0 ⟨s2,Nat.zero_le _⟩ ?_
 rintro k w2 ⟨s3,hk⟩
 refine .Z rfl<| .seq<| .ab rfl (λ c1=> ?_) λ c1=> ?_
 ·refine .skip<| .seq<| .block<| .Z rfl<| .region<| .a 2 rfl (.qA (by rw [underlying3]<;>rfl) underlying144 rfl rfl)<| .cp 0 s3 (IT ((k%2^32)) (4) _ (by omega) (by omega)) rfl λ _ s4=> .e rfl (.cX BP rfl rfl (by omega))<| .f rfl (.setArr (E:=a8 .u32) (a:=(oo ((k%2^32)) (4))) 0 N1 s4 rfl rfl rfl rfl (by rw [zM];all_goals omega) λ w4 s5 _=> ?_)
  have s5:=s5.nn
  refine .nil<| .U rfl ?_
  have s6:Sat w [aj b1 194 ((a8 .u32).all (pK (k+1)))] w4:=by
   have hq:(pK k).set k (oo ((k%2^32)) (4))=pK (k+1):=by rw [Nat.mod_eq_of_lt (show k<2^32 by omega)];exact Ha (by omega)
   rw [<-hq];exact s5
  exact bc (k+1) ⟨s6,by omega⟩
 refine .ao<| .seq ?_
 have s7:Sat w [aj b1 194 ((a8 .u32).all (pJ))] w2:=by
  have hq:pK k=pJ:=by rw [show k=16 by omega];exact Hb
  rw [<-hq];exact s3
 refine .U rfl<| .seq<| .h<| .ln 1 (hv.ext s7.ext) rfl<| .Z rfl<| .block<| .lq [3,17,18] rfl (α:=Nat×Nat) (λ (k,u)=>[(5,(.int .u32 u)),(19,(.int .i64 k))]) (λ (k,u) w'=>Sat w s7.L w'/\(k<=l.length)/\(u=pI (l.take k))/\(u<4294967296)) (λ (k,u)=>l.length-k) (0,4294967295) ⟨s7,Nat.zero_le _,rfl,by omega⟩ ?_
 rintro ⟨k,u⟩ w5 ⟨s8,hk,hu,hub⟩
 refine .Z rfl<| .seq<| .ab rfl (λ c2=> ?_) λ c2=> ?_
 ·refine .skip<| .seq<| .block<| .seq ?_
  obtain ⟨x,hx⟩:∃ x,(l)[k]? =some x:=⟨_,getElem?_eq_getElem c2⟩
  refine .region<| .ix 0 (hv.ext s8.ext) rfl<| .le 0 (hv.ext s8.ext) hx rfl<| .Z rfl<| .seq ?_
  have hxb:=hb x (aa hx)
  have haa:u^^^x<4294967296:=cw hub (by omega)
  refine .region<| .a 3 rfl (.KS rfl rfl rfl (by (try simp only [IntKind.bits]);omega) (by (try simp only [IntKind.bits]);omega))<| .Z rfl<| .seq ?_
  have htg1:=u9 (show (u^^^x)%2^4<16 by omega)
  have htl1:=xy (show (u^^^x)%2^4<16 by omega)
  refine .region<| .a 4 rfl (.cX BP rfl rfl (by omega))<| .e rfl (.load D4 rfl (s8.sd (E:=a8 .u32) 0 rfl htg1 (by decide) rfl))<| .e rfl (.KS rfl rfl rfl (by (try simp only [IntKind.bits]);omega) (by (try simp only [IntKind.bits]);omega))<| .Z rfl ?_
  have hba:=fu haa
  unfold uR at hba
  have htg2:=u9 (show (((u^^^x)/2^4)^^^(oq ((u^^^x)%2^4)))%2^4<16 by omega)
  have htl2:=xy (show (((u^^^x)/2^4)^^^(oq ((u^^^x)%2^4)))%2^4<16 by omega)
  have hbb:=fu hba
  unfold uR at hbb
  refine .region<| .a 4 rfl (.cX BP rfl rfl (by omega))<| .e rfl (.load D4 rfl (s8.sd (E:=a8 .u32) 0 rfl htg2 (by decide) rfl))<| .e rfl (.KS rfl rfl rfl (by (try simp only [IntKind.bits]);omega) (by (try simp only [IntKind.bits]);omega))<| .Z rfl<| .U rfl ?_
  exact bc (k+1,(((((u^^^x)/2^4)^^^(oq ((u^^^x)%2^4)))/2^4)^^^(oq ((((u^^^x)/2^4)^^^(oq ((u^^^x)%2^4)))%2^4)))) ⟨s8,by omega,by rw [au hx,wq,<-hu]<;>rfl,hbb⟩
 refine .ao<| .h<| .a 1 rfl (.OQ rfl (by omega))<| .Z rfl<| .aC rfl rfl ?_
 rw [show k=l.length by omega,take_length] at hu
 exact ⟨by rw [hu]<;>rfl,s8.pk []⟩
theorem ef (v:Nat) (w:World) (hv:v<4294967296):
  CallsV prog 83 [(.int .u32 v)] w λ r w'=>r= .agg ((a8 .u8).all (iQ v)).toArray/\Sat w [] w':=by
 refine cc func83 rfl λ hs0=> .h<| .al 0 hs0 rfl λ b1 _ s1 _ _=> .nil<| .h<| .a 1 rfl (.qA (by rw [underlying144]<;>rfl) underlying5 rfl rfl)<| .a 2 rfl (.qA (by rw [underlying144]<;>rfl) underlying5 rfl rfl)<| .a 2 rfl (.qA (by rw [underlying144]<;>rfl) underlying5 rfl rfl)<| .a 2 rfl (.qA (by rw [underlying144]<;>rfl) underlying5 rfl rfl)<| .e rfl (.I8 N0 rfl ⟨rfl,rfl,rfl,rfl,trivial⟩ rfl)<| .sa 0 s1 0 (vs:=[(.int .u8 ((v%2^8):Nat)),(.int .u8 (((v/2^8)%2^8):Nat)),(.int .u8 (((v/2^16)%2^8):Nat)),(.int .u8 (((v/2^24)%2^8):Nat))]) rfl (λ v h=>by simp only [mem_cons,not_mem_nil,or_false] at h;rcases h with rfl|rfl|rfl|rfl;exact rfl;exact rfl;exact rfl;exact rfl) λ _ s2 _=> .nil<| .ret ?_
 show aK _ _ _ _ _ _
 refine wX (vs:=[(.int .u8 ((v%2^8):Nat)),(.int .u8 (((v/2^8)%2^8):Nat)),(.int .u8 (((v/2^16)%2^8):Nat)),(.int .u8 (((v/2^24)%2^8):Nat))]) rfl rfl my (λ j u hu=>s2.cell (i:=0) rfl hu) ?_
 exact ⟨rfl,s2.pk []⟩
theorem rq (v:Value) (l:List Nat) (w:World) (hv:RdL w v (a8 .u8) l) (hb:∀ x∈l,x<256) (hn:l.length<=1000000000):
  CallsV prog 33 [v] w λ r w'=>Sat w [cL r 5 (a8 .u8) (aE l)] w':=by
 refine cc func33 rfl λ hs0=> .Z rfl<| .h<| .cp 1 hs0 (sC _ (l) _ (hv.ext hs0.ext) (hb) (hn)) rfl λ _ s1=> .cp 0 s1 (ef ((iP (l))) _ (jg hb)) rfl λ _ s2=> .al 0 s2 rfl λ b1 _ s3 _ _=> ?_
 have s3:=s3.nn
 refine .sa 0 s3 0 (vs:=(a8 .u8).all (iQ (iP (l)))) rfl ((a8 .u8).all_oneCell _) λ _ s4 _=> .nil<| .seq<| .dk [0] s4 rfl (pl [0,1,2,3,4,5,6,1007,8] .fin) λ s5 S1=> .ln 2 S1 (hv.ext ·.ext) rfl<| .ln 1 S1 (hv.ext ·.ext) rfl<| .e rfl (λ _ s=> .EI (E:=a8 .u8) cg rfl (hv.ext s.ext) rfl rfl) S1<| .e rfl (λ _ s=> .I3 MZ (by decide) rfl) S1<| .f rfl (.BU cg s5 rfl rfl ((hv.ext s5.ext)).full.1 (((hv.ext s5.ext)).full.2) underlying45 (s5.OW (E:=a8 .u8) (l:=iQ (iP (l))) 0 rfl (m:=4) (by first|rfl|simp)) (by simp [iQ]) (by simp [iQ];omega) (by simp [iQ];omega) λ v1 _ s6 _=> ?_)
 have S2:=s6.pk [0]
 refine ⟨S2,?_⟩
 refine .Z S2 rfl<| .aC rfl rfl ?_
 exact s6.pk [1]
theorem BZ (g n:Nat) (w:World) (h0:w.cell? ⟨g,0,none⟩=some (.int .i64 (n:Int))):
  CallsV prog 154 [(.pointer (some ⟨g,0,none⟩))] w λ r w'=>r= .int .i64 (n:Int)/\Sat w [] w':=by
 refine cc func154 rfl λ hs0=> .Z rfl<| .h<| .a 3 rfl (.load fN rfl (hs0.ext _ _ h0))<| .Z rfl<| .aC rfl rfl ?_
 exact ⟨rfl,hs0⟩
theorem sD (g n kind:Nat) (lv bv:Value) (lens:List Nat) (ps:List Pt) (w:World) (h0:w.cell? ⟨g,0,none⟩=some (.int .i64 (n:Int))) (h1:w.cell? ⟨g,1,none⟩=some (.int .i64 (kind:Int))) (h2:w.cell? ⟨g,2,none⟩=some lv) (h3:w.cell? ⟨g,3,none⟩=some bv) (hl:RdL w lv (a8 .i64) lens) (hb:RdL w bv cO ps) (hall:∀ p∈ps,RdL w p.sv.val (a8 .u8) p.bys) (hn:n<=4096) (hk:kind<=1) (hll:lens.length<=1024) (hpl:ps.length<=100) (hpb:∀ p∈ps,p.bys.length<=20000/\p.bits<=1000000) (hlt:∀ p∈bB ps,∀ x∈p.1,x<256):
  CallsV prog 80 [(.pointer (some ⟨g,0,none⟩))] w λ r w'=>Sat w [cL r 5 (a8 .u8) (aE (jy n kind lens (bB ps)))] w':=by
 refine cc func80 rfl λ hs0=> .Z rfl<| .h<| .c 1 (lu g n kind lv bv lens ps _ (hs0.ext _ _ h0) (hs0.ext _ _ h1) (hs0.ext _ _ h2) (hs0.ext _ _ h3) (hl.ext hs0.ext) (hb.ext hs0.ext) (λ p hp=>(hall p hp).ext hs0.ext) (hn) (hk) (hll) (hpl) (hpb)) rfl λ r1 _ h_1=> ?_
 have s1:=hs0.aD h_1
 refine .c 0 (rq _ (jy n kind (lens) (bB ps)) _ (s1.ah 0 rfl) (CN _ _ _ _ hlt) (by have:=H8 (n:=n) (kind:=kind) hll hpl hpb;omega)) rfl λ r2 _ h_2=> ?_
 have s2:=s1.aD h_2
 refine .Z rfl<| .aC rfl rfl ?_
 exact s2.pk [1]
end Go.Proofs.YthffkcnbdehceaaGreat
