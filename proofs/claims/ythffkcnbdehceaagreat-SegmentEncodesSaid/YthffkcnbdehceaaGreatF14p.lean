/-The walks of the functions of F14p,printed by our own program (kwgen.py) out of our descriptions (base.py). -/
import Derived.Test.YthffkcnbdehceaaGreatF14s
import Derived.Test.YthffkcnbdehceaaGreatM14p
open List
set_option linter.unusedVariables false
set_option linter.unusedSimpArgs false
set_option linter.unusedSectionVars false
namespace Go.Proofs.YthffkcnbdehceaaGreat
open Go.RowKit Go.Kw
set_option maxRecDepth 100000
theorem CC (v u:Value) (a b:List RI) (w:World) (hv:RdL w v ba a) (hu:RdL w u ba b) (hn:a.length<=4096) (hm:b.length<=4096):
  CallsV Tryz.prog 238 [v,u] w λ r w'=>Sat w [cL r 302 ba (gl a b)] w':=by
 refine cg Tryz.func238 rfl λ hs0=> .Z rfl<| .Z rfl<| .Z rfl<| .seq<| .h<| .ln 1 (hu.ext hs0.ext) rfl<| .Z rfl<| .block ?_
 have s1:=hs0.aA 302 (ba)
 refine .lq [0,9,10] rfl (α:=Nat×Nat×Value×List RI) (λ (k,i,ov,out)=>[(5,ov),(6,(.int .i64 i)),(11,(.int .i64 k))]) (λ (k,i,ov,out) w'=>Sat w [cL ov 302 (ba) (out)] w'/\(k<=b.length)/\(i<=a.length)/\(out++gl (a.drop i) (b.drop k)=gl a b)/\(out.length=i+k)) (λ (k,i,ov,out)=>b.length-k) (0,0,(.slice none 0 0),[]) ⟨s1,KD _,KD _,rfl,rfl⟩ ?_
 rintro ⟨k,i,ov,out⟩ w1 ⟨s2,hk,hi,hout,hol⟩
 refine .Z rfl<| .seq<| .ae rfl (λ c1=> ?_) λ c1=> ?_
 ·refine .skip<| .seq<| .block<| .seq ?_
  obtain ⟨x,hx⟩:∃ x,(b)[k]? =some x:=⟨_,py c1⟩
  refine .region<| .ix 0 (hu.ext s2.ext) rfl<| .lg 0 (hu.ext s2.ext) hx rfl<| .al 0 s2 rfl λ b1 _ s3 _ _=> .sa 0 s3 1 rfl ((ba).one _) λ _ s4 _=> .nil<| .seq<| .block<| .lq [0,8,9,10,11] rfl (α:=Nat×Value×List RI) (λ (i,ov,out)=>[(5,ov),(6,(.int .i64 i))]) (λ (i,ov,out) w'=>Sat w (s4.U [(0,cL ov 302 (ba) (out))]) w'/\(i<=a.length)/\(out++gl (a.drop i) (b.drop k)=gl a b)/\(out.length=i+k)) (λ (i,ov,out)=>a.length-i) (i,ov,out) ⟨s4,hi,hout,hol⟩ ?_
  rintro ⟨i,ov,out⟩ w4 ⟨s5,hi,hout,hol⟩
  refine .seq<| .seq ?_
  rcases Q1 i a.length with hw|hw
  ·obtain ⟨y,hy⟩:∃ y,(a)[i]? =some y:=⟨_,py (hw)⟩
   refine .dk [0,1] s5 rfl (pl [0,1,2,3,4,5,6,7,8,9,10,11,12,13] .fin) λ s6 S1=> .ln 2 S1 (hv.ext ·.ext) rfl<| .z 2 S1 rfl<| .Gt 19 rfl (PM hw)<| .ix 2 S1 (hv.ext ·.ext) rfl<| .fl 0 S1 (hv.ext ·.ext) rfl<| .lf 0 S1 (hv.ext ·.ext) hy rfl<| .ld 1 S1 1 rfl<| .Z S1 rfl<| .ae rfl (λ c2=> ?_) λ c2=> ?_
   ·refine .skip<| .block<| .h<| .ix 3 (hv.ext s6.ext) rfl<| .lg 0 (hv.ext s6.ext) hy rfl<| .f rfl (.cn (ba) y dh (by decide) (by decide) s6 rfl λ v1 _ s7 _=> ?_)
    have s7:=s7.nn
    refine .ap 0 s7 0 (s7.ah 2 rfl) rfl (h1:=by (try simp only [sp]);simp;omega) (h2:=by (try simp only [sp]);simp;omega) λ v2 _ s8 _=> ?_
    refine .Z rfl<| .U rfl ?_
    have s9:=(s8.pk [0,1]).pk [0,1]
    exact aT (i+1,v2,out++[y]) ⟨s9,by omega,by rw [<-hout,DJ hy hx c2];simp,by simp;omega⟩
   refine .ao ?_
   have hge:∀ z,a[i]? =some z->¬ z.w<=x.w:=λ z hz=>by rw [hy] at hz;cases hz;exact c2
   refine .region<| .lo 1 s6 1 rfl<| .f rfl (.cn (ba) x dh (by decide) (by decide) s6 rfl λ v3 _ s10 _=> ?_)
   have s10:=s10.nn
   refine .ap 0 s10 0 (s10.ah 2 rfl) rfl (h1:=by (try simp only [sp]);simp;omega) (h2:=by (try simp only [sp]);simp;omega) λ v_4 _ s11 _=> ?_
   refine .Z rfl<| .U rfl ?_
   have s12:=(s11.pk [0,1]).pk [0]
   exact aT (k+1,i,v_4,out++[x]) ⟨s12,by omega,hi,by rw [<-hout,rY hx hge];simp,by simp;omega⟩
  refine .dk [0,1] s5 rfl (pl [0,1,2,3,4,5,6,7,8,9,10,11,12,13] .fin) λ s13 S2=> .ln 2 S2 (hv.ext ·.ext) rfl<| .z 2 S2 rfl<| .Gf 19 rfl (IN (by omega))<| .Z S2 rfl<| .aj rfl (rfl)<| .ao ?_
  have hge:∀ z,a[i]? =some z->¬ z.w<=x.w:=λ z hz=>by have:=bQ hz;omega
  refine .region<| .lo 1 s13 1 rfl<| .f rfl (.cn (ba) x dh (by decide) (by decide) s13 rfl λ v5 _ s14 _=> ?_)
  have s14:=s14.nn
  refine .ap 0 s14 0 (s14.ah 2 rfl) rfl (h1:=by (try simp only [sp]);simp;omega) (h2:=by (try simp only [sp]);simp;omega) λ v6 _ s15 _=> ?_
  refine .Z rfl<| .U rfl ?_
  have s16:=(s15.pk [0,1]).pk [0]
  exact aT (k+1,i,v6,out++[x]) ⟨s16,by omega,hi,by rw [<-hout,rY hx hge];simp,by simp;omega⟩
 refine .ao<| .h<| .a 3 rfl (.aV (E:=ba) (a:=i) (c:=(a).length) dh rfl (hv.ext s2.ext) ⟨_,rfl⟩ rfl (by omega) (KB _))<| .ap 0 s2 0 (((hv.ext s2.ext)).sub (a:=i) (b:=(a).length) (by omega) (KB _)) rfl λ v7 _ s17 _=> .Z rfl<| .aC rfl rfl ?_
 have s19:=(s17.pk [0]).aZ 0 rfl (show out++((a).take ((a).length)).drop i=gl a b from by rw [<-hout,show k=b.length by omega,SO,GH];simp)
 exact s19
end Go.Proofs.YthffkcnbdehceaaGreat
