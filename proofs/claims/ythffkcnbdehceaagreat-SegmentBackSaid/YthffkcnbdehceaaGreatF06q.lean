/-The walks of the functions of F06q,printed by our own program (kwgen.py) out of our descriptions (base.py). -/
import Derived.Test.YthffkcnbdehceaaGreatF06v
import Derived.Test.YthffkcnbdehceaaGreatKsc
import Derived.Test.YthffkcnbdehceaaGreatM06e
open List
open Go.Proofs.Tryz
set_option linter.unusedVariables false
set_option linter.unusedSimpArgs false
set_option linter.unusedSectionVars false
namespace Go.Proofs.YthffkcnbdehceaaGreat
open Go.RowKit Go.Kw
set_option maxRecDepth 100000
theorem Ix:vP prog 120 [.s,.s]=true:=by kernel_rfl
theorem Iy:vP prog 86 [.s,.b]=true:=by kernel_rfl
theorem Iz:vP prog 84 [.s,.i .i64,.i .i64,.i .i64]=true:=by kernel_rfl
theorem vk (v u:Value) (l m:List (ByteArray×Bool)) (w:World) (hv:RdL w v bU l) (hu:RdL w u bU m) (hl:l.length<=5000):
  CallsV prog 47 [v,u] w λ r w'=>r= .bool (decide (l=m))/\Sat w [] w':=by
 refine cc func47 rfl λ hs0=> .Z rfl<| .seq<| .h<| .ln 1 (hv.ext hs0.ext) rfl<| .ln 1 (hu.ext hs0.ext) rfl<| .Z rfl<| .ab rfl (λ c1=> ?_) λ c1=> ?_
 ·refine .Z rfl<| .aC rfl rfl ?_
  exact ⟨congrArg Value.bool (decide_eq_false λ e=>c1 (congrArg List.length e)).symm,hs0.pk []⟩
 refine .skip<| .seq<| .h<| .ln 1 (hv.ext hs0.ext) rfl<| .Z rfl<| .block<| .lq [0,1,12] rfl (α:=Nat) (λ k=>[(13,(.int .i64 k))]) (λ k w'=>Sat w [] w'/\(∀ (j:Nat) s t,j<k->l[j]? =some s->m[j]? =some t->s=t)) (λ k=>l.length-k) 0 ⟨hs0,λ j s t h=>absurd h (by omega)⟩ ?_
 rintro k w1 ⟨s2,hk⟩
 refine .Z rfl<| .seq<| .ab rfl (λ c2=> ?_) λ c2=> ?_
 ·refine .skip<| .seq<| .block<| .seq ?_
  obtain ⟨x,hx⟩:∃ x,(l)[k]? =some x:=⟨_,getElem?_eq_getElem c2⟩
  obtain ⟨y,hy⟩:∃ y,(m)[k]? =some y:=⟨_,getElem?_eq_getElem (by omega)⟩
  refine .U rfl<| .seq<| .dk [] s2 rfl (pl [0,1,2,3,4,5,6,7,8] .fin) λ s3 S1=> .ix 2 S1 (hv.ext ·.ext) rfl<| .lg 0 S1 (hv.ext ·.ext) hx rfl<| .ix 2 S1 (hu.ext ·.ext) rfl<| .lg 0 S1 (hu.ext ·.ext) hy rfl<| .e rfl (λ _ q=> .Nl (a:=x) (b:=y) M8 Iy rfl rfl) S1<| .fin<| .ab rfl (λ c3=> ?_) λ c3=> ?_
  ·refine .Z rfl<| .aC rfl rfl ?_
   exact ⟨congrArg Value.bool (decide_eq_false λ e=>c3 (get_eq e hx hy)).symm,s3.pk []⟩
  refine .skip<| .U rfl ?_
  exact bc (k+1) ⟨s3,eK hk hx hy (Decidable.not_not.1 c3)⟩
 refine .ao<| .Z rfl<| .aC rfl rfl ?_
 exact ⟨congrArg Value.bool (decide_eq_true (kP (by omega) hk (by omega))).symm,s2.pk []⟩
theorem vm (v u:Value) (l m:List (Pr)) (w:World) (hv:RdL w v aQ l) (hu:RdL w u aQ m) (hl:l.length<=5000):
  CallsV prog 48 [v,u] w λ r w'=>r= .bool (decide (l=m))/\Sat w [] w':=by
 refine cc func48 rfl λ hs0=> .Z rfl<| .seq<| .h<| .ln 1 (hv.ext hs0.ext) rfl<| .ln 1 (hu.ext hs0.ext) rfl<| .Z rfl<| .ab rfl (λ c1=> ?_) λ c1=> ?_
 ·refine .Z rfl<| .aC rfl rfl ?_
  exact ⟨congrArg Value.bool (decide_eq_false λ e=>c1 (congrArg List.length e)).symm,hs0.pk []⟩
 refine .skip<| .seq<| .h<| .ln 1 (hv.ext hs0.ext) rfl<| .Z rfl<| .block<| .lq [0,1,12] rfl (α:=Nat) (λ k=>[(13,(.int .i64 k))]) (λ k w'=>Sat w [] w'/\(∀ (j:Nat) s t,j<k->l[j]? =some s->m[j]? =some t->s=t)) (λ k=>l.length-k) 0 ⟨hs0,λ j s t h=>absurd h (by omega)⟩ ?_
 rintro k w1 ⟨s2,hk⟩
 refine .Z rfl<| .seq<| .ab rfl (λ c2=> ?_) λ c2=> ?_
 ·refine .skip<| .seq<| .block<| .seq ?_
  obtain ⟨x,hx⟩:∃ x,(l)[k]? =some x:=⟨_,getElem?_eq_getElem c2⟩
  obtain ⟨y,hy⟩:∃ y,(m)[k]? =some y:=⟨_,getElem?_eq_getElem (by omega)⟩
  refine .U rfl<| .seq<| .dk [] s2 rfl (pl [0,1,2,3,4,5,6,7,8] .fin) λ s3 S1=> .ix 2 S1 (hv.ext ·.ext) rfl<| .lg 0 S1 (hv.ext ·.ext) hx rfl<| .ix 2 S1 (hu.ext ·.ext) rfl<| .lg 0 S1 (hu.ext ·.ext) hy rfl<| .e rfl (λ _ q=> .Nl (a:=x) (b:=y) M7 Ix rfl rfl) S1<| .fin<| .ab rfl (λ c3=> ?_) λ c3=> ?_
  ·refine .Z rfl<| .aC rfl rfl ?_
   exact ⟨congrArg Value.bool (decide_eq_false λ e=>c3 (get_eq e hx hy)).symm,s3.pk []⟩
  refine .skip<| .U rfl ?_
  exact bc (k+1) ⟨s3,eK hk hx hy (Decidable.not_not.1 c3)⟩
 refine .ao<| .Z rfl<| .aC rfl rfl ?_
 exact ⟨congrArg Value.bool (decide_eq_true (kP (by omega) hk (by omega))).symm,s2.pk []⟩
theorem ky (a b:Co) (w:World) (ha:RdC w a) (hb:RdC w b) (hsa:Sm a):
  CallsV prog 16 [(.agg #[a.va,a.vt,a.vx,a.vr,a.vn,a.vh,a.vl]),(.agg #[b.va,b.vt,b.vx,b.vr,b.vn,b.vh,b.vl])] w λ r w'=>∃ q:Bool,r= .bool q/\(q=true↔a.v=b.v)/\Sat w [] w':=by
 have hb1:=hsa.at_
 have hb2:=hsa.tk
 have hb3:=hsa.tx
 have hb4:=hsa.rg
 have hb5:=hsa.nd
 have hb6:=hsa.hd
 have hb7:=hsa.rl
 have hs0:=Sat.start w
 refine ae func16 rfl rfl ?_
 refine .h<| .bx 0 hs0 rfl λ b1 _ s1 _ _=> .bx 0 s1 rfl λ b2 _ s2 _ _=> .Z rfl<| .seq<| .seq<| .md [0,1,2,3,4] rfl (λ K L' w'=>Weak ([(75,(.bool (decide (((((((¬ (a.at_=b.at_))\/(a.tk.length≠b.tk.length))\/(a.tx.length≠b.tx.length))\/(a.rg.length≠b.rg.length))\/(a.nd.length≠b.nd.length))\/(a.hd.length≠b.hd.length))\/(a.rl.length≠b.rl.length)))))]++K) L'/\Sat w s2.L w') ?_ ?_
 ·refine .region<| .ld 1 s2 0 rfl<| .ld 1 s2 1 rfl<| .cq 0 s2 (vk _ _ (a.at_) (b.at_) _ (ha.a.ext s2.ext) (hb.a.ext s2.ext) (by omega)) rfl λ _ s3=> .e rfl (.jz rfl)<| .z 1 rfl<| .B 22 rfl (λ g1=> ?_) λ g1=> ?_
  ·refine .Z rfl ?_
   exact ⟨⟨congrArg some (congrArg Value.bool (by simp [g1])),rfl,rfl,rfl,rfl,rfl,trivial⟩,s3⟩
  refine .ld 1 s3 0 rfl<| .ln 0 (ha.t.ext s3.ext) rfl<| .ld 1 s3 1 rfl<| .ln 0 (hb.t.ext s3.ext) rfl<| .z 3 rfl<| .B 31 rfl (λ g2=> ?_) λ g2=> ?_
  ·refine .Z rfl ?_
   exact ⟨⟨congrArg some (congrArg Value.bool (by simp [g1,g2])),rfl,rfl,rfl,rfl,rfl,trivial⟩,s3⟩
  refine .ld 1 s3 0 rfl<| .ln 0 (ha.x.ext s3.ext) rfl<| .ld 1 s3 1 rfl<| .ln 0 (hb.x.ext s3.ext) rfl<| .z 3 rfl<| .B 40 rfl (λ g3=> ?_) λ g3=> ?_
  ·refine .Z rfl ?_
   exact ⟨⟨congrArg some (congrArg Value.bool (by simp [g1,g2,g3])),rfl,rfl,rfl,rfl,rfl,trivial⟩,s3⟩
  refine .ld 1 s3 0 rfl<| .ln 0 (ha.r.ext s3.ext) rfl<| .ld 1 s3 1 rfl<| .ln 0 (hb.r.ext s3.ext) rfl<| .z 3 rfl<| .B 49 rfl (λ g4=> ?_) λ g4=> ?_
  ·refine .Z rfl ?_
   exact ⟨⟨congrArg some (congrArg Value.bool (by simp [g1,g2,g3,g4])),rfl,rfl,rfl,rfl,rfl,trivial⟩,s3⟩
  refine .ld 1 s3 0 rfl<| .ln 0 (ha.n.ext s3.ext) rfl<| .ld 1 s3 1 rfl<| .ln 0 (hb.n.ext s3.ext) rfl<| .z 3 rfl<| .B 58 rfl (λ g5=> ?_) λ g5=> ?_
  ·refine .Z rfl ?_
   exact ⟨⟨congrArg some (congrArg Value.bool (by simp [g1,g2,g3,g4,g5])),rfl,rfl,rfl,rfl,rfl,trivial⟩,s3⟩
  refine .ld 1 s3 0 rfl<| .ln 0 (ha.h.ext s3.ext) rfl<| .ld 1 s3 1 rfl<| .ln 0 (hb.h.ext s3.ext) rfl<| .z 3 rfl<| .B 67 rfl (λ g6=> ?_) λ g6=> ?_
  ·refine .Z rfl ?_
   exact ⟨⟨congrArg some (congrArg Value.bool (by simp [g1,g2,g3,g4,g5,g6])),rfl,rfl,rfl,rfl,rfl,trivial⟩,s3⟩
  refine .ld 1 s3 0 rfl<| .ln 0 (ha.l.ext s3.ext) rfl<| .ld 1 s3 1 rfl<| .ln 0 (hb.l.ext s3.ext) rfl<| .Z rfl ?_
  exact ⟨⟨congrArg some (congrArg Value.bool (by simp [g1,g2,g3,g4,g5,g6])),rfl,rfl,rfl,rfl,rfl,trivial⟩,s3⟩
 rintro L' w4 ⟨hw1,s4⟩
 refine .weaken _ hw1<| .ab rfl (λ c1=> ?_) λ c1=> ?_
 ·refine .Z rfl<| .aC rfl rfl ?_
  exact ⟨false,rfl,iff_of_false (by decide) (λ e=>O3 c1 e),s4.pk []⟩
 refine .skip<| .seq<| .seq ?_
 obtain ⟨eA,hl2,hl3,hl4,hl5,hl6,hl7⟩:=Mr c1
 refine .region<| .ld 1 s4 0 rfl<| .ln 0 (ha.t.ext s4.ext) rfl<| .Z rfl<| .block<| .lq [0,1,2,3,78] rfl (α:=Nat) (λ kt=>[(79,(.int .i64 kt))]) (λ kt w'=>Sat w s4.L w'/\(∀ (j:Nat) s t,j<kt->a.tk[j]? =some s->b.tk[j]? =some t->s.ns=t.ns)) (λ kt=>a.tk.length-kt) 0 ⟨s4,λ j s t h=>absurd h (by omega)⟩ ?_
 rintro kt w5 ⟨s6,hT⟩
 refine .Z rfl<| .seq<| .ab rfl (λ c2=> ?_) λ c2=> ?_
 ·refine .skip<| .seq<| .block<| .seq ?_
  obtain ⟨x,hx⟩:∃ x,(a.tk)[kt]? =some x:=⟨_,getElem?_eq_getElem c2⟩
  obtain ⟨y,hy⟩:∃ y,(b.tk)[kt]? =some y:=⟨_,getElem?_eq_getElem (by omega)⟩
  have hx5:=hsa.tr x (aa hx)
  refine .U rfl<| .seq<| .seq<| .dk [0,1] s6 rfl (pl [0,1,2,3,4,5,6,7,8,9,10,11,12] .fin) λ s7 S1=> .ld 1 S1 0 rfl<| .ix 1 S1 (ha.t.ext ·.ext) rfl<| .le 0 S1 (ha.t.ext ·.ext) hx rfl<| .ln 0 S1 ((ha.tr x (aa hx)).ext ·.ext) rfl<| .ld 1 S1 1 rfl<| .ix 1 S1 (hb.t.ext ·.ext) rfl<| .le 0 S1 (hb.t.ext ·.ext) hy rfl<| .ln 0 S1 ((hb.tr y (aa hy)).ext ·.ext) rfl<| .Z S1 rfl<| .ab rfl (λ c3=> ?_) λ c3=> ?_
  ·refine .Z rfl<| .aC rfl rfl ?_
   exact ⟨false,rfl,iff_of_false (by decide) (λ e=>c3 (congrArg List.length (jd (congrArg mu.tk e) hx hy))),s7.pk []⟩
  refine .skip<| .h<| .ld 1 s7 0 rfl<| .ix 1 (ha.t.ext s7.ext) rfl<| .le 0 (ha.t.ext s7.ext) hx rfl<| .ln 0 ((ha.tr x (aa hx)).ext s7.ext) rfl<| .Z rfl<| .block ?_
  have hxy:x.ns.length=y.ns.length:=Decidable.not_not.1 c3
  refine .lq [0,1,2,3,5,78,79,100] rfl (α:=Nat) (λ j=>[(101,(.int .i64 j))]) (λ j w'=>Sat w s7.L w'/\(∀ (i:Nat) s t,i<j->x.ns[i]? =some s->y.ns[i]? =some t->s=t)) (λ j=>x.ns.length-j) 0 ⟨s7,λ i s t h=>absurd h (by omega)⟩ ?_
  rintro j w6 ⟨s9,hS⟩
  refine .Z rfl<| .seq<| .ab rfl (λ c4=> ?_) λ c4=> ?_
  ·refine .skip<| .seq<| .block<| .seq ?_
   obtain ⟨u,hu⟩:∃ u,(x.ns)[j]? =some u:=⟨_,getElem?_eq_getElem c4⟩
   obtain ⟨v,hv⟩:∃ v,(y.ns)[j]? =some v:=⟨_,getElem?_eq_getElem (by omega)⟩
   refine .U rfl<| .seq<| .dk [0,1] s9 rfl (pl [0,1,2,3,4,5,6,7,8,9,10,11,12,13,14,15,16] .fin) λ s10 S2=> .ld 1 S2 0 rfl<| .ix 1 S2 (ha.t.ext ·.ext) rfl<| .le 0 S2 (ha.t.ext ·.ext) hx rfl<| .ix 1 S2 ((ha.tr x (aa hx)).ext ·.ext) rfl<| .le 0 S2 ((ha.tr x (aa hx)).ext ·.ext) hu rfl<| .ld 1 S2 1 rfl<| .ix 1 S2 (hb.t.ext ·.ext) rfl<| .le 0 S2 (hb.t.ext ·.ext) hy rfl<| .ix 1 S2 ((hb.tr y (aa hy)).ext ·.ext) rfl<| .le 0 S2 ((hb.tr y (aa hy)).ext ·.ext) hv rfl<| .e rfl (λ _ hS=> .et rfl rfl) S2<| .fin<| .ab rfl (λ c5=> ?_) λ c5=> ?_
   ·refine .Z rfl<| .aC rfl rfl ?_
    exact ⟨false,rfl,iff_of_false (by decide) (λ e=>c5 (get_eq (jd (congrArg mu.tk e) hx hy) hu hv)),s10.pk []⟩
   refine .skip<| .U rfl ?_
   exact bc (j+1) ⟨s10,eK hS hu hv (Decidable.not_not.1 c5)⟩
  refine .ao<| .U rfl ?_
  exact bc (kt+1) ⟨s9,eK hT hx hy (kP hxy hS (by omega))⟩
 refine .ao<| .seq<| .seq ?_
 have eT:a.tk.map (·.ns)=b.tk.map (·.ns):=rM hl2 hT (by omega)
 refine .region<| .ld 1 s6 0 rfl<| .ln 0 (ha.x.ext s6.ext) rfl<| .Z rfl<| .block<| .lq [0,1,2,3,78,79,124,125] rfl (α:=Nat) (λ kx=>[(126,(.int .i64 kx))]) (λ kx w'=>Sat w s6.L w'/\(∀ (j:Nat) s t,j<kx->a.tx[j]? =some s->b.tx[j]? =some t->s.v=t.v)) (λ kx=>a.tx.length-kx) 0 ⟨s6,λ j s t h=>absurd h (by omega)⟩ ?_
 rintro kx w7 ⟨s12,hX⟩
 refine .Z rfl<| .seq<| .ab rfl (λ c6=> ?_) λ c6=> ?_
 ·refine .skip<| .seq<| .block<| .seq ?_
  obtain ⟨x,hx⟩:∃ x,(a.tx)[kx]? =some x:=⟨_,getElem?_eq_getElem c6⟩
  obtain ⟨y,hy⟩:∃ y,(b.tx)[kx]? =some y:=⟨_,getElem?_eq_getElem (by omega)⟩
  have hx5:=hsa.xr x (aa hx)
  refine .region<| .ix 1 (ha.x.ext s12.ext) rfl<| .lg 0 (ha.x.ext s12.ext) hx rfl<| .al 0 s12 rfl λ b3 _ s13 _ _=> ?_
  have s13:=s13.nn
  refine .sa 1 s13 2 rfl ((aG).one _) λ _ s14 _=> .nil<| .h<| .ld 1 s14 1 rfl<| .ix 1 (hb.x.ext s14.ext) rfl<| .lg 0 (hb.x.ext s14.ext) hy rfl<| .al 0 s14 rfl λ b4 _ s15 _ _=> .sa 0 s15 3 rfl ((aG).one _) λ _ s16 _=> ?_
  have s16:=s16.nn
  refine .nil<| .seq<| .md [0,1,2,3,7,8,9,78,79,124,125,126] rfl (λ K L' w'=>Weak ([(162,(.bool (decide ((((x.nm≠y.nm)\/((x.b:Int)≠(y.b:Int)))\/((x.e:Int)≠(y.e:Int)))\/(¬ (x.ps=y.ps))))))]++K) L'/\Sat w s16.L w') ?_ ?_
  ·refine .region<| .ld 1 s16 2 rfl<| .ld 1 s16 3 rfl<| .e rfl (.et rfl rfl)<| .z 1 rfl<| .B 141 rfl (λ g7=> ?_) λ g7=> ?_
   ·refine .Z rfl ?_
    exact ⟨⟨congrArg some (congrArg Value.bool (by simp [g7])),rfl,rfl,rfl,rfl,rfl,rfl,rfl,rfl,rfl,rfl,rfl,rfl,trivial⟩,s16⟩
   refine .ld 1 s16 2 rfl<| .ld 1 s16 3 rfl<| .a 0 rfl (.neq rfl rfl)<| .z 2 rfl<| .B 148 rfl (λ g8=> ?_) λ g8=> ?_
   ·refine .Z rfl ?_
    exact ⟨⟨congrArg some (congrArg Value.bool (by simp [g7,g8])),rfl,rfl,rfl,rfl,rfl,rfl,rfl,rfl,rfl,rfl,rfl,rfl,trivial⟩,s16⟩
   refine .ld 1 s16 2 rfl<| .ld 1 s16 3 rfl<| .a 0 rfl (.neq rfl rfl)<| .z 2 rfl<| .B 155 rfl (λ g9=> ?_) λ g9=> ?_
   ·refine .Z rfl ?_
    exact ⟨⟨congrArg some (congrArg Value.bool (by simp [g7,g8,g9])),rfl,rfl,rfl,rfl,rfl,rfl,rfl,rfl,rfl,rfl,rfl,rfl,trivial⟩,s16⟩
   refine .ld 1 s16 2 rfl<| .ld 1 s16 3 rfl<| .cp 0 s16 (vm _ _ (x.ps) (y.ps) _ ((ha.xr x (aa hx)).ext s16.ext) ((hb.xr y (aa hy)).ext s16.ext) (by omega)) rfl λ _ s17=> .a 0 rfl (.jz rfl)<| .Z rfl ?_
   exact ⟨⟨congrArg some (congrArg Value.bool (by simp [g7,g8,g9])),rfl,rfl,rfl,rfl,rfl,rfl,rfl,rfl,rfl,rfl,rfl,rfl,trivial⟩,s17⟩
  rintro L' w13 ⟨hw2,s18⟩
  refine .weaken _ hw2<| .ab rfl (λ c7=> ?_) λ c7=> ?_
  ·refine .Z rfl<| .aC rfl rfl ?_
   exact ⟨false,rfl,iff_of_false (by decide) (λ e=>Lf c7 (jd (congrArg mu.tx e) hx hy)),s18.pk []⟩
  refine .skip<| .U rfl ?_
  exact bc (kx+1) ⟨s18.pk [0,1],eK hX hx hy (Lg c7)⟩
 refine .ao<| .seq<| .seq ?_
 have eX:a.tx.map Iv.v=b.tx.map Iv.v:=rM hl3 hX (by omega)
 refine .region<| .ld 1 s12 0 rfl<| .ln 0 (ha.r.ext s12.ext) rfl<| .Z rfl<| .block<| .lq [0,1,2,3,78,79,124,125,126,165,166] rfl (α:=Nat) (λ kr=>[(167,(.int .i64 kr))]) (λ kr w'=>Sat w s12.L w'/\(∀ (j:Nat) s t,j<kr->a.rg[j]? =some s->b.rg[j]? =some t->s.v=t.v)) (λ kr=>a.rg.length-kr) 0 ⟨s12,λ j s t h=>absurd h (by omega)⟩ ?_
 rintro kr w14 ⟨s21,hR⟩
 refine .Z rfl<| .seq<| .ab rfl (λ c8=> ?_) λ c8=> ?_
 ·refine .skip<| .seq<| .block<| .seq ?_
  obtain ⟨x,hx⟩:∃ x,(a.rg)[kr]? =some x:=⟨_,getElem?_eq_getElem c8⟩
  obtain ⟨y,hy⟩:∃ y,(b.rg)[kr]? =some y:=⟨_,getElem?_eq_getElem (by omega)⟩
  have hx5:=hsa.rr x (aa hx)
  refine .region<| .ix 1 (ha.r.ext s21.ext) rfl<| .lg 0 (ha.r.ext s21.ext) hx rfl<| .al 0 s21 rfl λ b5 _ s22 _ _=> ?_
  have s22:=s22.nn
  refine .sa 1 s22 2 rfl ((aG).one _) λ _ s23 _=> .nil<| .h<| .ld 1 s23 1 rfl<| .ix 1 (hb.r.ext s23.ext) rfl<| .lg 0 (hb.r.ext s23.ext) hy rfl<| .al 0 s23 rfl λ b6 _ s24 _ _=> .sa 0 s24 3 rfl ((aG).one _) λ _ s25 _=> ?_
  have s25:=s25.nn
  refine .nil<| .seq<| .md [0,1,2,3,10,11,12,78,79,124,125,126,165,166,167] rfl (λ K L' w'=>Weak ([(203,(.bool (decide ((((x.nm≠y.nm)\/((x.b:Int)≠(y.b:Int)))\/((x.e:Int)≠(y.e:Int)))\/(¬ (x.ps=y.ps))))))]++K) L'/\Sat w s25.L w') ?_ ?_
  ·refine .region<| .ld 1 s25 2 rfl<| .ld 1 s25 3 rfl<| .e rfl (.et rfl rfl)<| .z 1 rfl<| .B 182 rfl (λ g10=> ?_) λ g10=> ?_
   ·refine .Z rfl ?_
    exact ⟨⟨congrArg some (congrArg Value.bool (by simp [g10])),rfl,rfl,rfl,rfl,rfl,rfl,rfl,rfl,rfl,rfl,rfl,rfl,rfl,rfl,rfl,trivial⟩,s25⟩
   refine .ld 1 s25 2 rfl<| .ld 1 s25 3 rfl<| .a 0 rfl (.neq rfl rfl)<| .z 2 rfl<| .B 189 rfl (λ g11=> ?_) λ g11=> ?_
   ·refine .Z rfl ?_
    exact ⟨⟨congrArg some (congrArg Value.bool (by simp [g10,g11])),rfl,rfl,rfl,rfl,rfl,rfl,rfl,rfl,rfl,rfl,rfl,rfl,rfl,rfl,rfl,trivial⟩,s25⟩
   refine .ld 1 s25 2 rfl<| .ld 1 s25 3 rfl<| .a 0 rfl (.neq rfl rfl)<| .z 2 rfl<| .B 196 rfl (λ g12=> ?_) λ g12=> ?_
   ·refine .Z rfl ?_
    exact ⟨⟨congrArg some (congrArg Value.bool (by simp [g10,g11,g12])),rfl,rfl,rfl,rfl,rfl,rfl,rfl,rfl,rfl,rfl,rfl,rfl,rfl,rfl,rfl,trivial⟩,s25⟩
   refine .ld 1 s25 2 rfl<| .ld 1 s25 3 rfl<| .cp 0 s25 (vm _ _ (x.ps) (y.ps) _ ((ha.rr x (aa hx)).ext s25.ext) ((hb.rr y (aa hy)).ext s25.ext) (by omega)) rfl λ _ s26=> .a 0 rfl (.jz rfl)<| .Z rfl ?_
   exact ⟨⟨congrArg some (congrArg Value.bool (by simp [g10,g11,g12])),rfl,rfl,rfl,rfl,rfl,rfl,rfl,rfl,rfl,rfl,rfl,rfl,rfl,rfl,rfl,trivial⟩,s26⟩
  rintro L' w20 ⟨hw3,s27⟩
  refine .weaken _ hw3<| .ab rfl (λ c9=> ?_) λ c9=> ?_
  ·refine .Z rfl<| .aC rfl rfl ?_
   exact ⟨false,rfl,iff_of_false (by decide) (λ e=>Lf c9 (jd (congrArg mu.rg e) hx hy)),s27.pk []⟩
  refine .skip<| .U rfl ?_
  exact bc (kr+1) ⟨s27.pk [0,1],eK hR hx hy (Lg c9)⟩
 refine .ao<| .seq<| .seq ?_
 have eR:a.rg.map Iv.v=b.rg.map Iv.v:=rM hl4 hR (by omega)
 refine .region<| .ld 1 s21 0 rfl<| .ln 0 (ha.n.ext s21.ext) rfl<| .Z rfl<| .block<| .lq [0,1,2,3,78,79,124,125,126,165,166,167,207] rfl (α:=Nat) (λ kn=>[(208,(.int .i64 kn))]) (λ kn w'=>Sat w s21.L w'/\(∀ (j:Nat) s t,j<kn->a.nd[j]? =some s->b.nd[j]? =some t->s=t)) (λ kn=>a.nd.length-kn) 0 ⟨s21,λ j s t h=>absurd h (by omega)⟩ ?_
 rintro kn w21 ⟨s30,hN⟩
 refine .Z rfl<| .seq<| .ab rfl (λ c10=> ?_) λ c10=> ?_
 ·refine .skip<| .seq<| .block<| .seq ?_
  obtain ⟨x,hx⟩:∃ x,(a.nd)[kn]? =some x:=⟨_,getElem?_eq_getElem c10⟩
  obtain ⟨y,hy⟩:∃ y,(b.nd)[kn]? =some y:=⟨_,getElem?_eq_getElem (by omega)⟩
  refine .U rfl<| .seq<| .dk [0,1] s30 rfl (pl [0,1,2,3,4,5,6,7,8,9,10] .fin) λ s31 S3=> .ld 1 S3 0 rfl<| .ix 1 S3 (ha.n.ext ·.ext) rfl<| .lg 0 S3 (ha.n.ext ·.ext) hx rfl<| .ld 1 S3 1 rfl<| .ix 1 S3 (hb.n.ext ·.ext) rfl<| .lg 0 S3 (hb.n.ext ·.ext) hy rfl<| .e rfl (λ _ hS=> .Nl (a:=x) (b:=y) M9 Iz rfl rfl) S3<| .fin<| .ab rfl (λ c11=> ?_) λ c11=> ?_
  ·refine .Z rfl<| .aC rfl rfl ?_
   exact ⟨false,rfl,iff_of_false (by decide) (λ e=>c11 (get_eq (congrArg mu.nd e) hx hy)),s31.pk []⟩
  refine .skip<| .U rfl ?_
  exact bc (kn+1) ⟨s31,eK hN hx hy (Decidable.not_not.1 c11)⟩
 refine .ao<| .seq<| .seq ?_
 have eN:a.nd=b.nd:=kP hl5 hN (by omega)
 refine .region<| .ld 1 s30 0 rfl<| .ln 0 (ha.h.ext s30.ext) rfl<| .Z rfl<| .block<| .lq [0,1,2,3,78,79,124,125,126,165,166,167,207,208,225] rfl (α:=Nat) (λ kh=>[(226,(.int .i64 kh))]) (λ kh w'=>Sat w s30.L w'/\(∀ (j:Nat) s t,j<kh->a.hd[j]? =some s->b.hd[j]? =some t->s=t)) (λ kh=>a.hd.length-kh) 0 ⟨s30,λ j s t h=>absurd h (by omega)⟩ ?_
 rintro kh w22 ⟨s33,hH⟩
 refine .Z rfl<| .seq<| .ab rfl (λ c12=> ?_) λ c12=> ?_
 ·refine .skip<| .seq<| .block<| .seq ?_
  obtain ⟨x,hx⟩:∃ x,(a.hd)[kh]? =some x:=⟨_,getElem?_eq_getElem c12⟩
  obtain ⟨y,hy⟩:∃ y,(b.hd)[kh]? =some y:=⟨_,getElem?_eq_getElem (by omega)⟩
  refine .U rfl<| .seq<| .dk [0,1] s33 rfl (pl [0,1,2,3,4,5,6,7,8,9,10] .fin) λ s34 S4=> .ld 1 S4 0 rfl<| .ix 1 S4 (ha.h.ext ·.ext) rfl<| .le 0 S4 (ha.h.ext ·.ext) hx rfl<| .ld 1 S4 1 rfl<| .ix 1 S4 (hb.h.ext ·.ext) rfl<| .le 0 S4 (hb.h.ext ·.ext) hy rfl<| .e rfl (λ _ hS=> .neq rfl rfl) S4<| .fin<| .ab rfl (λ c13=> ?_) λ c13=> ?_
  ·refine .Z rfl<| .aC rfl rfl ?_
   exact ⟨false,rfl,iff_of_false (by decide) (λ e=>c13 (get_eq (congrArg mu.hd e) hx hy)),s34.pk []⟩
  refine .skip<| .U rfl ?_
  exact bc (kh+1) ⟨s34,eK hH hx hy (Decidable.not_not.1 c13)⟩
 refine .ao<| .seq<| .seq ?_
 have eH:a.hd=b.hd:=kP hl6 hH (by omega)
 refine .region<| .ld 1 s33 0 rfl<| .ln 0 (ha.l.ext s33.ext) rfl<| .Z rfl<| .block<| .lq [0,1,2,3,78,79,124,125,126,165,166,167,207,208,225,226,243] rfl (α:=Nat) (λ kl=>[(244,(.int .i64 kl))]) (λ kl w'=>Sat w s33.L w'/\(∀ (j:Nat) s t,j<kl->a.rl[j]? =some s->b.rl[j]? =some t->s=t)) (λ kl=>a.rl.length-kl) 0 ⟨s33,λ j s t h=>absurd h (by omega)⟩ ?_
 rintro kl w23 ⟨s36,hL⟩
 refine .Z rfl<| .seq<| .ab rfl (λ c14=> ?_) λ c14=> ?_
 ·refine .skip<| .seq<| .block<| .seq ?_
  obtain ⟨x,hx⟩:∃ x,(a.rl)[kl]? =some x:=⟨_,getElem?_eq_getElem c14⟩
  obtain ⟨y,hy⟩:∃ y,(b.rl)[kl]? =some y:=⟨_,getElem?_eq_getElem (by omega)⟩
  refine .U rfl<| .seq<| .dk [0,1] s36 rfl (pl [0,1,2,3,4,5,6,7,8,9,10] .fin) λ s37 S5=> .ld 1 S5 0 rfl<| .ix 1 S5 (ha.l.ext ·.ext) rfl<| .le 0 S5 (ha.l.ext ·.ext) hx rfl<| .ld 1 S5 1 rfl<| .ix 1 S5 (hb.l.ext ·.ext) rfl<| .le 0 S5 (hb.l.ext ·.ext) hy rfl<| .e rfl (λ _ hS=> .et rfl rfl) S5<| .fin<| .ab rfl (λ c15=> ?_) λ c15=> ?_
  ·refine .Z rfl<| .aC rfl rfl ?_
   exact ⟨false,rfl,iff_of_false (by decide) (λ e=>c15 (get_eq (congrArg mu.rl e) hx hy)),s37.pk []⟩
  refine .skip<| .U rfl ?_
  exact bc (kl+1) ⟨s37,eK hL hx hy (Decidable.not_not.1 c15)⟩
 refine .ao<| .Z rfl<| .aC rfl rfl ?_
 exact ⟨true,rfl,iff_of_true rfl (show mu.mk _ _ _ _ _ _ _=_ by rw [eA,eT,eX,eR,eN,eH,kP hl7 hL (by omega)]<;>rfl),s36.pk []⟩
theorem Dl (v:Value) (l:List (ByteArray×Bool)) (w:World) (hv:RdL w v bU l) (h:atsOk l):
  CallsV prog 85 [v] w λ r w'=>r= .tuple #[.int .i64 ((0:Nat):Int),.int .i64 ((0:Nat):Int)]/\Sat w [] w':=by
 have hat:=h.2
 have hs0:=Sat.start w
 refine ae func85 rfl rfl ?_
 refine .Z rfl<| .seq<| .h<| .ln 1 (hv.ext hs0.ext) rfl<| .Z rfl<| .ak rfl (decide_eq_false (by omega))<| .skip<| .seq<| .h<| .ln 1 (hv.ext hs0.ext) rfl<| .Z rfl<| .ak rfl (decide_eq_false (by omega))<| .skip<| .seq<| .h<| .ln 1 (hv.ext hs0.ext) rfl<| .Z rfl<| .block<| .lq [0,14,15] rfl (α:=Nat) (λ k=>[(16,(.int .i64 k))]) (λ k w'=>Sat w [] w') (λ k=>l.length-k) 0 hs0 ?_
 rintro k w1 s1
 refine .Z rfl<| .seq<| .ab rfl (λ c1=> ?_) λ c1=> ?_
 ·refine .skip<| .seq<| .block<| .seq ?_
  obtain ⟨x,hx⟩:∃ x,(l)[k]? =some x:=⟨_,getElem?_eq_getElem c1⟩
  refine .region<| .ix 1 (hv.ext s1.ext) rfl<| .lg 0 (hv.ext s1.ext) hx rfl<| .al 0 s1 rfl λ b1 _ s2 _ _=> .sa 1 s2 0 rfl ((bU).one _) λ _ s3 _=> .nil<| .seq<| .h<| .ld 1 s3 0 rfl<| .cq 0 s3 (dL x.1 _) rfl λ _ s4=> .e rfl (.cB rfl)<| .nil<| .ak rfl (by simp [(h.1 k x hx).1])<| .skip<| .h<| .a 2 rfl (.bk (E:=bU) (a:=0) (c:=k) BL rfl (hv.ext s4.ext) rfl ⟨_,rfl⟩ (Nat.zero_le _) (by omega))<| .ln 0 (((hv.ext s4.ext)).sub (a:=0) (b:=k) (Nat.zero_le _) (by omega)) rfl<| .Z rfl<| .block<| .lq [0,4,5,14,15,16,28,29] rfl (α:=Nat) (λ j=>[(30,(.int .i64 j))]) (λ j w'=>Sat w s4.L w') (λ j=>(((l).take k).drop 0).length-j) 0 s4 ?_
  rintro j w5 s5
  refine .Z rfl<| .seq<| .ab rfl (λ c2=> ?_) λ c2=> ?_
  ·refine .skip<| .seq<| .block<| .seq ?_
   obtain ⟨y,hy⟩:∃ y,(((l).take k).drop 0)[j]? =some y:=⟨_,getElem?_eq_getElem c2⟩
   have hjl:(((l).take k).drop 0).length<=8:=by simp;omega
   refine .region<| .ix 0 (((hv.ext s5.ext)).sub (a:=0) (b:=k) (Nat.zero_le _) (by omega)) rfl<| .lg 0 (((hv.ext s5.ext)).sub (a:=0) (b:=k) (Nat.zero_le _) (by omega)) hy rfl<| .al 0 s5 rfl λ b2 _ s6 _ _=> .sa 0 s6 1 rfl ((bU).one _) λ _ s7 _=> .nil<| .h<| .ld 1 s7 0 rfl<| .ld 1 s7 1 rfl<| .e rfl (.fh rfl rfl)<| .nil<| .ak rfl (decide_eq_false (λ e=>Mp h hx hy e.symm))<| .skip<| .U rfl ?_
   exact bc (j+1) (s7.pk [0])
  refine .ao<| .U rfl ?_
  exact bc (k+1) (s5.pk [])
 refine .ao<| .Z rfl<| .bG rfl rfl rfl ?_
 exact ⟨rfl,s1.pk []⟩
theorem Aw (c:Co) (n:Nat) (w:World) (hr:RdC w c) (ho:OkC n c) (hn:n<=3):
  CallsV prog 86 [(.agg #[c.va,c.vt,c.vx,c.vr,c.vn,c.vh,c.vl])] w λ r w'=>r= .tuple #[.int .i64 ((0:Nat):Int),.int .i64 ((0:Nat):Int)]/\Sat w [] w':=by
 have htk:=ho.ntk
 have htx:=ho.ntx
 have hrg:=ho.nrg
 have hnd:=ho.nnd
 have hat:=ho.at_.2
 have hs0:=Sat.start w
 refine ae func86 rfl rfl ?_
 refine .h<| .bx 0 hs0 rfl λ b1 _ s1 _ _=> .Z rfl<| .seq<| .h<| .ld 1 s1 0 rfl<| .ln 0 (hr.t.ext s1.ext) rfl<| .Z rfl<| .ak rfl (decide_eq_false (by omega))<| .skip<| .seq<| .h<| .ld 1 s1 0 rfl<| .ln 0 (hr.t.ext s1.ext) rfl<| .Z rfl<| .block<| .lq [0,1,14,15] rfl (α:=Nat) (λ k=>[(16,(.int .i64 k))]) (λ k w'=>Sat w s1.L w') (λ k=>c.tk.length-k) 0 s1 ?_
 rintro k w2 s2
 refine .Z rfl<| .seq<| .ab rfl (λ c1=> ?_) λ c1=> ?_
 ·refine .skip<| .seq<| .block<| .seq ?_
  obtain ⟨x,hx⟩:∃ x,(c.tk)[k]? =some x:=⟨_,getElem?_eq_getElem c1⟩
  have htl:=(ho.tk x (aa hx)).1
  refine .region<| .ix 1 (hr.t.ext s2.ext) rfl<| .le 0 (hr.t.ext s2.ext) hx rfl<| .Z rfl<| .seq<| .h<| .ln 1 ((hr.tr _ (aa hx)).ext s2.ext) rfl<| .ld 1 s2 0 rfl<| .ln 0 (hr.a.ext s2.ext) rfl<| .Z rfl<| .ak rfl (decide_eq_false (λ h=>h (ho.tk x (aa hx)).1))<| .skip<| .h<| .ln 1 ((hr.tr _ (aa hx)).ext s2.ext) rfl<| .Z rfl<| .block<| .lq [0,1,4,5,14,15,16,28,29] rfl (α:=Nat) (λ j=>[(30,(.int .i64 j))]) (λ j w'=>Sat w s2.L w') (λ j=>x.ns.length-j) 0 s2 ?_
  rintro j w3 s3
  refine .Z rfl<| .seq<| .ab rfl (λ c2=> ?_) λ c2=> ?_
  ·refine .skip<| .seq<| .block<| .seq ?_
   obtain ⟨v,hv⟩:∃ v,(x.ns)[j]? =some v:=⟨_,getElem?_eq_getElem c2⟩
   obtain ⟨a,ha⟩:∃ a,c.at_[j]? =some a:=⟨_,getElem?_eq_getElem (by omega)⟩
   refine .region<| .ix 1 ((hr.tr _ (aa hx)).ext s3.ext) rfl<| .le 0 ((hr.tr _ (aa hx)).ext s3.ext) hv rfl<| .Z rfl<| .h<| .ld 1 s3 0 rfl<| .ix 1 (hr.a.ext s3.ext) rfl<| .lg 0 (hr.a.ext s3.ext) ha rfl<| .cp 1 s3 (Ay a v _ ((ho.tk x (aa hx)).2 j v a hv ha)) rfl λ _ s4=> .Z rfl<| .Z rfl<| .ak rfl (rfl)<| .skip<| .U rfl ?_
   exact bc (j+1) s4
  refine .ao<| .U rfl ?_
  exact bc (k+1) s3
 refine .ao<| .Z rfl<| .bG rfl rfl rfl ?_
 exact ⟨rfl,s2.pk []⟩
theorem Dm (c:Co) (n:Nat) (w:World) (hr:RdC w c) (ho:OkC n c) (hn:n<=3):
  CallsV prog 87 [(.agg #[c.va,c.vt,c.vx,c.vr,c.vn,c.vh,c.vl])] w λ r w'=>r= .tuple #[.int .i64 ((0:Nat):Int),.int .i64 ((0:Nat):Int)]/\Sat w [] w':=by
 have htk:=ho.ntk
 have htx:=ho.ntx
 have hrg:=ho.nrg
 have hnd:=ho.nnd
 have hat:=ho.at_.2
 have hs0:=Sat.start w
 refine ae func87 rfl rfl ?_
 refine .h<| .bx 0 hs0 rfl λ b1 _ s1 _ _=> .Z rfl<| .h<| .ld 1 s1 0 rfl<| .ln 0 (hr.t.ext s1.ext) rfl<| .Z rfl<| .seq<| .h<| .ld 1 s1 0 rfl<| .ln 0 (hr.x.ext s1.ext) rfl<| .Z rfl<| .ak rfl (decide_eq_false (by omega))<| .skip<| .seq<| .h<| .ld 1 s1 0 rfl<| .ln 0 (hr.x.ext s1.ext) rfl<| .a 3 rfl (.P3 underlying4 rfl rfl)<| .nil<| .ak rfl (ho.tx.lens)<| .skip<| .Z rfl<| .seq<| .h<| .ld 1 s1 0 rfl<| .ln 0 (hr.x.ext s1.ext) rfl<| .Z rfl<| .block<| .lq [0,1,4,26,27] rfl (α:=Nat×Int) (λ (k,en)=>[(5,(.int .i64 (en))),(28,(.int .i64 k))]) (λ (k,en) w'=>Sat w s1.L w'/\(∀ x,c.tx[k]? =some x->x.b=en)) (λ (k,en)=>c.tx.length-k) (0,0) ⟨s1,ho.tx.first⟩ ?_
 rintro ⟨k,en⟩ w2 ⟨s2,hen⟩
 refine .Z rfl<| .seq<| .ab rfl (λ c1=> ?_) λ c1=> ?_
 ·refine .skip<| .seq<| .block<| .seq ?_
  obtain ⟨x,hx⟩:∃ x,(c.tx)[k]? =some x:=⟨_,getElem?_eq_getElem c1⟩
  have hxo:=ho.tx.nm x (aa hx)
  refine .region<| .ix 1 (hr.x.ext s2.ext) rfl<| .lg 0 (hr.x.ext s2.ext) hx rfl<| .al 0 s2 rfl λ b2 _ s3 _ _=> .sa 1 s3 1 rfl ((aG).one _) λ _ s4 _=> ?_
  have s4:=s4.nn
  refine .nil<| .seq<| .h<| .ld 1 s4 1 rfl<| .cp 0 s4 (dL x.nm _) rfl λ _ s5=> .e rfl (.cB rfl)<| .nil<| .ak rfl (by simp [hxo.1])<| .skip<| .seq<| .h<| .ld 1 s5 0 rfl<| .a 1 rfl (.bk (E:=aG) (a:=0) (c:=k) uk rfl (hr.x.ext s5.ext) rfl ⟨_,rfl⟩ (Nat.zero_le _) (by omega))<| .ln 0 (((hr.x.ext s5.ext)).sub (a:=0) (b:=k) (Nat.zero_le _) (by omega)) rfl<| .Z rfl<| .block<| .lq [0,1,4,5,6,7,26,27,28,41,42] rfl (α:=Nat) (λ j=>[(43,(.int .i64 j))]) (λ j w'=>Sat w s5.L w') (λ j=>(((c.tx).take k).drop 0).length-j) 0 s5 ?_
  rintro j w6 s6
  refine .Z rfl<| .seq<| .ab rfl (λ c2=> ?_) λ c2=> ?_
  ·refine .skip<| .seq<| .block<| .seq ?_
   obtain ⟨y,hy⟩:∃ y,(((c.tx).take k).drop 0)[j]? =some y:=⟨_,getElem?_eq_getElem c2⟩
   have hjl:(((c.tx).take k).drop 0).length<=3:=by simp;omega
   refine .region<| .ix 0 (((hr.x.ext s6.ext)).sub (a:=0) (b:=k) (Nat.zero_le _) (by omega)) rfl<| .lg 0 (((hr.x.ext s6.ext)).sub (a:=0) (b:=k) (Nat.zero_le _) (by omega)) hy rfl<| .al 0 s6 rfl λ b3 _ s7 _ _=> .sa 0 s7 2 rfl ((aG).one _) λ _ s8 _=> ?_
   have s8:=s8.nn
   refine .nil<| .h<| .ld 1 s8 2 rfl<| .ld 1 s8 1 rfl<| .e rfl (.fh rfl rfl)<| .nil<| .ak rfl (decide_eq_false (ho.tx.nd k j x y hx (tQ hy).2 (tQ hy).1))<| .skip<| .U rfl ?_
   exact bc (j+1) (s8.pk [0,1])
  refine .ao<| .seq<| .seq<| .bH 84 (((((x.b:Int)≠(en:Int))\/((x.e:Int)<=(x.b:Int)))\/(((c.tk.length:Nat):Int)<(x.e:Int)))\/((k=(c.tx.length-1))/\((x.e:Int)≠((c.tk.length:Nat):Int)))) ?_ ?_
  ·refine .ld 1 s6 1 rfl<| .a 1 rfl (.neq rfl rfl)<| .z 1 rfl<| .B 58 rfl (λ g1=> ?_) λ g1=> ?_
   ·refine .M rfl (by simp [g1])
   refine .ld 1 s6 1 rfl<| .ld 1 s6 1 rfl<| .a 0 rfl (.leq rfl rfl)<| .z 2 rfl<| .B 65 rfl (λ g2=> ?_) λ g2=> ?_
   ·refine .M rfl (by simp [g1,g2])
   refine .ld 1 s6 1 rfl<| .a 1 rfl (.gtr rfl rfl)<| .z 2 rfl<| .B 71 rfl (λ g3=> ?_) λ g3=> ?_
   ·refine .M rfl (by simp [g1,g2,g3])
   refine .ld 2 s6 0 rfl<| .ln 0 (hr.x.ext s6.ext) rfl<| .z 3 rfl<| .B 78 rfl (λ g4=> ?_) λ g4=> ?_
   ·refine .ld 1 s6 1 rfl<| .a 1 rfl (.neq rfl rfl)<| .M rfl (by simp [g1,g2,g3,g4])
   refine .M rfl (by simp [g1,g2,g3,g4])
  refine .ak rfl (decide_eq_false (λ h=>h.elim (λ h=>h.elim (λ h=>h.elim (λ h=>h (hen x hx)) (λ h=>by omega)) (λ h=>by omega)) (λ h=>h.2 (ho.tx.last k x hx (by omega)))))<| .skip<| .seq<| .h<| .ld 1 s6 1 rfl<| .cp 0 s6 (vu _ (x.ps) _ ((hr.xr _ (aa hx)).ext s6.ext) (hxo.2.1)) rfl λ _ s10=> .Z rfl<| .Z rfl<| .ak rfl (rfl)<| .skip<| .region<| .ld 1 s10 1 rfl<| .Z rfl<| .U rfl ?_
  exact bc (k+1,x.e) ⟨s10.pk [0],λ y hy=>ho.tx.next k x y hx hy⟩
 refine .ao<| .Z rfl<| .bG rfl rfl rfl ?_
 exact ⟨rfl,s2.pk []⟩
theorem vq (c:Co) (b e:Int) (w:World) (hr:RdC w c) (n:Nat) (ho:OkC n c) (hn:n<=3) (hin:inT c.tx b e):
  CallsV prog 137 [(.agg #[c.va,c.vt,c.vx,c.vr,c.vn,c.vh,c.vl]),(.int .i64 (b)),(.int .i64 (e))] w λ r w'=>r= .bool true/\Sat w [] w':=by
 have htx:=ho.ntx
 obtain ⟨t,ht,ht1,ht2,ht3⟩:=hin
 obtain ⟨m,hm⟩:=getElem?_of_mem ht
 have hml:=(List.getElem?_eq_some_iff.1 hm).1
 have hs0:=Sat.start w
 refine ae func137 rfl rfl ?_
 refine .h<| .bx 0 hs0 rfl λ b1 _ s1 _ _=> .Z rfl<| .seq<| .h<| .ld 1 s1 0 rfl<| .ln 0 (hr.x.ext s1.ext) rfl<| .Z rfl<| .block<| .lq [0,1,2,3,10,11] rfl (α:=Nat) (λ k=>[(12,(.int .i64 k))]) (λ k w'=>Sat w s1.L w'/\(∀ (j:Nat) t,j<k->c.tx[j]? =some t->¬ ((t.b<=b/\b<e)/\e<=t.e))) (λ k=>c.tx.length-k) 0 ⟨s1,λ j t h=>absurd h (by omega)⟩ ?_
 rintro k w2 ⟨s2,hno⟩
 refine .Z rfl<| .seq<| .ab rfl (λ c1=> ?_) λ c1=> ?_
 ·refine .skip<| .seq<| .block<| .seq ?_
  obtain ⟨x,hx⟩:∃ x,(c.tx)[k]? =some x:=⟨_,getElem?_eq_getElem c1⟩
  refine .region<| .ix 0 (hr.x.ext s2.ext) rfl<| .lg 0 (hr.x.ext s2.ext) hx rfl<| .al 0 s2 rfl λ b2 _ s3 _ _=> .sa 0 s3 1 rfl ((aG).one _) λ _ s4 _=> ?_
  have s4:=s4.nn
  refine .nil<| .seq<| .bH 30 ((((x.b:Int)<=(b:Int))/\((b:Int)<(e:Int)))/\((e:Int)<=(x.e:Int))) ?_ ?_
  ·refine .ld 1 s4 1 rfl<| .a 1 rfl (.leq rfl rfl)<| .z 1 rfl<| .B 20 rfl (λ g1=> ?_) λ g1=> ?_
   ·refine .a 2 rfl (.lss rfl rfl)<| .z 2 rfl<| .B 25 rfl (λ g2=> ?_) λ g2=> ?_
    ·refine .ld 2 s4 1 rfl<| .a 0 rfl (.leq rfl rfl)<| .M rfl (by simp [g1,g2])
    refine .M rfl (by simp [g1,g2])
   refine .M rfl (by simp [g1])
  refine .ab rfl (λ c2=> ?_) λ c2=> ?_
  ·refine .Z rfl<| .aC rfl rfl ?_
   exact ⟨rfl,s4.pk []⟩
  refine .skip<| .U rfl ?_
  exact bc (k+1) ⟨s4.pk [0],iF hno hx c2⟩
 refine .ao<| .Z rfl<| .aC rfl rfl ?_
 have s7:=s2.pk []
 exact absurd ⟨⟨ht1,ht2⟩,ht3⟩ (hno m t (by omega) hm)
theorem y7 (c:Co) (n:Nat) (w:World) (hr:RdC w c) (ho:OkC n c) (hn:n<=3):
  CallsV prog 88 [(.agg #[c.va,c.vt,c.vx,c.vr,c.vn,c.vh,c.vl])] w λ r w'=>r= .tuple #[.int .i64 ((0:Nat):Int),.int .i64 ((0:Nat):Int)]/\Sat w [] w':=by
 have htk:=ho.ntk
 have htx:=ho.ntx
 have hrg:=ho.nrg
 have hnd:=ho.nnd
 have hat:=ho.at_.2
 have hs0:=Sat.start w
 refine ae func88 rfl rfl ?_
 refine .h<| .bx 0 hs0 rfl λ b1 _ s1 _ _=> .Z rfl<| .seq<| .h<| .ld 1 s1 0 rfl<| .ln 0 (hr.r.ext s1.ext) rfl<| .Z rfl<| .ak rfl (decide_eq_false (by omega))<| .skip<| .seq<| .h<| .ld 1 s1 0 rfl<| .ln 0 (hr.r.ext s1.ext) rfl<| .Z rfl<| .block<| .lq [0,1,15,16] rfl (α:=Nat) (λ k=>[(17,(.int .i64 k))]) (λ k w'=>Sat w s1.L w') (λ k=>c.rg.length-k) 0 s1 ?_
 rintro k w2 s2
 refine .Z rfl<| .seq<| .ab rfl (λ c1=> ?_) λ c1=> ?_
 ·refine .skip<| .seq<| .block<| .seq ?_
  obtain ⟨x,hx⟩:∃ x,(c.rg)[k]? =some x:=⟨_,getElem?_eq_getElem c1⟩
  have hxo:=ho.rg.el x (aa hx)
  refine .region<| .ix 1 (hr.r.ext s2.ext) rfl<| .lg 0 (hr.r.ext s2.ext) hx rfl<| .al 0 s2 rfl λ b2 _ s3 _ _=> .sa 1 s3 1 rfl ((aG).one _) λ _ s4 _=> ?_
  have s4:=s4.nn
  refine .nil<| .seq<| .block<| .h<| .ld 1 s4 1 rfl<| .cp 0 s4 (dL x.nm _) rfl λ _ s5=> .e rfl (.cB rfl)<| .Z rfl<| .ak rfl (by simp [hxo.1])<| .h<| .lo 0 s5 0 rfl<| .ld 1 s5 1 rfl<| .ld 1 s5 1 rfl<| .cp 0 s5 (vq c (x.b) (x.e) _ (hr.ext s5.ext) _ ho hn (hxo.2.1)) rfl λ _ s6=> .Z rfl<| .ak rfl (rfl)<| .skip<| .seq<| .h<| .ld 1 s6 1 rfl<| .cq 0 s6 (vu _ (x.ps) _ ((hr.rr _ (aa hx)).ext s6.ext) (hxo.2.2)) rfl λ _ s7=> .Z rfl<| .Z rfl<| .ak rfl (rfl)<| .skip<| .seq<| .seq ?_
  obtain ⟨y,hy⟩:=rj hx
  refine .md [0,1,4,5,6,15,16,17] rfl (λ K L' w'=>Weak ([(56,(.bool (decide ((0<k)/\((0:Int)<((ea y x):Int))))))]++K) L'/\Sat w s7.L w') ?_ ?_
  ·refine .dk [0,1] s7 rfl (pl [0,1,2,3,4,5,6,7,8,9,1010,11,12] .fin) λ s8 S1=> .z 3 S1 rfl<| .B 46 rfl (λ g1=> ?_) λ g1=> ?_
   ·refine .ld 1 S1 0 rfl<| .ix 2 S1 (hr.r.ext ·.ext) rfl<| .lg 0 S1 (hr.r.ext ·.ext) (hy (by omega)) rfl<| .a 0 S1 rfl (λ _ s=> .eV zX rfl s (i:=1) rfl rfl)<| .c 0 S1 (y8 y x _ ((hr.rr _ (aa (hy (by omega)))).ext s8.ext) ((hr.rr _ (aa hx)).ext s8.ext) (by have:=(ho.rg.el y (aa (hy (by omega)))).2.2.1;omega) (by have:=hxo.2.2.1;omega)) rfl λ r4 _ h4=> ?_
    obtain ⟨rfl,p4⟩:=h4
    have s9:=s8.aD p4
    have S2:=s9.pk [0,1]
    refine ⟨S2,?_⟩
    refine .a 0 S2 rfl (λ _ s=> .gtr rfl rfl)<| .Z S2 rfl ?_
    exact ⟨⟨congrArg some (congrArg Value.bool (by simp [g1])),rfl,rfl,rfl,rfl,rfl,rfl,rfl,rfl,trivial⟩,s9⟩
   refine .Z S1 rfl ?_
   exact ⟨⟨congrArg some (congrArg Value.bool (by simp [g1])),rfl,rfl,rfl,rfl,rfl,rfl,rfl,rfl,trivial⟩,s8⟩
  rintro L' w9 ⟨hw1,s10⟩
  refine .weaken _ hw1<| .ak rfl (decide_eq_false (λ h=>by have:=ho.rg.asc (k-1) y x (hy h.1) (by rw [show k-1+1=k by omega];exact hx);omega))<| .skip<| .Z rfl<| .seq<| .h<| .ld 1 s10 0 rfl<| .a 2 rfl (.bk (E:=aG) (a:=0) (c:=(k+1)) oE rfl (hr.r.ext s10.ext) rfl ⟨_,rfl⟩ (Nat.zero_le _) (by omega))<| .ln 0 (((hr.r.ext s10.ext)).sub (a:=0) (b:=(k+1)) (Nat.zero_le _) (by omega)) rfl<| .Z rfl<| .block ?_
  have hjl:(((c.rg).take (k+1)).drop 0).length<=24:=by simp;omega
  refine .lq [0,1,4,5,6,15,16,17,62,63] rfl (α:=Nat×Nat) (λ (j,d)=>[(7,(.int .i64 d)),(64,(.int .i64 j))]) (λ (j,d) w'=>Sat w s10.L w'/\(d<=j)/\(j<=(((c.rg).take (k+1)).drop 0).length)) (λ (j,d)=>(((c.rg).take (k+1)).drop 0).length-j) (0,0) ⟨s10,Nat.le_refl _,Nat.zero_le _⟩ ?_
  rintro ⟨j,d⟩ w10 ⟨s11,hd,hjo⟩
  refine .Z rfl<| .seq<| .ab rfl (λ c2=> ?_) λ c2=> ?_
  ·refine .skip<| .seq<| .block<| .seq ?_
   obtain ⟨z,hz⟩:∃ z,(((c.rg).take (k+1)).drop 0)[j]? =some z:=⟨_,getElem?_eq_getElem c2⟩
   refine .region<| .ix 1 (((hr.r.ext s11.ext)).sub (a:=0) (b:=(k+1)) (Nat.zero_le _) (by omega)) rfl<| .lg 0 (((hr.r.ext s11.ext)).sub (a:=0) (b:=(k+1)) (Nat.zero_le _) (by omega)) hz rfl<| .al 0 s11 rfl λ b3 _ s12 _ _=> .sa 1 s12 2 rfl ((aG).one _) λ _ s13 _=> .nil<| .jn [0,1,4,5,6,8,9,15,16,17,62,63,64] rfl (λ K L' w'=>∃ (d2:Nat),Weak ([(7,(.int .i64 d2))]++K) L'/\Sat w s13.L w'/\(d2<=j+1)) ?_ ?_
   ·refine .seq<| .bH 80 (((z.b:Int)<=(x.b:Int))/\((x.b:Int)<(z.e:Int))) ?_ ?_
    ·refine .ld 1 s13 2 rfl<| .ld 1 s13 1 rfl<| .e rfl (.leq rfl rfl)<| .z 1 rfl<| .B 74 rfl (λ g2=> ?_) λ g2=> ?_
     ·refine .ld 1 s13 1 rfl<| .ld 1 s13 2 rfl<| .a 0 rfl (.lss rfl rfl)<| .M rfl (by simp [g2])
     refine .M rfl (by simp [g2])
    refine .ab rfl (λ c3=> ?_) λ c3=> ?_
    ·refine .U rfl ?_
     exact ⟨(d+1),(wk rfl),s13,by omega⟩
    refine .skip ?_
    exact ⟨d,(wk rfl),s13,by omega⟩
   rintro L' w13 ⟨d2,hw2,s14,hd2⟩
   refine .weaken _ hw2<| .seq<| .bH 136 ((((((j<k)/\(z.nm=x.nm))/\((z.b:Int)<(x.e:Int)))/\((x.b:Int)<(z.e:Int)))/\(¬ (((z.b:Int)<=(x.b:Int))/\((x.e:Int)<=(z.e:Int)))))/\(¬ (((x.b:Int)<=(z.b:Int))/\((z.e:Int)<=(x.e:Int))))) ?_ ?_
   ·refine .z 4 rfl<| .B 86 rfl (λ g3=> ?_) λ g3=> ?_
    ·refine .ld 1 s14 2 rfl<| .ld 1 s14 1 rfl<| .a 0 rfl (.fh rfl rfl)<| .z 2 rfl<| .B 93 rfl (λ g4=> ?_) λ g4=> ?_
     ·refine .ld 1 s14 2 rfl<| .ld 1 s14 1 rfl<| .a 0 rfl (.lss rfl rfl)<| .z 2 rfl<| .B 100 rfl (λ g5=> ?_) λ g5=> ?_
      ·refine .ld 1 s14 1 rfl<| .ld 1 s14 2 rfl<| .a 0 rfl (.lss rfl rfl)<| .z 2 rfl<| .B 107 rfl (λ g6=> ?_) λ g6=> ?_
       ·refine .ld 1 s14 2 rfl<| .ld 1 s14 1 rfl<| .a 0 rfl (.leq rfl rfl)<| .z 1 rfl<| .B 113 rfl (λ g7=> ?_) λ g7=> ?_
        ·refine .ld 1 s14 1 rfl<| .ld 1 s14 2 rfl<| .a 0 rfl (.leq rfl rfl)<| .a 1 rfl (.jz rfl)<| .z 2 rfl<| .B 122 rfl (λ g8=> ?_) λ g8=> ?_
         ·refine .ld 1 s14 1 rfl<| .ld 1 s14 2 rfl<| .a 0 rfl (.leq rfl rfl)<| .z 1 rfl<| .B 128 rfl (λ g9=> ?_) λ g9=> ?_
          ·refine .ld 1 s14 2 rfl<| .ld 1 s14 1 rfl<| .a 0 rfl (.leq rfl rfl)<| .a 1 rfl (.jz rfl)<| .M rfl (by simp [g3,g4,g5,g6,g7,g8,g9])
          refine .M rfl (by simp [g3,g4,g5,g6,g7,g8,g9])
         refine .M rfl (by simp [g3,g4,g5,g6,g7,g8])
        refine .ld 10 s14 1 rfl<| .ld 1 s14 2 rfl<| .a 0 rfl (.leq rfl rfl)<| .z 1 rfl<| .B 128 rfl (λ g10=> ?_) λ g10=> ?_
        ·refine .ld 1 s14 2 rfl<| .ld 1 s14 1 rfl<| .a 0 rfl (.leq rfl rfl)<| .a 1 rfl (.jz rfl)<| .M rfl (by simp [g10,g3,g4,g5,g6,g7])
        refine .M rfl (by simp [g10,g3,g4,g5,g6,g7])
       refine .M rfl (by simp [g3,g4,g5,g6])
      refine .M rfl (by simp [g3,g4,g5])
     refine .M rfl (by simp [g3,g4])
    refine .M rfl (by simp [g3])
   refine .ak rfl (decide_eq_false (λ h=>ho.rg.nox z (aa (tQ hz).2) x (aa hx) h.1.1.1.1.2 ⟨h.1.1.1.2,h.1.1.2,h.1.2,h.2⟩))<| .skip<| .U rfl ?_
   exact bc (j+1,d2) ⟨s14.pk [0,1],by omega,by omega⟩
  refine .ao<| .Z rfl<| .ak rfl (decide_eq_false (by omega))<| .skip<| .U rfl ?_
  exact bc (k+1) (s11.pk [0])
 refine .ao<| .Z rfl<| .bG rfl rfl rfl ?_
 exact ⟨rfl,s2.pk []⟩
theorem Dn (c:Co) (n:Nat) (w:World) (hr:RdC w c) (ho:OkC n c) (hn:n<=3):
  CallsV prog 89 [c.vn,(.agg #[c.va,c.vt,c.vx,c.vr,c.vn,c.vh,c.vl])] w λ r w'=>r= .tuple #[.int .i64 ((0:Nat):Int),.int .i64 ((0:Nat):Int)]/\Sat w [] w':=by
 have htk:=ho.ntk
 have htx:=ho.ntx
 have hrg:=ho.nrg
 have hnd:=ho.nnd
 have hat:=ho.at_.2
 have hs0:=Sat.start w
 refine ae func89 rfl rfl ?_
 refine .h<| .bx 0 hs0 rfl λ b1 _ s1 _ _=> .Z rfl<| .seq<| .h<| .ln 1 (hr.n.ext s1.ext) rfl<| .Z rfl<| .ak rfl (decide_eq_false (by omega))<| .skip<| .h<| .ln 1 (hr.n.ext s1.ext) rfl<| .f rfl (.ee (a8 .i64) (0) bj rfl s1 rfl rfl (by omega) (by omega) (by omega) λ v1 _ s2 _=> ?_)
 refine .Z rfl<| .seq<| .h<| .ln 1 (hr.n.ext s2.ext) rfl<| .Z rfl<| .block<| .lq [0,1,3,18,19] rfl (α:=Nat×Value×List Nat) (λ (k,dv,dp)=>[(6,dv),(20,(.int .i64 k))]) (λ (k,dv,dp) w'=>Sat w (s2.U [(1,cL dv 3 (a8 .i64) (dp))]) w'/\(dp.length=c.nd.length)/\(∀ (q:Nat) d,dp[q]? =some d->d<=q+1/\(k<=q->d=0))) (λ (k,dv,dp)=>c.nd.length-k) (0,v1,List.replicate (c.nd.length) 0) ⟨s2,by simp,(λ q z h=>by rw [getElem?_replicate] at h;split at h;cases h;omega;cases h)⟩ ?_
 rintro ⟨k,dv,dp⟩ w3 ⟨s3,hdl,hdp⟩
 refine .Z rfl<| .seq<| .ab rfl (λ c1=> ?_) λ c1=> ?_
 ·refine .skip<| .seq<| .block<| .seq ?_
  obtain ⟨x,hx⟩:∃ x,(c.nd)[k]? =some x:=⟨_,getElem?_eq_getElem c1⟩
  have hxo:=ho.nd.el x (aa hx)
  have hxp:=ho.nd.par k x hx
  have hxq:=hxp.imp_right (·.1)
  refine .region<| .ix 1 (hr.n.ext s3.ext) rfl<| .lg 0 (hr.n.ext s3.ext) hx rfl<| .al 0 s3 rfl λ b2 _ s4 _ _=> ?_
  have s4:=s4.nn
  refine .sa 1 s4 2 rfl ((br).one _) λ _ s5 _=> .nil<| .seq<| .block<| .h<| .ld 1 s5 2 rfl<| .cp 0 s5 (dL x.nm _) rfl λ _ s6=> .e rfl (.cB rfl)<| .Z rfl<| .ak rfl (by simp [hxo.1])<| .h<| .lo 0 s6 0 rfl<| .ld 1 s6 2 rfl<| .ld 1 s6 2 rfl<| .cq 0 s6 (vq c (x.b) (x.e) _ (hr.ext s6.ext) _ ho hn (hxo.2)) rfl λ _ s7=> .Z rfl<| .ak rfl (rfl)<| .skip<| .h<| .a 1 rfl (.sub (b:=(1:Int)) rfl rfl (by unfold bo;omega))<| .Z rfl<| .seq<| .block<| .lq [0,1,3,6,7,8,18,19,20] rfl (α:=Int) (λ z=>[(9,(.int .i64 (z)))]) (λ z w'=>Sat w s7.L w'/\(-1<=z/\z<(c.nd.length:Int))/\(x.p= -1\/z=x.p)) (λ z=>(z+1).toNat) (((k:Nat):Int)-1) ⟨s7,by omega,by omega⟩ ?_
  rintro z w8 ⟨s8,hz,hzp⟩
  refine .seq<| .seq<| .bH 49 (((0:Int)<=(z:Int))/\((z:Int)≠(x.p:Int))) ?_ ?_
  ·refine .a 1 rfl (.geq rfl rfl)<| .z 1 rfl<| .B 44 rfl (λ g1=> ?_) λ g1=> ?_
   ·refine .ld 2 s8 2 rfl<| .a 0 rfl (.neq rfl rfl)<| .M rfl (by simp [g1])
   refine .M rfl (by simp [g1])
  refine .ab rfl (λ c2=> ?_) λ c2=> ?_
  ·refine .skip<| .block ?_
   obtain ⟨y,hy⟩:∃ y,c.nd[z.toNat]? =some y:=⟨_,getElem?_eq_getElem (by omega)⟩
   have hyq:=(ho.nd.par _ y hy).imp_right (·.1)
   refine .region<| .a 2 rfl (.iT (j:=z.toNat) (E:=br) gM rfl (fL (z:=z) (n:=z.toNat) (by omega)) (hr.n.ext s8.ext) (by omega))<| .fl 0 (hr.n.ext s8.ext) rfl<| .lf 0 (hr.n.ext s8.ext) hy rfl<| .Z rfl ?_
   exact bc y.p ⟨s8,by omega,by omega⟩
  refine .ao<| .seq<| .seq<| .bH 61 (((z:Int)<(0:Int))/\((x.p:Int)≠(-1:Int))) ?_ ?_
  ·refine .a 1 rfl (.lss rfl rfl)<| .z 1 rfl<| .B 57 rfl (λ g2=> ?_) λ g2=> ?_
   ·refine .ld 1 s8 2 rfl<| .a 0 rfl (.neq rfl rfl)<| .M rfl (by simp [g2])
   refine .M rfl (by simp [g2])
  refine .ak rfl (decide_eq_false (by omega))<| .skip<| .jn [0,1,3,6,7,8,18,19,20] rfl (λ K L' w'=>∃ (dp2:List Nat),Weak K L'/\Sat w (s8.U [(1,cL dv 3 (a8 .i64) (dp2))]) w'/\(dp2.length=c.nd.length)/\((∀ (q:Nat) d,dp2[q]? =some d->q≠k->d<=q+1/\(k<=q->d=0))/\∀ d,dp2[k]? =some d->d<=k)) ?_ ?_
  ·refine .h<| .ld 1 s8 2 rfl<| .e rfl (.geq rfl rfl)<| .nil<| .ab rfl (λ c3=> ?_) λ c3=> ?_
   ·refine .seq ?_
    obtain ⟨y,hy⟩:∃ y,c.nd[x.p.toNat]? =some y:=⟨_,getElem?_eq_getElem (by omega)⟩
    have hyo:=(hxp.resolve_left (by omega)).2.2 y (by rw [show k-1=x.p.toNat by omega];exact hy)
    obtain ⟨d,hd⟩:∃ d,dp[x.p.toNat]? =some d:=⟨_,getElem?_eq_getElem (by omega)⟩
    have hdd:=(hdp _ d hd).1
    refine .region<| .ld 2 s8 2 rfl<| .e rfl (.iT (j:=x.p.toNat) (E:=br) gM rfl (fL (z:=x.p) (n:=x.p.toNat) (by omega)) (hr.n.ext s8.ext) (by omega))<| .lg 0 (hr.n.ext s8.ext) hy rfl<| .al 0 s8 rfl λ b3 _ s9 _ _=> .sa 0 s9 3 rfl ((br).one _) λ _ s10 _=> .nil<| .seq<| .seq<| .bH 82 (((x.b:Int)<(y.b:Int))\/((y.e:Int)<(x.e:Int))) ?_ ?_
    ·refine .ld 1 s10 2 rfl<| .ld 1 s10 3 rfl<| .e rfl (.lss rfl rfl)<| .z 1 rfl<| .B 76 rfl (λ g3=> ?_) λ g3=> ?_
     ·refine .M rfl (by simp [g3])
     refine .ld 1 s10 2 rfl<| .ld 1 s10 3 rfl<| .a 0 rfl (.gtr rfl rfl)<| .M rfl (by simp [g3])
    refine .ak rfl (decide_eq_false (by omega))<| .skip<| .region<| .ld 4 s10 2 rfl<| .e rfl (.iT (j:=x.p.toNat) (E:=a8 .i64) bj rfl (fL (z:=x.p) (n:=x.p.toNat) (by omega)) (s10.ah 1 rfl) (by omega))<| .le 0 (s10.ah 1 rfl) hd rfl<| .ix 0 (s10.ah 1 rfl) rfl<| .f rfl (.dS (a:=d) 1 dj s10 rfl rfl rfl rfl (by first|omega|(rw [length_set];omega)) λ _ s11 _=> ?_)
    have s11:=s11.nn
    refine .nil ?_
    exact ⟨dp.set k d,(wk rfl),s11.pk [0,1,2],by rw [length_set];exact hdl,GK hdp (by omega)⟩
   refine .skip ?_
   exact ⟨dp,(wk rfl),s8.pk [0,1,2],hdl,⟨λ q d h _=>hdp q d h,λ d h=>by have:=(hdp k d h).2 (Nat.le_refl _);omega⟩⟩
  rintro L' w12 ⟨dp2,hw1,s14,hdl2,hdp2⟩
  refine .weaken _ hw1<| .seq<| .h<| .a 1 rfl (.sub (b:=(1:Int)) rfl rfl (by unfold bo;omega))<| .Z rfl<| .block<| .lq [0,1,3,6,7,8,18,19,20] rfl (α:=Nat) (λ m=>[(11,(.int .i64 ((((m:Nat):Int)-1))))]) (λ m w'=>Sat w s14.L w'/\(m<=k)) (λ m=>m) k ⟨s14,Nat.le_refl _⟩ ?_
  rintro m w13 ⟨s15,hmk⟩
  refine .seq<| .h<| .a 1 rfl (.geq rfl rfl)<| .nil<| .ab rfl (λ c4=> ?_) λ c4=> ?_
  ·refine .skip<| .seq<| .block<| .seq ?_
   obtain ⟨y,hy⟩:∃ y,c.nd[m-1]? =some y:=⟨_,getElem?_eq_getElem (by omega)⟩
   refine .dk [0,1,2] s15 rfl (pl [0,1,2,3,4,5,6,7] .fin) λ s16 S1=> .z 2 S1 rfl<| .e rfl (λ _ s=> .iT (j:=(m-1)) (E:=br) gM rfl (fL (z:=(((m:Nat):Int)-1)) (n:=(m-1)) (by omega)) (hr.n.ext s.ext) (by omega)) S1<| .fl 0 S1 (hr.n.ext ·.ext) rfl<| .lf 0 S1 (hr.n.ext ·.ext) hy rfl<| .ld 1 S1 2 rfl<| .e rfl (λ _ s=> .eql rfl rfl) S1<| .fin<| .ab rfl (λ c5=> ?_) λ c5=> ?_
   ·refine .seq<| .seq<| .dk [0,1,2] s16 rfl (pl [0,1,2,3,4,5,6,7] .fin) λ s17 S2=> .ld 1 S2 2 rfl<| .z 2 S2 rfl<| .e rfl (λ _ s=> .iT (j:=(m-1)) (E:=br) gM rfl (fL (z:=(((m:Nat):Int)-1)) (n:=(m-1)) (by omega)) (hr.n.ext s.ext) (by omega)) S2<| .fl 0 S2 (hr.n.ext ·.ext) rfl<| .lf 0 S2 (hr.n.ext ·.ext) hy rfl<| .e rfl (λ _ s=> .lss rfl rfl) S2<| .fin<| .ak rfl (decide_eq_false (λ h=>by have:=ho.nd.sib (m-1) k x y hy hx (by omega) (by omega);omega))<| .skip<| .LL rfl<| .seq ?_
    obtain ⟨d,hd⟩:∃ d,dp2[k]? =some d:=⟨_,getElem?_eq_getElem (by omega)⟩
    have hd2:(dp2.set k (d+1))[k]? =some (d+1):=getElem?_set_self (by omega)
    have hdk:=hdp2.2 d hd
    refine .region<| .ix 2 (s17.ah 1 rfl) rfl<| .le 0 (s17.ah 1 rfl) hd rfl<| .ix 1 (s17.ah 1 rfl) rfl<| .f rfl (.dS (a:=(d+1)) 1 dj s17 rfl rfl rfl rfl (by first|omega|(rw [length_set];omega)) λ _ s18 _=> ?_)
    refine .nil<| .h<| .ix 2 (s18.ah 1 rfl) rfl (hj:=by rw [length_set];omega)<| .le 0 (s18.ah 1 rfl) hd2 rfl<| .Z rfl<| .ak rfl (decide_eq_false (by omega))<| .skip<| .U rfl ?_
    exact bc (k+1,dv,dp2.set k (d+1)) ⟨s18.pk [0,1],by rw [length_set];exact hdl2,zg hdp2 (by omega)⟩
   refine .skip<| .region<| .a 1 rfl (.sub (b:=(1:Int)) rfl rfl (by unfold bo;omega))<| .Z rfl ?_
   exact ⟨m-1,⟨congrArg some (congrArg (Value.int .i64) (by omega)),rfl,rfl,rfl,rfl,rfl,rfl,rfl,rfl,rfl,trivial⟩,⟨s16,by omega⟩,by omega⟩
  refine .ao<| .seq ?_
  obtain ⟨d,hd⟩:∃ d,dp2[k]? =some d:=⟨_,getElem?_eq_getElem (by omega)⟩
  have hd2:(dp2.set k (d+1))[k]? =some (d+1):=getElem?_set_self (by omega)
  have hdk:=hdp2.2 d hd
  refine .region<| .ix 2 (s15.ah 1 rfl) rfl<| .le 0 (s15.ah 1 rfl) hd rfl<| .ix 1 (s15.ah 1 rfl) rfl<| .f rfl (.dS (a:=(d+1)) 1 dj s15 rfl rfl rfl rfl (by first|omega|(rw [length_set];omega)) λ _ s20 _=> ?_)
  refine .nil<| .h<| .ix 2 (s20.ah 1 rfl) rfl (hj:=by rw [length_set];omega)<| .le 0 (s20.ah 1 rfl) hd2 rfl<| .Z rfl<| .ak rfl (decide_eq_false (by omega))<| .skip<| .U rfl ?_
  exact bc (k+1,dv,dp2.set k (d+1)) ⟨s20.pk [0,1],by rw [length_set];exact hdl2,zg hdp2 (by omega)⟩
 refine .ao<| .Z rfl<| .bG rfl rfl rfl ?_
 exact ⟨rfl,s3.pk []⟩
theorem ES (vh vl:Value) (hd:List Int) (rl:List ByteArray) (w:World) (hv:RdL w vh (Kw.encI .i64) hd) (hw:RdL w vl aB rl) (hl:hd.length<=1000) (he:hd.length=rl.length) (hb:∃ i:Nat,(∃ h,hd[i]? =some h/\h≠-1)\/∃ s,rl[i]? =some s/\s≠ByteArray.empty):
  CallsV prog 138 [vh,vl] w λ r w'=>r= .bool false/\Sat w [] w':=by
 refine cc func138 rfl λ hs0=> .Z rfl<| .seq<| .h<| .ln 1 (hv.ext hs0.ext) rfl<| .Z rfl<| .block<| .lq [0,1,7] rfl (α:=Nat) (λ k=>[(8,(.int .i64 k))]) (λ k w'=>Sat w [] w'/\(∀ (j:Nat) t,j<k->hd[j]? =some t->t= -1/\rl[j]? =some (ByteArray.mk #[]))) (λ k=>hd.length-k) 0 ⟨hs0,λ j t h=>absurd h (by omega)⟩ ?_
 rintro k w1 ⟨s1,hno⟩
 refine .Z rfl<| .seq<| .ab rfl (λ c1=> ?_) λ c1=> ?_
 ·refine .skip<| .seq<| .block<| .seq ?_
  obtain ⟨x,hx⟩:∃ x,(hd)[k]? =some x:=⟨_,getElem?_eq_getElem c1⟩
  obtain ⟨s,hs9⟩:∃ s,rl[k]? =some s:=⟨_,getElem?_eq_getElem (by omega)⟩
  refine .U rfl<| .seq<| .bH 22 (((x:Int)≠(-1:Int))\/(s≠(ByteArray.mk #[]))) ?_ ?_
  ·refine .ix 2 (hv.ext s1.ext) rfl<| .le 0 (hv.ext s1.ext) hx rfl<| .e rfl (.neq rfl rfl)<| .z 1 rfl<| .B 16 rfl (λ g1=> ?_) λ g1=> ?_
   ·refine .M rfl (by simp [g1])
   refine .ix 2 (hw.ext s1.ext) rfl<| .le 0 (hw.ext s1.ext) hs9 rfl<| .a 0 rfl (.et rfl rfl)<| .M rfl (by simp [g1])
  refine .ab rfl (λ c2=> ?_) λ c2=> ?_
  ·refine .Z rfl<| .aC rfl rfl ?_
   exact ⟨rfl,s1.pk []⟩
  refine .skip<| .U rfl ?_
  exact bc (k+1) ⟨s1,iF hno hx ⟨by omega,by rw [hs9];exact congrArg some (Decidable.not_not.1 λ h=>c2 (.inr h))⟩⟩
 refine .ao<| .Z rfl<| .aC rfl rfl ?_
 have s3:=s1.pk []
 exact (O2 he hno (by omega) hb).elim
theorem sh (c:Co) (p:Int) (w:World) (hr:RdC w c) (hl:c.tx.length<=64) (hin:∃ t∈c.tx,t.b<=p/\p<t.e):
  CallsV prog 139 [(.agg #[c.va,c.vt,c.vx,c.vr,c.vn,c.vh,c.vl]),(.int .i64 (p))] w λ r w'=>∃ (i:Nat) (t:Iv),r= .int .i64 (i:Int)/\c.tx[i]? =some t/\t.b<=p/\p<t.e/\Sat w [] w':=by
 have hs0:=Sat.start w
 refine ae func139 rfl rfl ?_
 refine .h<| .bx 0 hs0 rfl λ b1 _ s1 _ _=> .Z rfl<| .seq<| .h<| .ld 1 s1 0 rfl<| .ln 0 (hr.x.ext s1.ext) rfl<| .Z rfl<| .block<| .lq [0,1,2,8,9] rfl (α:=Nat) (λ k=>[(10,(.int .i64 k))]) (λ k w'=>Sat w s1.L w'/\(∀ (j:Nat) t,j<k->c.tx[j]? =some t->¬ (t.b<=p/\p<t.e))) (λ k=>c.tx.length-k) 0 ⟨s1,λ j t h=>absurd h (by omega)⟩ ?_
 rintro k w2 ⟨s2,hno⟩
 refine .Z rfl<| .seq<| .ab rfl (λ c1=> ?_) λ c1=> ?_
 ·refine .skip<| .seq<| .block<| .seq ?_
  obtain ⟨x,hx⟩:∃ x,(c.tx)[k]? =some x:=⟨_,getElem?_eq_getElem c1⟩
  refine .region<| .ix 1 (hr.x.ext s2.ext) rfl<| .lg 0 (hr.x.ext s2.ext) hx rfl<| .al 0 s2 rfl λ b2 _ s3 _ _=> .sa 1 s3 1 rfl ((aG).one _) λ _ s4 _=> ?_
  have s4:=s4.nn
  refine .nil<| .seq<| .bH 24 (((x.b:Int)<=(p:Int))/\((p:Int)<(x.e:Int))) ?_ ?_
  ·refine .ld 1 s4 1 rfl<| .a 1 rfl (.leq rfl rfl)<| .z 1 rfl<| .B 19 rfl (λ g1=> ?_) λ g1=> ?_
   ·refine .ld 2 s4 1 rfl<| .a 0 rfl (.lss rfl rfl)<| .M rfl (by simp [g1])
   refine .M rfl (by simp [g1])
  refine .ab rfl (λ c2=> ?_) λ c2=> ?_
  ·refine .Z rfl<| .aC rfl rfl ?_
   exact ⟨k,x,rfl,hx,c2.1,c2.2,s4.pk []⟩
  refine .skip<| .U rfl ?_
  exact bc (k+1) ⟨s4.pk [0],iF hno hx c2⟩
 refine .ao<| .Z rfl<| .aC rfl rfl ?_
 have s7:=s2.pk []
 obtain ⟨t,ht,h1⟩:=hin
 obtain ⟨j,hj⟩:=getElem?_of_mem ht
 exact absurd h1 (hno j t (by have:=(List.getElem?_eq_some_iff.1 hj).1;omega) hj)
theorem Dp (v:Value) (hd:List Int) (n i:Nat) (w:World) (hv:RdL w v (Kw.encI .i64) hd) (hl:hd.length<=1000) (hf:HdF n hd) (hi:i<hd.length):
  CallsV prog 140 [v,(.int .i64 i)] w λ r w'=>r= .bool false/\Sat w [] w':=by
 obtain ⟨rank,hrk⟩:=hf.rk
 have hs0:=Sat.start w
 refine ae func140 rfl rfl ?_
 refine .Z rfl<| .Z rfl<| .seq<| .h<| .ln 1 (hv.ext hs0.ext) rfl<| .Z rfl<| .block<| .lq [0,1,8] rfl (α:=Nat×Int) (λ (k,z)=>[(5,(.int .i64 (z))),(9,(.int .i64 k))]) (λ (k,z) w'=>Sat w [] w'/\(0<=z/\z<(hd.length:Int))/\(rank z.toNat<=rank i)) (λ (k,z)=>hd.length-k) (0,(i:Int)) ⟨hs0,by omega,by rw [Int.toNat_natCast];exact Nat.le_refl _⟩ ?_
 rintro ⟨k,z⟩ w1 ⟨s1,hz,hrz⟩
 refine .Z rfl<| .seq<| .ab rfl (λ c1=> ?_) λ c1=> ?_
 ·refine .skip<| .seq<| .block<| .seq ?_
  obtain ⟨x,hx⟩:∃ x,hd[z.toNat]? =some x:=⟨_,getElem?_eq_getElem (by omega)⟩
  refine .region<| .a 2 rfl (.iT (j:=z.toNat) (E:=Kw.encI .i64) bj rfl (fL (z:=z) (n:=z.toNat) (by omega)) (hv.ext s1.ext) (by omega))<| .le 0 (hv.ext s1.ext) hx rfl<| .Z rfl<| .seq<| .seq<| .bH 22 (((x:Int)<(0:Int))\/(((hd.length:Nat):Int)<=(x:Int))) ?_ ?_
  ·refine .a 1 rfl (.lss rfl rfl)<| .z 1 rfl<| .B 17 rfl (λ g1=> ?_) λ g1=> ?_
   ·refine .M rfl (by simp [g1])
   refine .ln 2 (hv.ext s1.ext) rfl<| .a 0 rfl (.geq rfl rfl)<| .M rfl (by simp [g1])
  refine .ab rfl (λ c2=> ?_) λ c2=> ?_
  ·refine .Z rfl<| .aC rfl rfl ?_
   exact ⟨rfl,s1.pk []⟩
  refine .skip<| .h<| .a 2 rfl (.eql rfl rfl)<| .nil<| .ak rfl (decide_eq_false (λ h=>by have h1:=hrk _ x hx (by omega);rw [show x.toNat=i by omega] at h1;omega))<| .skip<| .U rfl ?_
  exact bc (k+1,x) ⟨s1,by omega,by have:=hrk _ x hx (by omega);omega⟩
 refine .ao<| .Z rfl<| .aC rfl rfl ?_
 exact ⟨rfl,s1.pk []⟩
theorem Dq (c:Co) (n:Nat) (w:World) (hr:RdC w c) (ho:OkC n c) (hn:n<=3):
  CallsV prog 90 [(.agg #[c.va,c.vt,c.vx,c.vr,c.vn,c.vh,c.vl])] w λ r w'=>r= .tuple #[.int .i64 ((0:Nat):Int),.int .i64 ((0:Nat):Int)]/\Sat w [] w':=by
 have htk:=ho.ntk
 have htx:=ho.ntx
 have hrg:=ho.nrg
 have hnd:=ho.nnd
 have hat:=ho.at_.2
 have hhl:=ho.oJ.1
 have hhm:c.hd.length<=36:=by rcases Nat.eq_zero_or_pos c.hd.length with q|q;omega;have:=(ho.oJ.2 q).len.1;omega
 have hs0:=Sat.start w
 refine ae func90 rfl rfl ?_
 refine .h<| .bx 0 hs0 rfl λ b1 _ s1 _ _=> .Z rfl<| .h<| .ld 1 s1 0 rfl<| .ln 0 (hr.h.ext s1.ext) rfl<| .Z rfl<| .seq<| .seq<| .bH 25 ((c.hd.length≠c.rl.length)\/((c.hd.length≠0)/\(c.hd.length≠c.tk.length))) ?_ ?_
 ·refine .ld 2 s1 0 rfl<| .ln 0 (hr.l.ext s1.ext) rfl<| .z 2 rfl<| .B 15 rfl (λ g1=> ?_) λ g1=> ?_
  ·refine .M rfl (by simp [g1])
  refine .z 3 rfl<| .B 18 rfl (λ g2=> ?_) λ g2=> ?_
  ·refine .ld 2 s1 0 rfl<| .ln 0 (hr.t.ext s1.ext) rfl<| .M rfl (by simp [g1,g2])
  refine .M rfl (by simp [g1,g2])
 refine .ak rfl (decide_eq_false (λ h=>h.elim (λ h=>h hhl) (λ h=>h.2 (ho.oJ.2 (by omega)).len.1)))<| .skip<| .seq<| .seq<| .md [0,1,2,3,4] rfl (λ K L' w'=>Weak ([(34,(.bool (decide ((0<c.hd.length)/\(False)))))]++K) L'/\Sat w s1.L w') ?_ ?_
 ·refine .region<| .z 3 rfl<| .B 28 rfl (λ g3=> ?_) λ g3=> ?_
  ·refine .ld 1 s1 0 rfl<| .ld 1 s1 0 rfl<| .cp 0 s1 (ES _ _ (c.hd) (c.rl) _ (hr.h.ext s1.ext) (hr.l.ext s1.ext) (by omega) hhl (ho.oJ.2 (by omega)).bare) rfl λ _ s2=> .Z rfl ?_
   exact ⟨⟨congrArg some (congrArg Value.bool (by simp [g3])),rfl,rfl,rfl,rfl,rfl,trivial⟩,s2⟩
  refine .Z rfl ?_
  exact ⟨⟨congrArg some (congrArg Value.bool (by simp [g3])),rfl,rfl,rfl,rfl,rfl,trivial⟩,s1⟩
 rintro L' w3 ⟨hw1,s3⟩
 refine .weaken _ hw1<| .ak rfl (decide_eq_false (λ h=>h.2))<| .skip<| .seq<| .h<| .ld 1 s3 0 rfl<| .ln 0 (hr.h.ext s3.ext) rfl<| .Z rfl<| .block<| .lq [0,1,4,36,37] rfl (α:=Nat) (λ k=>[(38,(.int .i64 k))]) (λ k w'=>Sat w s3.L w') (λ k=>c.hd.length-k) 0 s3 ?_
 rintro k w4 s4
 refine .Z rfl<| .seq<| .ab rfl (λ c1=> ?_) λ c1=> ?_
 ·refine .skip<| .seq<| .block<| .seq ?_
  obtain ⟨x,hx⟩:∃ x,(c.hd)[k]? =some x:=⟨_,getElem?_eq_getElem c1⟩
  have hhd:=ho.oJ.2 (by omega)
  have hkl:=c1
  obtain ⟨s,hs9⟩:∃ s,c.rl[k]? =some s:=⟨_,getElem?_eq_getElem (by have:=hhd.len;omega)⟩
  refine .region<| .ix 1 (hr.h.ext s4.ext) rfl<| .le 0 (hr.h.ext s4.ext) hx rfl<| .Z rfl<| .seq<| .seq<| .dm (λ L' w'=>Weak [(0,(.agg #[c.va,c.vt,c.vx,c.vr,c.vn,c.vh,c.vl])),(1,(.pointer (some ⟨b1,0,none⟩))),(4,(.int .i64 c.hd.length)),(5,(.int .i64 k)),(6,(.int .i64 (x))),(36,c.vh),(37,(.int .i64 c.hd.length)),(38,(.int .i64 k)),(62,(.bool false))] L'/\Sat w [aj b1 30 [c.va,c.vt,c.vx,c.vr,c.vn,c.vh,c.vl]] w') ?_ ?_
  ·rcases hhd.el k x hx with hx1|⟨t,ht,ht1,ht2,ht3,ht4⟩
   ·refine .dk [0] s4 rfl (pl [0,1,2,3,4,5,6,7,8,9,10,11,12,14,15,1013,1016,17,18,19] .fin) λ s5 S1=> .z 1 S1 rfl<| .e rfl (λ _ hS=> .neq rfl rfl) S1<| .z 1 S1 rfl<| .Gf 45 rfl (decide_eq_false (λ h=>h hx1))<| .Z S1 rfl ?_
    exact ⟨(wk rfl),s5⟩
   refine .dk [0] s4 rfl (pl [0,1,2,3,4,5,6,7,8,9,10,11,12,14,15,1013,1016,17,18,19] .fin) λ s6 S2=> .z 1 S2 rfl<| .e rfl (λ _ hS=> .neq rfl rfl) S2<| .z 1 S2 rfl<| .Gt 45 rfl (decide_eq_true (by have:=(ho.tx.nm t ht).2.2;omega))<| .a 1 S2 rfl (λ _ hS=> .lss rfl rfl)<| .z 1 S2 rfl<| .Gf 48 rfl (decide_eq_false (by have:=(ho.tx.nm t ht).2.2;omega))<| .a 2 S2 rfl (λ _ hS=> .geq rfl rfl)<| .z 2 S2 rfl<| .Gf 53 rfl (decide_eq_false (by have:=(ho.tx.nm t ht).2.2;have:=hhd.len.1;omega))<| .a 0 S2 rfl (λ _ hS=> .eV da rfl hS (i:=0) rfl rfl)<| .a 1 S2 rfl (λ _ hS=> .eV da rfl hS (i:=0) rfl rfl)<| .c 1 S2 (sh c (x) _ (hr.ext s6.ext) (by omega) (⟨t,ht,by omega,by omega⟩)) rfl λ r2 _ h2=> ?_
   obtain ⟨ti1,tt1,rfl,htt1,htt1b,htt1e,p2⟩:=h2
   have s7:=s6.aD p2
   have htt1l:=(List.getElem?_eq_some_iff.1 htt1).1
   have S3:=s7.pk [0]
   refine ⟨S3,?_⟩
   refine .c 0 S3 (sh c ((k:Nat):Int) _ (hr.ext s7.ext) (by omega) (⟨t,ht,by omega,by omega⟩)) rfl λ r3 _ h3=> ?_
   obtain ⟨ti2,tt2,rfl,htt2,htt2b,htt2e,p3⟩:=h3
   have s8:=(s7.aD p3).nn
   have htt2l:=(List.getElem?_eq_some_iff.1 htt2).1
   have S4:=s8.pk [0]
   refine ⟨S4,?_⟩
   refine .Z S4 rfl ?_
   exact ⟨⟨rfl,rfl,rfl,rfl,rfl,rfl,rfl,rfl,congrArg some (congrArg Value.bool (decide_eq_false (λ h=>h (JL ho.tx ht htt1 htt2 ⟨by omega,by omega⟩ ⟨by omega,by omega⟩ ⟨htt1b,htt1e⟩ ⟨htt2b,htt2e⟩)))),trivial⟩,s8⟩
  rintro L' w7 ⟨hw2,s9⟩
  refine .weaken _ hw2<| .ak rfl (rfl)<| .skip<| .seq<| .seq<| .md [0,1,4,5,6,36,37,38] rfl (λ K L' w'=>Weak ([(78,(.bool (decide ((s≠(ByteArray.mk #[]))/\((!(bA s))=true)))))]++K) L'/\Sat w s9.L w') ?_ ?_
  ·refine .region<| .ld 1 s9 0 rfl<| .ix 1 (hr.l.ext s9.ext) rfl<| .le 0 (hr.l.ext s9.ext) hs9 rfl<| .e rfl (.et rfl rfl)<| .z 1 rfl<| .B 70 rfl (λ g4=> ?_) λ g4=> ?_
   ·refine .ld 1 s9 0 rfl<| .ix 1 (hr.l.ext s9.ext) rfl<| .le 0 (hr.l.ext s9.ext) hs9 rfl<| .cp 0 s9 (dL s _) rfl λ _ s10=> .a 0 rfl (.cB rfl)<| .Z rfl ?_
    exact ⟨⟨congrArg some (congrArg Value.bool (by simp [g4])),rfl,rfl,rfl,rfl,rfl,rfl,rfl,rfl,trivial⟩,s10⟩
   refine .Z rfl ?_
   exact ⟨⟨congrArg some (congrArg Value.bool (by simp [g4])),rfl,rfl,rfl,rfl,rfl,rfl,rfl,rfl,trivial⟩,s9⟩
  rintro L' w9 ⟨hw3,s11⟩
  refine .weaken _ hw3<| .ak rfl (decide_eq_false (λ h=>(hhd.nm s (aa hs9)).elim (λ e=>h.1 e) (λ e=>by have:=h.2;simp [e] at this)))<| .skip<| .h<| .ld 1 s11 0 rfl<| .cp 1 s11 (Dp _ (c.hd) _ (k) _ (hr.h.ext s11.ext) (by omega) ho.Q0 hkl) rfl λ _ s12=> .nil<| .ak rfl (rfl)<| .skip<| .U rfl ?_
  exact bc (k+1) s12
 refine .ao<| .Z rfl<| .bG rfl rfl rfl ?_
 exact ⟨rfl,s4.pk []⟩
theorem wN (c:Co) (n:Nat) (w:World) (hr:RdC w c) (ho:OkC n c) (hn:n<=3):
  CallsV prog 34 [(.agg #[c.va,c.vt,c.vx,c.vr,c.vn,c.vh,c.vl])] w λ r w'=>r= .tuple #[.int .i64 ((0:Nat):Int),.int .i64 ((0:Nat):Int),.int .i64 ((0:Nat):Int)]/\Sat w [] w':=by
 refine cc func34 rfl λ hs0=> .h<| .bx 0 hs0 rfl λ b1 _ s1 _ _=> .Z rfl<| .seq<| .h<| .ld 1 s1 0 rfl<| .cp 0 s1 (Dl _ (c.at_) _ (hr.a.ext s1.ext) ho.at_) rfl λ _ s2=> .Z rfl<| .Z rfl<| .ak rfl (rfl)<| .skip<| .seq<| .h<| .lo 0 s2 0 rfl<| .cq 0 s2 (Aw c n _ (hr.ext s2.ext) ho hn) rfl λ _ s3=> .Z rfl<| .Z rfl<| .ak rfl (rfl)<| .skip<| .seq<| .h<| .lo 0 s3 0 rfl<| .cp 0 s3 (Dm c n _ (hr.ext s3.ext) ho hn) rfl λ _ s4=> .Z rfl<| .Z rfl<| .ak rfl (rfl)<| .skip<| .seq<| .h<| .lo 0 s4 0 rfl<| .cp 0 s4 (y7 c n _ (hr.ext s4.ext) ho hn) rfl λ _ s5=> .Z rfl<| .Z rfl<| .ak rfl (rfl)<| .skip<| .seq<| .h<| .ld 1 s5 0 rfl<| .lo 0 s5 0 rfl<| .cq 0 s5 (Dn c n _ (hr.ext s5.ext) ho hn) rfl λ _ s6=> .Z rfl<| .seq<| .trim [0,1,2,3,4,5,6,7,8,9,10,11,12,13,14] rfl<| .U rfl<| .ak rfl (rfl)<| .skip<| .seq<| .h<| .lo 0 s6 0 rfl<| .cp 0 s6 (Dq c n _ (hr.ext s6.ext) ho hn) rfl λ _ s7=> .Z rfl<| .Z rfl<| .ak rfl (rfl)<| .skip<| .Z rfl<| .ret ?_
 show aK _ _ _ _ _ _
 refine iC rfl rfl rfl rfl ?_
 exact ⟨rfl,s7.pk []⟩
theorem si (c:Co) (n:Nat) (w:World) (hr:RdC w c) (ho:OkC n c) (hn:n<=3):
  CallsV prog 67 [(.agg #[c.va,c.vt,c.vx,c.vr,c.vn,c.vh,c.vl])] w λ r w'=>r= .bool true/\Sat w [] w':=by
 refine cc func67 rfl λ hs0=> .h<| .bx 0 hs0 rfl λ b1 _ s1 _ _=> .Z rfl<| .h<| .lo 0 s1 0 rfl<| .cp 0 s1 (wN c n _ (hr.ext s1.ext) ho hn) rfl λ _ s2=> .Z rfl<| .Z rfl<| .aC rfl rfl ?_
 exact ⟨rfl,s2.pk []⟩
end Go.Proofs.YthffkcnbdehceaaGreat
