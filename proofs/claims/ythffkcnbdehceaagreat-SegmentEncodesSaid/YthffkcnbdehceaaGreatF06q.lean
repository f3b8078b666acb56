/-The walks of the functions of F06q,printed by our own program (kwgen.py) out of our descriptions (base.py). -/
import Derived.Test.YthffkcnbdehceaaGreatF06v
import Derived.Test.YthffkcnbdehceaaGreatKsc
import Derived.Test.YthffkcnbdehceaaGreatM06e
open List
open Go.Proofs.Tryz
set_option linter.unusedVariables false
set_option linter.unusedSimpArgs false
set_option linter.unusedSectionVars false
namespace Go.Proofs.YthffkcnbdehceaaGreat
open Go.RowKit Go.Kw
set_option maxRecDepth 100000
theorem I3:tN prog 120 [.s,.s]=true:=by kernel_rfl
theorem I4:tN prog 86 [.s,.b]=true:=by kernel_rfl
theorem I5:tN prog 84 [.s,.i .i64,.i .i64,.i .i64]=true:=by kernel_rfl
theorem th (v u:Value) (l m:List (ByteArray×Bool)) (w:World) (hv:RdL w v cE l) (hu:RdL w u cE m) (hl:l.length<=5000):
  CallsV prog 47 [v,u] w λ r w'=>r= .bool (decide (l=m))/\Sat w [] w':=by
 refine cg func47 rfl λ hs0=> .Z rfl<| .seq<| .h<| .ln 1 (hv.ext hs0.ext) rfl<| .ln 1 (hu.ext hs0.ext) rfl<| .Z rfl<| .ae rfl (λ c1=> ?_) λ c1=> ?_
 ·refine .Z rfl<| .aC rfl rfl ?_
  exact ⟨If Value.bool (IN λ e=>c1 (If List.length e)).symm,hs0.pk []⟩
 refine .skip<| .seq<| .h<| .ln 1 (hv.ext hs0.ext) rfl<| .Z rfl<| .block<| .lq [0,1,12] rfl (α:=Nat) (λ k=>[(13,(.int .i64 k))]) (λ k w'=>Sat w [] w'/\(∀ (j:Nat) s t,j<k->l[j]? =some s->m[j]? =some t->s=t)) (λ k=>l.length-k) 0 ⟨hs0,λ j s t h=>absurd h (by omega)⟩ ?_
 rintro k w1 ⟨s2,hk⟩
 refine .Z rfl<| .seq<| .ae rfl (λ c2=> ?_) λ c2=> ?_
 ·refine .skip<| .seq<| .block<| .seq ?_
  obtain ⟨x,hx⟩:∃ x,(l)[k]? =some x:=⟨_,py c2⟩
  obtain ⟨y,hy⟩:∃ y,(m)[k]? =some y:=⟨_,py (by omega)⟩
  refine .U rfl<| .seq<| .dk [] s2 rfl (pl [0,1,2,3,4,5,6,7,8] .fin) λ s3 S1=> .ix 2 S1 (hv.ext ·.ext) rfl<| .lg 0 S1 (hv.ext ·.ext) hx rfl<| .ix 2 S1 (hu.ext ·.ext) rfl<| .lg 0 S1 (hu.ext ·.ext) hy rfl<| .e rfl (λ _ q=> .MN (a:=x) (b:=y) Lr I4 rfl rfl) S1<| .fin<| .ae rfl (λ c3=> ?_) λ c3=> ?_
  ·refine .Z rfl<| .aC rfl rfl ?_
   exact ⟨If Value.bool (IN λ e=>c3 (get_eq e hx hy)).symm,s3.pk []⟩
  refine .skip<| .U rfl ?_
  exact aT (k+1) ⟨s3,eS hk hx hy (Qf.1 c3)⟩
 refine .ao<| .Z rfl<| .aC rfl rfl ?_
 exact ⟨If Value.bool (PM (la (by omega) hk (by omega))).symm,s2.pk []⟩
theorem ti (v u:Value) (l m:List (Pr)) (w:World) (hv:RdL w v aU l) (hu:RdL w u aU m) (hl:l.length<=5000):
  CallsV prog 48 [v,u] w λ r w'=>r= .bool (decide (l=m))/\Sat w [] w':=by
 refine cg func48 rfl λ hs0=> .Z rfl<| .seq<| .h<| .ln 1 (hv.ext hs0.ext) rfl<| .ln 1 (hu.ext hs0.ext) rfl<| .Z rfl<| .ae rfl (λ c1=> ?_) λ c1=> ?_
 ·refine .Z rfl<| .aC rfl rfl ?_
  exact ⟨If Value.bool (IN λ e=>c1 (If List.length e)).symm,hs0.pk []⟩
 refine .skip<| .seq<| .h<| .ln 1 (hv.ext hs0.ext) rfl<| .Z rfl<| .block<| .lq [0,1,12] rfl (α:=Nat) (λ k=>[(13,(.int .i64 k))]) (λ k w'=>Sat w [] w'/\(∀ (j:Nat) s t,j<k->l[j]? =some s->m[j]? =some t->s=t)) (λ k=>l.length-k) 0 ⟨hs0,λ j s t h=>absurd h (by omega)⟩ ?_
 rintro k w1 ⟨s2,hk⟩
 refine .Z rfl<| .seq<| .ae rfl (λ c2=> ?_) λ c2=> ?_
 ·refine .skip<| .seq<| .block<| .seq ?_
  obtain ⟨x,hx⟩:∃ x,(l)[k]? =some x:=⟨_,py c2⟩
  obtain ⟨y,hy⟩:∃ y,(m)[k]? =some y:=⟨_,py (by omega)⟩
  refine .U rfl<| .seq<| .dk [] s2 rfl (pl [0,1,2,3,4,5,6,7,8] .fin) λ s3 S1=> .ix 2 S1 (hv.ext ·.ext) rfl<| .lg 0 S1 (hv.ext ·.ext) hx rfl<| .ix 2 S1 (hu.ext ·.ext) rfl<| .lg 0 S1 (hu.ext ·.ext) hy rfl<| .e rfl (λ _ q=> .MN (a:=x) (b:=y) Lq I3 rfl rfl) S1<| .fin<| .ae rfl (λ c3=> ?_) λ c3=> ?_
  ·refine .Z rfl<| .aC rfl rfl ?_
   exact ⟨If Value.bool (IN λ e=>c3 (get_eq e hx hy)).symm,s3.pk []⟩
  refine .skip<| .U rfl ?_
  exact aT (k+1) ⟨s3,eS hk hx hy (Qf.1 c3)⟩
 refine .ao<| .Z rfl<| .aC rfl rfl ?_
 exact ⟨If Value.bool (PM (la (by omega) hk (by omega))).symm,s2.pk []⟩
theorem Cq (a b:Co) (w:World) (ha:RdC w a) (hb:RdC w b) (hsa:Sm a):
  CallsV prog 16 [(.agg #[a.va,a.vt,a.vx,a.vr,a.vn,a.vh,a.vl]),(.agg #[b.va,b.vt,b.vx,b.vr,b.vn,b.vh,b.vl])] w λ r w'=>∃ q:Bool,r= .bool q/\(q=true↔a.v=b.v)/\Sat w [] w':=by
 have hb1:=hsa.at_
 have hb2:=hsa.tk
 have hb3:=hsa.tx
 have hb4:=hsa.rg
 have hb5:=hsa.nd
 have hb6:=hsa.hd
 have hb7:=hsa.rl
 have hs0:=Sat.start w
 refine ai func16 rfl rfl ?_
 refine .h<| .bx 0 hs0 rfl λ b1 _ s1 _ _=> .bx 0 s1 rfl λ b2 _ s2 _ _=> .Z rfl<| .seq<| .seq<| .md [0,1,2,3,4] rfl (λ K L' w'=>Weak ([(75,(.bool (decide (((((((¬ (a.at_=b.at_))\/(a.tk.length≠b.tk.length))\/(a.tx.length≠b.tx.length))\/(a.rg.length≠b.rg.length))\/(a.nd.length≠b.nd.length))\/(a.hd.length≠b.hd.length))\/(a.rl.length≠b.rl.length)))))]++K) L'/\Sat w s2.L w') ?_ ?_
 ·refine .region<| .ld 1 s2 0 rfl<| .ld 1 s2 1 rfl<| .cq 0 s2 (th _ _ (a.at_) (b.at_) _ (ha.a.ext s2.ext) (hb.a.ext s2.ext) (by omega)) rfl λ _ s3=> .e rfl (.mF rfl)<| .z 1 rfl<| .B 22 rfl (λ g1=> ?_) λ g1=> ?_
  ·refine .Z rfl ?_
   exact ⟨⟨If some (If Value.bool (by simp [g1])),rfl,rfl,rfl,rfl,rfl,trivial⟩,s3⟩
  refine .ld 1 s3 0 rfl<| .ln 0 (ha.t.ext s3.ext) rfl<| .ld 1 s3 1 rfl<| .ln 0 (hb.t.ext s3.ext) rfl<| .z 3 rfl<| .B 31 rfl (λ g2=> ?_) λ g2=> ?_
  ·refine .Z rfl ?_
   exact ⟨⟨If some (If Value.bool (by simp [g1,g2])),rfl,rfl,rfl,rfl,rfl,trivial⟩,s3⟩
  refine .ld 1 s3 0 rfl<| .ln 0 (ha.x.ext s3.ext) rfl<| .ld 1 s3 1 rfl<| .ln 0 (hb.x.ext s3.ext) rfl<| .z 3 rfl<| .B 40 rfl (λ g3=> ?_) λ g3=> ?_
  ·refine .Z rfl ?_
   exact ⟨⟨If some (If Value.bool (by simp [g1,g2,g3])),rfl,rfl,rfl,rfl,rfl,trivial⟩,s3⟩
  refine .ld 1 s3 0 rfl<| .ln 0 (ha.r.ext s3.ext) rfl<| .ld 1 s3 1 rfl<| .ln 0 (hb.r.ext s3.ext) rfl<| .z 3 rfl<| .B 49 rfl (λ g4=> ?_) λ g4=> ?_
  ·refine .Z rfl ?_
   exact ⟨⟨If some (If Value.bool (by simp [g1,g2,g3,g4])),rfl,rfl,rfl,rfl,rfl,trivial⟩,s3⟩
  refine .ld 1 s3 0 rfl<| .ln 0 (ha.n.ext s3.ext) rfl<| .ld 1 s3 1 rfl<| .ln 0 (hb.n.ext s3.ext) rfl<| .z 3 rfl<| .B 58 rfl (λ g5=> ?_) λ g5=> ?_
  ·refine .Z rfl ?_
   exact ⟨⟨If some (If Value.bool (by simp [g1,g2,g3,g4,g5])),rfl,rfl,rfl,rfl,rfl,trivial⟩,s3⟩
  refine .ld 1 s3 0 rfl<| .ln 0 (ha.h.ext s3.ext) rfl<| .ld 1 s3 1 rfl<| .ln 0 (hb.h.ext s3.ext) rfl<| .z 3 rfl<| .B 67 rfl (λ g6=> ?_) λ g6=> ?_
  ·refine .Z rfl ?_
   exact ⟨⟨If some (If Value.bool (by simp [g1,g2,g3,g4,g5,g6])),rfl,rfl,rfl,rfl,rfl,trivial⟩,s3⟩
  refine .ld 1 s3 0 rfl<| .ln 0 (ha.l.ext s3.ext) rfl<| .ld 1 s3 1 rfl<| .ln 0 (hb.l.ext s3.ext) rfl<| .Z rfl ?_
  exact ⟨⟨If some (If Value.bool (by simp [g1,g2,g3,g4,g5,g6])),rfl,rfl,rfl,rfl,rfl,trivial⟩,s3⟩
 rintro L' w4 ⟨hw1,s4⟩
 refine .weaken _ hw1<| .ae rfl (λ c1=> ?_) λ c1=> ?_
 ·refine .Z rfl<| .aC rfl rfl ?_
  exact ⟨false,rfl,Sn (by decide) (λ e=>Nw c1 e),s4.pk []⟩
 refine .skip<| .seq<| .seq ?_
 obtain ⟨eA,hl2,hl3,hl4,hl5,hl6,hl7⟩:=LU c1
 refine .region<| .ld 1 s4 0 rfl<| .ln 0 (ha.t.ext s4.ext) rfl<| .Z rfl<| .block<| .lq [0,1,2,3,78] rfl (α:=Nat) (λ kt=>[(79,(.int .i64 kt))]) (λ kt w'=>Sat w s4.L w'/\(∀ (j:Nat) s t,j<kt->a.tk[j]? =some s->b.tk[j]? =some t->s.ns=t.ns)) (λ kt=>a.tk.length-kt) 0 ⟨s4,λ j s t h=>absurd h (by omega)⟩ ?_
 rintro kt w5 ⟨s6,hT⟩
 refine .Z rfl<| .seq<| .ae rfl (λ c2=> ?_) λ c2=> ?_
 ·refine .skip<| .seq<| .block<| .seq ?_
  obtain ⟨x,hx⟩:∃ x,(a.tk)[kt]? =some x:=⟨_,py c2⟩
  obtain ⟨y,hy⟩:∃ y,(b.tk)[kt]? =some y:=⟨_,py (by omega)⟩
  have hx5:=hsa.tr x (a7 hx)
  refine .U rfl<| .seq<| .seq<| .dk [0,1] s6 rfl (pl [0,1,2,3,4,5,6,7,8,9,10,11,12] .fin) λ s7 S1=> .ld 1 S1 0 rfl<| .ix 1 S1 (ha.t.ext ·.ext) rfl<| .le 0 S1 (ha.t.ext ·.ext) hx rfl<| .ln 0 S1 ((ha.tr x (a7 hx)).ext ·.ext) rfl<| .ld 1 S1 1 rfl<| .ix 1 S1 (hb.t.ext ·.ext) rfl<| .le 0 S1 (hb.t.ext ·.ext) hy rfl<| .ln 0 S1 ((hb.tr y (a7 hy)).ext ·.ext) rfl<| .Z S1 rfl<| .ae rfl (λ c3=> ?_) λ c3=> ?_
  ·refine .Z rfl<| .aC rfl rfl ?_
   exact ⟨false,rfl,Sn (by decide) (λ e=>c3 (If List.length (jx (If px.tk e) hx hy))),s7.pk []⟩
  refine .skip<| .h<| .ld 1 s7 0 rfl<| .ix 1 (ha.t.ext s7.ext) rfl<| .le 0 (ha.t.ext s7.ext) hx rfl<| .ln 0 ((ha.tr x (a7 hx)).ext s7.ext) rfl<| .Z rfl<| .block ?_
  have hxy:x.ns.length=y.ns.length:=Qf.1 c3
  refine .lq [0,1,2,3,5,78,79,100] rfl (α:=Nat) (λ j=>[(101,(.int .i64 j))]) (λ j w'=>Sat w s7.L w'/\(∀ (i:Nat) s t,i<j->x.ns[i]? =some s->y.ns[i]? =some t->s=t)) (λ j=>x.ns.length-j) 0 ⟨s7,λ i s t h=>absurd h (by omega)⟩ ?_
  rintro j w6 ⟨s9,hS⟩
  refine .Z rfl<| .seq<| .ae rfl (λ c4=> ?_) λ c4=> ?_
  ·refine .skip<| .seq<| .block<| .seq ?_
   obtain ⟨u,hu⟩:∃ u,(x.ns)[j]? =some u:=⟨_,py c4⟩
   obtain ⟨v,hv⟩:∃ v,(y.ns)[j]? =some v:=⟨_,py (by omega)⟩
   refine .U rfl<| .seq<| .dk [0,1] s9 rfl (pl [0,1,2,3,4,5,6,7,8,9,10,11,12,13,14,15,16] .fin) λ s10 S2=> .ld 1 S2 0 rfl<| .ix 1 S2 (ha.t.ext ·.ext) rfl<| .le 0 S2 (ha.t.ext ·.ext) hx rfl<| .ix 1 S2 ((ha.tr x (a7 hx)).ext ·.ext) rfl<| .le 0 S2 ((ha.tr x (a7 hx)).ext ·.ext) hu rfl<| .ld 1 S2 1 rfl<| .ix 1 S2 (hb.t.ext ·.ext) rfl<| .le 0 S2 (hb.t.ext ·.ext) hy rfl<| .ix 1 S2 ((hb.tr y (a7 hy)).ext ·.ext) rfl<| .le 0 S2 ((hb.tr y (a7 hy)).ext ·.ext) hv rfl<| .e rfl (λ _ hS=> .ed rfl rfl) S2<| .fin<| .ae rfl (λ c5=> ?_) λ c5=> ?_
   ·refine .Z rfl<| .aC rfl rfl ?_
    exact ⟨false,rfl,Sn (by decide) (λ e=>c5 (get_eq (jx (If px.tk e) hx hy) hu hv)),s10.pk []⟩
   refine .skip<| .U rfl ?_
   exact aT (j+1) ⟨s10,eS hS hu hv (Qf.1 c5)⟩
  refine .ao<| .U rfl ?_
  exact aT (kt+1) ⟨s9,eS hT hx hy (la hxy hS (by omega))⟩
 refine .ao<| .seq<| .seq ?_
 have eT:a.tk.map (·.ns)=b.tk.map (·.ns):=qk hl2 hT (by omega)
 refine .region<| .ld 1 s6 0 rfl<| .ln 0 (ha.x.ext s6.ext) rfl<| .Z rfl<| .block<| .lq [0,1,2,3,78,79,124,125] rfl (α:=Nat) (λ kx=>[(126,(.int .i64 kx))]) (λ kx w'=>Sat w s6.L w'/\(∀ (j:Nat) s t,j<kx->a.tx[j]? =some s->b.tx[j]? =some t->s.v=t.v)) (λ kx=>a.tx.length-kx) 0 ⟨s6,λ j s t h=>absurd h (by omega)⟩ ?_
 rintro kx w7 ⟨s12,hX⟩
 refine .Z rfl<| .seq<| .ae rfl (λ c6=> ?_) λ c6=> ?_
 ·refine .skip<| .seq<| .block<| .seq ?_
  obtain ⟨x,hx⟩:∃ x,(a.tx)[kx]? =some x:=⟨_,py c6⟩
  obtain ⟨y,hy⟩:∃ y,(b.tx)[kx]? =some y:=⟨_,py (by omega)⟩
  have hx5:=hsa.xr x (a7 hx)
  refine .region<| .ix 1 (ha.x.ext s12.ext) rfl<| .lg 0 (ha.x.ext s12.ext) hx rfl<| .al 0 s12 rfl λ b3 _ s13 _ _=> ?_
  have s13:=s13.nn
  refine .sa 1 s13 2 rfl ((aG).one _) λ _ s14 _=> .nil<| .h<| .ld 1 s14 1 rfl<| .ix 1 (hb.x.ext s14.ext) rfl<| .lg 0 (hb.x.ext s14.ext) hy rfl<| .al 0 s14 rfl λ b4 _ s15 _ _=> .sa 0 s15 3 rfl ((aG).one _) λ _ s16 _=> ?_
  have s16:=s16.nn
  refine .nil<| .seq<| .md [0,1,2,3,7,8,9,78,79,124,125,126] rfl (λ K L' w'=>Weak ([(162,(.bool (decide ((((x.nm≠y.nm)\/((x.b:Int)≠(y.b:Int)))\/((x.e:Int)≠(y.e:Int)))\/(¬ (x.ps=y.ps))))))]++K) L'/\Sat w s16.L w') ?_ ?_
  ·refine .region<| .ld 1 s16 2 rfl<| .ld 1 s16 3 rfl<| .e rfl (.ed rfl rfl)<| .z 1 rfl<| .B 141 rfl (λ g7=> ?_) λ g7=> ?_
   ·refine .Z rfl ?_
    exact ⟨⟨If some (If Value.bool (by simp [g7])),rfl,rfl,rfl,rfl,rfl,rfl,rfl,rfl,rfl,rfl,rfl,rfl,trivial⟩,s16⟩
   refine .ld 1 s16 2 rfl<| .ld 1 s16 3 rfl<| .a 0 rfl (.neq rfl rfl)<| .z 2 rfl<| .B 148 rfl (λ g8=> ?_) λ g8=> ?_
   ·refine .Z rfl ?_
    exact ⟨⟨If some (If Value.bool (by simp [g7,g8])),rfl,rfl,rfl,rfl,rfl,rfl,rfl,rfl,rfl,rfl,rfl,rfl,trivial⟩,s16⟩
   refine .ld 1 s16 2 rfl<| .ld 1 s16 3 rfl<| .a 0 rfl (.neq rfl rfl)<| .z 2 rfl<| .B 155 rfl (λ g9=> ?_) λ g9=> ?_
   ·refine .Z rfl ?_
    exact ⟨⟨If some (If Value.bool (by simp [g7,g8,g9])),rfl,rfl,rfl,rfl,rfl,rfl,rfl,rfl,rfl,rfl,rfl,rfl,trivial⟩,s16⟩
   refine .ld 1 s16 2 rfl<| .ld 1 s16 3 rfl<| .cp 0 s16 (ti _ _ (x.ps) (y.ps) _ ((ha.xr x (a7 hx)).ext s16.ext) ((hb.xr y (a7 hy)).ext s16.ext) (by omega)) rfl λ _ s17=> .a 0 rfl (.mF rfl)<| .Z rfl ?_
   exact ⟨⟨If some (If Value.bool (by simp [g7,g8,g9])),rfl,rfl,rfl,rfl,rfl,rfl,rfl,rfl,rfl,rfl,rfl,rfl,trivial⟩,s17⟩
  rintro L' w13 ⟨hw2,s18⟩
  refine .weaken _ hw2<| .ae rfl (λ c7=> ?_) λ c7=> ?_
  ·refine .Z rfl<| .aC rfl rfl ?_
   exact ⟨false,rfl,Sn (by decide) (λ e=>KF c7 (jx (If px.tx e) hx hy)),s18.pk []⟩
  refine .skip<| .U rfl ?_
  exact aT (kx+1) ⟨s18.pk [0,1],eS hX hx hy (KG c7)⟩
 refine .ao<| .seq<| .seq ?_
 have eX:a.tx.map Iv.v=b.tx.map Iv.v:=qk hl3 hX (by omega)
 refine .region<| .ld 1 s12 0 rfl<| .ln 0 (ha.r.ext s12.ext) rfl<| .Z rfl<| .block<| .lq [0,1,2,3,78,79,124,125,126,165,166] rfl (α:=Nat) (λ kr=>[(167,(.int .i64 kr))]) (λ kr w'=>Sat w s12.L w'/\(∀ (j:Nat) s t,j<kr->a.rg[j]? =some s->b.rg[j]? =some t->s.v=t.v)) (λ kr=>a.rg.length-kr) 0 ⟨s12,λ j s t h=>absurd h (by omega)⟩ ?_
 rintro kr w14 ⟨s21,hR⟩
 refine .Z rfl<| .seq<| .ae rfl (λ c8=> ?_) λ c8=> ?_
 ·refine .skip<| .seq<| .block<| .seq ?_
  obtain ⟨x,hx⟩:∃ x,(a.rg)[kr]? =some x:=⟨_,py c8⟩
  obtain ⟨y,hy⟩:∃ y,(b.rg)[kr]? =some y:=⟨_,py (by omega)⟩
  have hx5:=hsa.rr x (a7 hx)
  refine .region<| .ix 1 (ha.r.ext s21.ext) rfl<| .lg 0 (ha.r.ext s21.ext) hx rfl<| .al 0 s21 rfl λ b5 _ s22 _ _=> ?_
  have s22:=s22.nn
  refine .sa 1 s22 2 rfl ((aG).one _) λ _ s23 _=> .nil<| .h<| .ld 1 s23 1 rfl<| .ix 1 (hb.r.ext s23.ext) rfl<| .lg 0 (hb.r.ext s23.ext) hy rfl<| .al 0 s23 rfl λ b6 _ s24 _ _=> .sa 0 s24 3 rfl ((aG).one _) λ _ s25 _=> ?_
  have s25:=s25.nn
  refine .nil<| .seq<| .md [0,1,2,3,10,11,12,78,79,124,125,126,165,166,167] rfl (λ K L' w'=>Weak ([(203,(.bool (decide ((((x.nm≠y.nm)\/((x.b:Int)≠(y.b:Int)))\/((x.e:Int)≠(y.e:Int)))\/(¬ (x.ps=y.ps))))))]++K) L'/\Sat w s25.L w') ?_ ?_
  ·refine .region<| .ld 1 s25 2 rfl<| .ld 1 s25 3 rfl<| .e rfl (.ed rfl rfl)<| .z 1 rfl<| .B 182 rfl (λ g10=> ?_) λ g10=> ?_
   ·refine .Z rfl ?_
    exact ⟨⟨If some (If Value.bool (by simp [g10])),rfl,rfl,rfl,rfl,rfl,rfl,rfl,rfl,rfl,rfl,rfl,rfl,rfl,rfl,rfl,trivial⟩,s25⟩
   refine .ld 1 s25 2 rfl<| .ld 1 s25 3 rfl<| .a 0 rfl (.neq rfl rfl)<| .z 2 rfl<| .B 189 rfl (λ g11=> ?_) λ g11=> ?_
   ·refine .Z rfl ?_
    exact ⟨⟨If some (If Value.bool (by simp [g10,g11])),rfl,rfl,rfl,rfl,rfl,rfl,rfl,rfl,rfl,rfl,rfl,rfl,rfl,rfl,rfl,trivial⟩,s25⟩
   refine .ld 1 s25 2 rfl<| .ld 1 s25 3 rfl<| .a 0 rfl (.neq rfl rfl)<| .z 2 rfl<| .B 196 rfl (λ g12=> ?_) λ g12=> ?_
   ·refine .Z rfl ?_
    exact ⟨⟨If some (If Value.bool (by simp [g10,g11,g12])),rfl,rfl,rfl,rfl,rfl,rfl,rfl,rfl,rfl,rfl,rfl,rfl,rfl,rfl,rfl,trivial⟩,s25⟩
   refine .ld 1 s25 2 rfl<| .ld 1 s25 3 rfl<| .cp 0 s25 (ti _ _ (x.ps) (y.ps) _ ((ha.rr x (a7 hx)).ext s25.ext) ((hb.rr y (a7 hy)).ext s25.ext) (by omega)) rfl λ _ s26=> .a 0 rfl (.mF rfl)<| .Z rfl ?_
   exact ⟨⟨If some (If Value.bool (by simp [g10,g11,g12])),rfl,rfl,rfl,rfl,rfl,rfl,rfl,rfl,rfl,rfl,rfl,rfl,rfl,rfl,rfl,trivial⟩,s26⟩
  rintro L' w20 ⟨hw3,s27⟩
  refine .weaken _ hw3<| .ae rfl (λ c9=> ?_) λ c9=> ?_
  ·refine .Z rfl<| .aC rfl rfl ?_
   exact ⟨false,rfl,Sn (by decide) (λ e=>KF c9 (jx (If px.rg e) hx hy)),s27.pk []⟩
  refine .skip<| .U rfl ?_
  exact aT (kr+1) ⟨s27.pk [0,1],eS hR hx hy (KG c9)⟩
 refine .ao<| .seq<| .seq ?_
 have eR:a.rg.map Iv.v=b.rg.map Iv.v:=qk hl4 hR (by omega)
 refine .region<| .ld 1 s21 0 rfl<| .ln 0 (ha.n.ext s21.ext) rfl<| .Z rfl<| .block<| .lq [0,1,2,3,78,79,124,125,126,165,166,167,207] rfl (α:=Nat) (λ kn=>[(208,(.int .i64 kn))]) (λ kn w'=>Sat w s21.L w'/\(∀ (j:Nat) s t,j<kn->a.nd[j]? =some s->b.nd[j]? =some t->s=t)) (λ kn=>a.nd.length-kn) 0 ⟨s21,λ j s t h=>absurd h (by omega)⟩ ?_
 rintro kn w21 ⟨s30,hN⟩
 refine .Z rfl<| .seq<| .ae rfl (λ c10=> ?_) λ c10=> ?_
 ·refine .skip<| .seq<| .block<| .seq ?_
  obtain ⟨x,hx⟩:∃ x,(a.nd)[kn]? =some x:=⟨_,py c10⟩
  obtain ⟨y,hy⟩:∃ y,(b.nd)[kn]? =some y:=⟨_,py (by omega)⟩
  refine .U rfl<| .seq<| .dk [0,1] s30 rfl (pl [0,1,2,3,4,5,6,7,8,9,10] .fin) λ s31 S3=> .ld 1 S3 0 rfl<| .ix 1 S3 (ha.n.ext ·.ext) rfl<| .lg 0 S3 (ha.n.ext ·.ext) hx rfl<| .ld 1 S3 1 rfl<| .ix 1 S3 (hb.n.ext ·.ext) rfl<| .lg 0 S3 (hb.n.ext ·.ext) hy rfl<| .e rfl (λ _ hS=> .MN (a:=x) (b:=y) Ls I5 rfl rfl) S3<| .fin<| .ae rfl (λ c11=> ?_) λ c11=> ?_
  ·refine .Z rfl<| .aC rfl rfl ?_
   exact ⟨false,rfl,Sn (by decide) (λ e=>c11 (get_eq (If px.nd e) hx hy)),s31.pk []⟩
  refine .skip<| .U rfl ?_
  exact aT (kn+1) ⟨s31,eS hN hx hy (Qf.1 c11)⟩
 refine .ao<| .seq<| .seq ?_
 have eN:a.nd=b.nd:=la hl5 hN (by omega)
 refine .region<| .ld 1 s30 0 rfl<| .ln 0 (ha.h.ext s30.ext) rfl<| .Z rfl<| .block<| .lq [0,1,2,3,78,79,124,125,126,165,166,167,207,208,225] rfl (α:=Nat) (λ kh=>[(226,(.int .i64 kh))]) (λ kh w'=>Sat w s30.L w'/\(∀ (j:Nat) s t,j<kh->a.hd[j]? =some s->b.hd[j]? =some t->s=t)) (λ kh=>a.hd.length-kh) 0 ⟨s30,λ j s t h=>absurd h (by omega)⟩ ?_
 rintro kh w22 ⟨s33,hH⟩
 refine .Z rfl<| .seq<| .ae rfl (λ c12=> ?_) λ c12=> ?_
 ·refine .skip<| .seq<| .block<| .seq ?_
  obtain ⟨x,hx⟩:∃ x,(a.hd)[kh]? =some x:=⟨_,py c12⟩
  obtain ⟨y,hy⟩:∃ y,(b.hd)[kh]? =some y:=⟨_,py (by omega)⟩
  refine .U rfl<| .seq<| .dk [0,1] s33 rfl (pl [0,1,2,3,4,5,6,7,8,9,10] .fin) λ s34 S4=> .ld 1 S4 0 rfl<| .ix 1 S4 (ha.h.ext ·.ext) rfl<| .le 0 S4 (ha.h.ext ·.ext) hx rfl<| .ld 1 S4 1 rfl<| .ix 1 S4 (hb.h.ext ·.ext) rfl<| .le 0 S4 (hb.h.ext ·.ext) hy rfl<| .e rfl (λ _ hS=> .neq rfl rfl) S4<| .fin<| .ae rfl (λ c13=> ?_) λ c13=> ?_
  ·refine .Z rfl<| .aC rfl rfl ?_
   exact ⟨false,rfl,Sn (by decide) (λ e=>c13 (get_eq (If px.hd e) hx hy)),s34.pk []⟩
  refine .skip<| .U rfl ?_
  exact aT (kh+1) ⟨s34,eS hH hx hy (Qf.1 c13)⟩
 refine .ao<| .seq<| .seq ?_
 have eH:a.hd=b.hd:=la hl6 hH (by omega)
 refine .region<| .ld 1 s33 0 rfl<| .ln 0 (ha.l.ext s33.ext) rfl<| .Z rfl<| .block<| .lq [0,1,2,3,78,79,124,125,126,165,166,167,207,208,225,226,243] rfl (α:=Nat) (λ kl=>[(244,(.int .i64 kl))]) (λ kl w'=>Sat w s33.L w'/\(∀ (j:Nat) s t,j<kl->a.rl[j]? =some s->b.rl[j]? =some t->s=t)) (λ kl=>a.rl.length-kl) 0 ⟨s33,λ j s t h=>absurd h (by omega)⟩ ?_
 rintro kl w23 ⟨s36,hL⟩
 refine .Z rfl<| .seq<| .ae rfl (λ c14=> ?_) λ c14=> ?_
 ·refine .skip<| .seq<| .block<| .seq ?_
  obtain ⟨x,hx⟩:∃ x,(a.rl)[kl]? =some x:=⟨_,py c14⟩
  obtain ⟨y,hy⟩:∃ y,(b.rl)[kl]? =some y:=⟨_,py (by omega)⟩
  refine .U rfl<| .seq<| .dk [0,1] s36 rfl (pl [0,1,2,3,4,5,6,7,8,9,10] .fin) λ s37 S5=> .ld 1 S5 0 rfl<| .ix 1 S5 (ha.l.ext ·.ext) rfl<| .le 0 S5 (ha.l.ext ·.ext) hx rfl<| .ld 1 S5 1 rfl<| .ix 1 S5 (hb.l.ext ·.ext) rfl<| .le 0 S5 (hb.l.ext ·.ext) hy rfl<| .e rfl (λ _ hS=> .ed rfl rfl) S5<| .fin<| .ae rfl (λ c15=> ?_) λ c15=> ?_
  ·refine .Z rfl<| .aC rfl rfl ?_
   exact ⟨false,rfl,Sn (by decide) (λ e=>c15 (get_eq (If px.rl e) hx hy)),s37.pk []⟩
  refine .skip<| .U rfl ?_
  exact aT (kl+1) ⟨s37,eS hL hx hy (Qf.1 c15)⟩
 refine .ao<| .Z rfl<| .aC rfl rfl ?_
 exact ⟨true,rfl,iff_of_true rfl (show px.mk _ _ _ _ _ _ _=_ by rw [eA,eT,eX,eR,eN,eH,la hl7 hL (by omega)]<;>rfl),s36.pk []⟩
end Go.Proofs.YthffkcnbdehceaaGreat
