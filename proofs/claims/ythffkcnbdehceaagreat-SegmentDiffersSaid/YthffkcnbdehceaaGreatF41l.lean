/-The walks of the functions of F41l,printed by our own program (kwgen.py) out of our descriptions (base.py). -/
import Derived.Test.YthffkcnbdehceaaGreatF41v
open List
set_option linter.unusedVariables false
set_option linter.unusedSimpArgs false
set_option linter.unusedSectionVars false
namespace Go.Proofs.YthffkcnbdehceaaGreat
open Go.RowKit Go.Kw
set_option maxRecDepth 100000
theorem beq_iff {P Q:Prop} [Decidable P] {q:Bool} (h:P↔Q) (hq:q=true↔Q):(decide P==q)=true:=by
 cases q with
 |true=>rw [decide_eq_true (h.2 (hq.1 rfl))]<;>rfl
 |false=>rw [decide_eq_false λ p=>by have:=hq.2 (h.1 p);cases this]<;>rfl
theorem Fx {j k:Nat} {a b:Co} (ha:OkC j a) (hb:OkC k b) (hj:j<=3) (hk:k<=3):strOf (aE (di lexB bQ a.v))=strOf (aE (di lexB bQ b.v))↔a.v=b.v:=
 ⟨λ h=>J1 ha hb (by omega) (by omega) ((vJ (gV (tK kB kC _)) (gV (tK kB kC _))).1 h),λ h=>by rw [h]⟩
theorem AU (v u:Value) (zs ys:List Int) (w:World) (hv:RdL w v (Kw.encI .i64) zs) (hu:RdL w u (Kw.encI .i64) ys):
  CallsV Tryz.prog 5 [v,u] w λ r w'=>r= .bool true/\Sat w [] w':=by
 have hs0:=Sat.start w
 refine ae Tryz.func5 rfl rfl ?_
 refine .Z rfl<| .h<| .z 1 rfl ?_
 have A1:=hs0.tail.oc [] 0
 refine .c 0 (ri _ _ _ _ (zs) A1 hv) rfl λ r1 _ h1=> ?_
 obtain ⟨tg1,rfl,p1⟩:=h1
 have s1:=(Sat.order [0] (by decide) p1.join).aF.nn
 have A2:=s1.tail.oc [0] 1
 refine .c 0 (iV _ _ _ _ (4) A2 (by decide) (by decide)) rfl λ r2 _ h2=> ?_
 obtain ⟨mc1,mF1,mn1,rfl,hmc13,hmc1o,p2⟩:=h2
 have s2:=(Sat.order [0] (by decide) p2.join).aF.nn
 refine .z 1 rfl ?_
 have A3:=s2.tail.oc [0] 0
 refine .c 0 (ri _ _ _ _ (ys) A3 hu) rfl λ r3 _ h3=> ?_
 obtain ⟨tg2,rfl,p3⟩:=h3
 have s3:=(Sat.order [1,0] (by decide) p3.join).aF.nn
 have A4:=s3.tail.oc [1,0] 1
 refine .c 0 (iV _ _ _ _ (4) A4 (by decide) (by decide)) rfl λ r4 _ h4=> ?_
 obtain ⟨mc2,mF2,mn2,rfl,hmc23,hmc2o,p4⟩:=h4
 have s4:=(Sat.order [1,0] (by decide) p4.join).aF.nn
 refine .al 0 s4 rfl λ b1 _ s5 _ _=> .al 0 s5 rfl λ b2 _ s6 _ _=> .sa 0 s6 2 (vs:=[mc1.va,mc1.vt,mc1.vx,mc1.vr,mc1.vn,mc1.vh,mc1.vl]) rfl (λ v h=>by simp only [mem_cons,not_mem_nil,or_false] at h;rcases h with rfl|rfl|rfl|rfl|rfl|rfl|rfl;exact (s6.aO 0 rfl).a.a7;exact (s6.aO 0 rfl).t.a7;exact (s6.aO 0 rfl).x.a7;exact (s6.aO 0 rfl).r.a7;exact (s6.aO 0 rfl).n.a7;exact (s6.aO 0 rfl).h.a7;exact (s6.aO 0 rfl).l.a7) λ _ s7 _=> ?_
 have s7:=s7.nn
 refine .sa 0 s7 3 (vs:=[mc2.va,mc2.vt,mc2.vx,mc2.vr,mc2.vn,mc2.vh,mc2.vl]) rfl (λ v h=>by simp only [mem_cons,not_mem_nil,or_false] at h;rcases h with rfl|rfl|rfl|rfl|rfl|rfl|rfl;exact (s7.aO 1 rfl).a.a7;exact (s7.aO 1 rfl).t.a7;exact (s7.aO 1 rfl).x.a7;exact (s7.aO 1 rfl).r.a7;exact (s7.aO 1 rfl).n.a7;exact (s7.aO 1 rfl).h.a7;exact (s7.aO 1 rfl).l.a7) λ _ s8 _=> .nil<| .h<| .lo 0 s8 2 rfl<| .cp 0 s8 (gj mc1 mn1 _ (s8.aO 0 rfl) hmc1o hmc13) rfl λ _ s9=> .Z rfl<| .h<| .lo 0 s9 3 rfl<| .cq 0 s9 (gj mc2 mn2 _ (s9.aO 1 rfl) hmc2o hmc23) rfl λ _ s10=> .Z rfl<| .h<| .a 9 rfl (.fh rfl rfl)<| .lo 0 s10 2 rfl<| .lo 0 s10 3 rfl<| .c 0 (ky mc1 mc2 _ (s10.aO 0 rfl) (s10.aO 1 rfl) (hmc1o.sm (by omega))) rfl λ r7 _ h7=> ?_
 obtain ⟨eq1,rfl,heq1,p7⟩:=h7
 have s11:=s10.aD p7
 refine .a 0 rfl (.PL Tryz.underlying4 rfl rfl)<| .z 2 rfl<| .Gt 42 rfl (beq_iff (Fx hmc1o hmc2o hmc13 hmc23) heq1)<| .cp 0 s11 (ly _) rfl λ _ s12=> .Z rfl<| .aC rfl rfl ?_
 exact ⟨rfl,s12.pk []⟩
end Go.Proofs.YthffkcnbdehceaaGreat
