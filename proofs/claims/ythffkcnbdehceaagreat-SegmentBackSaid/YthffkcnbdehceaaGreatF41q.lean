/-The walks of the functions of F41q,printed by our own program (kwgen.py) out of our descriptions (base.py). -/
import Derived.Test.YthffkcnbdehceaaGreatF41p
open Go.Proofs.Tryz
set_option linter.unusedVariables false
set_option linter.unusedSimpArgs false
set_option linter.unusedSectionVars false
namespace Go.Proofs.YthffkcnbdehceaaGreat
open Go.RowKit Go.Kw
set_option maxRecDepth 100000
theorem NU {w0 w:World} {cs:List Chunk} {i b T:Nat} {c:Co} {iv:Value} (h:Sat w0 cs w) (hi:cs[i]? =some (aj b T [c.va,c.vt,c.vx,c.vr,c.vn,c.vh,c.vl,iv])):∀ (j:Nat) u,[c.va,c.vt,c.vx,c.vr,c.vn,c.vh,c.vl][j]? =some u->w.cell? ⟨b,j,none⟩=some u:=λ j u hu=>h.cell hi (by
 have hj:=(List.getElem?_eq_some_iff.1 hu).1
 rw [show [c.va,c.vt,c.vx,c.vr,c.vn,c.vh,c.vl,iv]=[c.va,c.vt,c.vx,c.vr,c.vn,c.vh,c.vl]++[iv] from rfl,List.getElem?_append_left hj];exact hu)
theorem DO {c:Co} {n:Nat} {w:World} (ho:OkC n c) (hn:n<=3):CallsV prog 18 [.string (strOf (aE (di lexB bQ c.v)))] w λ r w'=>∃ (d:Co) (iv:SV) (g:Nat) (F:List Nat),r= .tuple #[.pointer (some ⟨g,0,none⟩),.int .i64 ((0:Nat):Int)]/\c.v=d.v/\Sat w [aj g 102 [d.va,d.vt,d.vx,d.vr,d.vn,d.vh,d.vl,iv.val],fa F (λ w1=>RdC w1 d)] w':=
 (vH true _ c w (vI ho hn)).mono λ r w' hq=>by
  rcases hq with ⟨_,h,_⟩|⟨d,iv,g,F,h1,h2,h3⟩
  ·exact (h rfl).elim
  exact ⟨d,iv,g,F,h1,h2.1,h3⟩
theorem FB (c:Co) (g:Nat) (w:World) (hg:∀ (j:Nat) u,[c.va,c.vt,c.vx,c.vr,c.vn,c.vh,c.vl][j]? =some u->w.cell? ⟨g,j,none⟩=some u) (hr:RdC w c):
  CallsV prog 20 [(.pointer (some ⟨g,0,none⟩))] w λ r w'=>r= .int .i64 (c.tk.length:Int)/\Sat w [] w':=by
 have hs0:=Sat.start w
 refine ae func20 rfl rfl ?_
 refine .Z rfl<| .h<| .a 4 rfl (.load MR rfl (hs0.ext _ _ (hg 1 _ rfl)))<| .ln 0 (hr.t.ext hs0.ext) rfl<| .Z rfl<| .aC rfl rfl ?_
 exact ⟨rfl,hs0.pk []⟩
set_option maxHeartbeats 1000000 in
theorem J8 (v:Value) (zs:List Int) (w:World) (hv:RdL w v (Kw.encI .i64) zs):
  CallsV prog 7 [v] w λ r w'=>r= .bool true/\Sat w [] w':=by
 have hs0:=Sat.start w
 refine ae func7 rfl rfl ?_
 refine .Z rfl<| .h<| .z 1 rfl ?_
 have A1:=hs0.tail.oc [] 0
 refine .c 0 (ri _ _ _ _ (zs) A1 hv) rfl λ r1 _ h1=> ?_
 obtain ⟨tg1,rfl,p1⟩:=h1
 have s1:=(Sat.order [0] (by decide) p1.join).aF.nn
 have A2:=s1.tail.oc [0] 1
 refine .c 0 (iV _ _ _ _ (7) A2 (by decide) (by decide)) rfl λ r2 _ h2=> ?_
 obtain ⟨mc1,mF1,mn1,rfl,hmc13,hmc1o,p2⟩:=h2
 have s2:=(Sat.order [0] (by decide) p2.join).aF.nn
 refine .al 0 s2 rfl λ b1 _ s3 _ _=> .sa 0 s3 1 (vs:=[mc1.va,mc1.vt,mc1.vx,mc1.vr,mc1.vn,mc1.vh,mc1.vl]) rfl (oc ⟨(s3.aO 0 rfl).a.a7,(s3.aO 0 rfl).t.a7,(s3.aO 0 rfl).x.a7,(s3.aO 0 rfl).r.a7,(s3.aO 0 rfl).n.a7,(s3.aO 0 rfl).h.a7,(s3.aO 0 rfl).l.a7,trivial⟩) λ _ s4 _=> .nil<| .h<| .lo 0 s4 1 rfl<| .cq 0 s4 (gj mc1 mn1 _ (s4.aO 0 rfl) hmc1o hmc13) rfl λ _ s5=> .Z rfl<| .h<| .c 1 (qe (c:=mc1) (n:=mn1) hmc1o hmc13) rfl λ r4 _ h4=> ?_
 obtain ⟨ed1,eF1,rfl,hed1v,p4⟩:=h4
 have s6:=s5.aD p4
 refine .al 3 s6 rfl λ b2 _ s7 _ _=> .sa 0 s7 3 (vs:=[ed1.va,ed1.vt,ed1.vx,ed1.vr,ed1.vn,ed1.vh,ed1.vl]) rfl (oc ⟨(s7.aO 2 rfl).a.a7,(s7.aO 2 rfl).t.a7,(s7.aO 2 rfl).x.a7,(s7.aO 2 rfl).r.a7,(s7.aO 2 rfl).n.a7,(s7.aO 2 rfl).h.a7,(s7.aO 2 rfl).l.a7,trivial⟩) λ _ s8 _=> ?_
 have s8:=s8.nn
 refine .Z rfl<| .h<| .c 1 (DO (c:=mc1) (n:=mn1) hmc1o hmc13) rfl λ r5 _ h5=> ?_
 obtain ⟨od1,oi1,og1,oF1,rfl,hod1v,p5⟩:=h5
 have s9:=s8.aD p5
 refine .Z rfl<| .seq<| .dk [0,1,2,3,4,5] s9 rfl (pl [0,1,2,3,4,5,6,7,8,9,10,11,12,1013,14,15,16,18,1017,1019,20,21,22,24,25,26,1023,27,28,29,1030,31,32] .fin) λ s10 S1=> .a 11 S1 rfl (λ _ s=> .eV da rfl s (i:=1) rfl rfl)<| .a 0 S1 rfl (λ _ s=> .eV da rfl s (i:=3) rfl rfl)<| .c 0 S1 (ky mc1 ed1 _ (s10.aO 0 rfl) (s10.aO 2 rfl) (hmc1o.sm (by omega))) rfl λ r6 _ h6=> ?_
 obtain ⟨eq1,rfl,heq1,p6⟩:=h6
 have s11:=s10.aD p6
 have S2:=s11.pk [0,1,2,3,4,5]
 refine ⟨S2,?_⟩
 refine .z 2 S2 rfl<| .Gt 43 rfl (heq1.2 hed1v)<| .a 1 S2 rfl (λ _ s=> .eV da rfl s (i:=1) rfl rfl)<| .c 0 S2 (yw od1 mn1 _ _ (NU s11 (i:=4) rfl) (s11.aO 5 rfl) (hmc1o.KO hod1v) hmc13) rfl λ r7 _ h7=> ?_
 obtain ⟨xc1,xF1,rfl,hxc1,p7⟩:=h7
 have s12:=(s11.aD p7).nn
 have S3:=s12.pk [0,1,2,3,4,5]
 refine ⟨S3,?_⟩
 refine .c 0 S3 (ky xc1 mc1 _ (s12.aO 6 rfl) (s12.aO 0 rfl) (((hmc1o.KO hod1v).KO hxc1).sm (by omega))) rfl λ r8 _ h8=> ?_
 obtain ⟨eq2,rfl,heq2,p8⟩:=h8
 have s13:=s12.aD p8
 have S4:=s13.pk [0,1,2,3,4,5]
 refine ⟨S4,?_⟩
 refine .z 2 S4 rfl<| .Gt 49 rfl (heq2.2 (hod1v.trans hxc1).symm)<| .ld 2 S4 1 rfl<| .ln 0 S4 (λ s=>(s.aO 0 rfl).t) rfl<| .c 0 S4 (FB od1 _ _ (NU s13 (i:=4) rfl) (s13.aO 5 rfl)) rfl λ r9 _ h_9=> ?_
 obtain ⟨rfl,p9⟩:=h_9
 have s14:=s13.aD p9
 have S5:=s14.pk [0,1,2,3,4,5]
 refine ⟨S5,?_⟩
 refine .z 3 S5 rfl<| .Gt 57 rfl (decide_eq_true (by have h9:=congrArg (λ q:mu=>q.tk.length) hod1v;simp only [Co.v,List.length_map] at h9;omega))<| .c 0 S5 (ly _) rfl λ r10 _ h10=> ?_
 obtain ⟨rfl,p10⟩:=h10
 have s15:=(s14.aD p10).nn
 have S6:=s15.pk [0,1,2,3,4,5]
 refine ⟨S6,?_⟩
 refine .Z S6 rfl<| .aC rfl rfl ?_
 exact ⟨rfl,s15.pk []⟩
end Go.Proofs.YthffkcnbdehceaaGreat
