/-The walks of the functions of F41o,printed by our own program (kwgen.py) out of our descriptions (base.py). -/
import Derived.Test.YthffkcnbdehceaaGreatF41v
import Derived.Test.YthffkcnbdehceaaGreatKcl
set_option linter.unusedVariables false
set_option linter.unusedSimpArgs false
set_option linter.unusedSectionVars false
namespace Go.Proofs.YthffkcnbdehceaaGreat
open Go.RowKit Go.Kw
set_option maxRecDepth 100000
theorem vH (X:Bool) (x:ByteArray) (c:Co) (w:World) (hR:P6 X x c):
  CallsV Tryz.prog 18 [(.string x)] w λ r w'=>(r= .tuple #[.pointer none,.int .i64 ((9:Nat):Int)]/\(X=true->False)/\Sat w [] w')\/∃ (d:Co) (iv:SV) (g:Nat) (F:List Nat),r= .tuple #[.pointer (some ⟨g,0,none⟩),.int .i64 ((0:Nat):Int)]/\(c.v=d.v/\strOf (aE (di lexB bQ c.v))=x)/\Sat w [aj g 102 [d.va,d.vt,d.vx,d.vr,d.vn,d.vh,d.vl,iv.val],fa F (λ w1=>RdC w1 d)] w':=by
 refine cc Tryz.func18 rfl λ hs0=> .Z rfl<| .h<| .c 1 (hR _) rfl λ r1 _ h1=> ?_
 obtain ⟨rd1,riv1,okb1,rF1,rfl,hokb11,hokb12,p1⟩:=h1
 have s1:=hs0.aD p1
 refine .al 4 s1 rfl λ b1 _ s2 _ _=> .sa 0 s2 1 (vs:=[rd1.va,rd1.vt,rd1.vx,rd1.vr,rd1.vn,rd1.vh,rd1.vl]) rfl (oc ⟨(s2.aO 0 rfl).a.a7,(s2.aO 0 rfl).t.a7,(s2.aO 0 rfl).x.a7,(s2.aO 0 rfl).r.a7,(s2.aO 0 rfl).n.a7,(s2.aO 0 rfl).h.a7,(s2.aO 0 rfl).l.a7,trivial⟩) λ _ s3 _=> ?_
 have s3:=s3.nn
 refine .Z rfl<| .seq<| .h<| .a 1 rfl (.cB rfl)<| .nil<| .cond rfl (λ c1=> ?_) (λ c1=> ?_)
 ·refine .Z rfl<| .bG rfl rfl rfl ?_
  exact .inl ⟨rfl,λ h=>(by have h9:=hokb12 h;rw [h9] at c1;cases c1),s3.pk []⟩
 refine .skip<| .h<| .lo 0 s3 1 rfl<| .a 1 rfl (.BS (vs:=[(0,.agg [rd1.va,rd1.vt,rd1.vx,rd1.vr,rd1.vn,rd1.vh,rd1.vl].toArray),(1,riv1.val)]) (out:=[rd1.va,rd1.vt,rd1.vx,rd1.vr,rd1.vn,rd1.vh,rd1.vl,riv1.val]) Oi rfl (by kernel_rfl))<| .bx 0 s3 rfl λ b2 _ s5 _ _=> .Z rfl<| .bG rfl rfl rfl ?_
 have s6:=(Sat.order [2,0,1] (by decide) s5.tail).aF.pk [0,1]
 exact .inr ⟨rd1,riv1,b2,rF1,rfl,hokb11 (by simpa using c1),s6⟩
end Go.Proofs.YthffkcnbdehceaaGreat
