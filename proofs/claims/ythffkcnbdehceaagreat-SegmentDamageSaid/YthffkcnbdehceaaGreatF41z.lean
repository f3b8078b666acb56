/-The walks of the functions of F41z,printed by our own program (kwgen.py) out of our descriptions (base.py). -/
import Derived.Test.YthffkcnbdehceaaGreatF41y
open Go.Proofs.Tryz
set_option linter.unusedVariables false
set_option linter.unusedSimpArgs false
set_option linter.unusedSectionVars false
namespace Go.Proofs.YthffkcnbdehceaaGreat
open Go.RowKit Go.Kw
set_option maxRecDepth 100000
theorem FF {c:Co} {n:Nat} {x:ByteArray} {w:World} (ho:OkC n c) (hn:n<=3) (hz:x.size<=60000000) (h:∀ p,aV x=aE p->Agr p (di lexB bQ c.v)) (hne:strOf (aE (di lexB bQ c.v))≠x):CallsV prog 18 [.string x] w λ r w'=>r= .tuple #[.pointer none,.int .i64 ((9:Nat):Int)]/\Sat w [] w':=
 (vH false x c w (yx ho hn hz h)).mono λ r w' hq=>by
  rcases hq with ⟨h1,_,h2⟩|⟨d,iv,g,F,_,h3,_⟩
  ·exact ⟨h1,h2⟩
  exact absurd h3.2 hne
theorem DS (v:Value) (zs:List Int) (q:Int) (b:Nat) (w:World) (hv:RdL w v (Kw.encI .i64) zs) (hb:b<256):
  CallsV prog 6 [v,(.int .i64 (q)),(.int .u8 b)] w λ r w'=>r= .bool true/\Sat w [] w':=by
 have hs0:=Sat.start w
 refine ae func6 rfl rfl ?_
 refine .Z rfl<| .h<| .z 1 rfl ?_
 have A1:=hs0.tail.oc [] 0
 refine .c 0 (ri _ _ _ _ (zs) A1 hv) rfl λ r1 _ h1=> ?_
 obtain ⟨tg1,rfl,p1⟩:=h1
 have s1:=(Sat.order [0] (by decide) p1.join).aF.nn
 have A2:=s1.tail.oc [0] 1
 refine .c 0 (iV _ _ _ _ (5) A2 (by decide) (by decide)) rfl λ r2 _ h2=> ?_
 obtain ⟨mc1,mF1,mn1,rfl,hmc13,hmc1o,p2⟩:=h2
 have s2:=(Sat.order [0] (by decide) p2.join).aF.nn
 refine .cp 0 s2 (gj mc1 mn1 _ (s2.aO 0 rfl) hmc1o hmc13) rfl λ _ s3=> .Z rfl<| .seq<| .seq ?_
 have hs3:=(rz (X:=lexB) (T:=bQ) mc1).2
 have hsl:=C8 hmc1o hmc13
 have hpb:=tK kB kC mc1.v
 have hsb:aV (strOf (aE (di lexB bQ mc1.v)))=aE (di lexB bQ mc1.v):=dd (gV hpb)
 have hsz:(strOf (aE (di lexB bQ mc1.v))).size=(di lexB bQ mc1.v).length+4:=by rw [bX,aY]
 refine .region<| .a 4 rfl (.bP underlying9 rfl)<| .Z rfl<| .ak rfl (decide_eq_false (by omega))<| .skip<| .h<| .a 2 rfl (.bP underlying9 rfl)<| .c 0 (Ao (q) ((strOf (aE (di lexB bQ mc1.v))).size) _ (by omega) (by omega)) rfl λ r4 _ h4=> ?_
 obtain ⟨mk1,rfl,hmk1,p4⟩:=h4
 have s4:=s3.aD p4
 refine .Z rfl<| .seq ?_
 obtain ⟨x,hx⟩:∃ x,(aV (strOf (aE (di lexB bQ mc1.v))))[mk1]? =some x:=⟨_,List.getElem?_eq_getElem (by rw [az];omega)⟩
 refine .region<| .b 1 rfl (.PI underlying9 underlying45 underlying5 s4 rfl (by omega) λ v1 _ s5=> ?_)
 have s5:=s5.nn
 refine .Z rfl<| .jn [0,1,7,9,10] rfl (λ K L' w'=>∃ (b2:Nat),Weak ([(2,(.int .u8 b2))]++K) L'/\Sat w s5.L w'/\(b2<256)/\(¬ x=b2)) ?_ ?_
 ·refine .h<| .ix 2 (s5.KJ 1 rfl) rfl (hj:=by rw [az];omega)<| .le 0 (s5.KJ 1 rfl) hx rfl<| .Z rfl<| .ab rfl (λ c1=> ?_) λ c1=> ?_
  ·refine .region<| .a 1 rfl (.Nk (b:=1) rfl rfl rfl)<| .Z rfl ?_
   exact ⟨((b+1)%2^8),(wk rfl),s5,by omega,λ h=>by have h9:=c1;omega⟩
  refine .skip ?_
  exact ⟨b,(wk rfl),s5,hb,λ h=>c1 (by omega)⟩
 rintro L' w6 ⟨b2,hw1,s6,hb2,hne⟩
 refine .weaken _ hw1<| .h<| .ix 3 (s6.KJ 1 rfl) rfl (hj:=by rw [az];omega)<| .f rfl (.ON (a:=b2) 1 Of s6 rfl rfl rfl (by rw [az];omega) λ _ s7=> ?_)
 refine .nil<| .seq ?_
 have pO:=Kc hsb hpb hb2 (k:=mk1) (by omega) (by rw [hx];intro h;exact hne (Option.some.inj h))
 have hd2:=Kd hsb (k:=mk1) (by omega)
 have hd3:=Ke hsb hb2
 refine .region<| .a 1 rfl (.dw underlying45 underlying9 underlying5 rfl (s7.KJ 1 rfl))<| .c 0 (sK hmc1o hmc13 (by have h9:=pO.1;omega) pO.2.1 pO.2.2) rfl λ r5 _ h5=> ?_
 obtain ⟨ed1,eF1,rfl,p5⟩:=h5
 have s8:=s7.aD p5
 refine .al 3 s8 rfl λ b1 _ s9 _ _=> ?_
 have s9:=s9.nn
 refine .sa 0 s9 3 (vs:=[ed1.va,ed1.vt,ed1.vx,ed1.vr,ed1.vn,ed1.vh,ed1.vl]) rfl (oc ⟨(s9.aO 2 rfl).a.a7,(s9.aO 2 rfl).t.a7,(s9.aO 2 rfl).x.a7,(s9.aO 2 rfl).r.a7,(s9.aO 2 rfl).n.a7,(s9.aO 2 rfl).h.a7,(s9.aO 2 rfl).l.a7,trivial⟩) λ _ s10 _=> .Z rfl<| .h<| .a 2 rfl (.gI (l:=0) (h:=mk1) underlying9 rfl rfl ⟨_,rfl⟩ (Nat.zero_le _) (by omega))<| .cp 0 s10 (FF hmc1o hmc13 (by have h9:=hd2.1;omega) hd2.2.1 hd2.2.2) rfl λ _ s11=> .Z rfl<| .h<| .b 2 rfl (.cM (a8 .u8) b2 cg rfl s11 rfl λ v2 _ s12 _=> ?_)
 have s12:=s12.nn
 refine .e rfl (.dw underlying45 underlying9 underlying5 rfl (s12.ah 4 rfl))<| .e rfl (.I9 rfl rfl (by have h9:=bX [b2];rw [List.length_singleton] at h9;omega))<| .c 0 (sK hmc1o hmc13 (by have h9:=hd3.1;omega) hd3.2.1 hd3.2.2) rfl λ r7 _ h7=> ?_
 obtain ⟨ed2,eF2,rfl,p7⟩:=h7
 have s13:=s12.aD p7
 refine .al 3 s13 rfl λ b_2 _ s14 _ _=> .sa 0 s14 6 (vs:=[ed2.va,ed2.vt,ed2.vx,ed2.vr,ed2.vn,ed2.vh,ed2.vl]) rfl (oc ⟨(s14.aO 5 rfl).a.a7,(s14.aO 5 rfl).t.a7,(s14.aO 5 rfl).x.a7,(s14.aO 5 rfl).r.a7,(s14.aO 5 rfl).n.a7,(s14.aO 5 rfl).h.a7,(s14.aO 5 rfl).l.a7,trivial⟩) λ _ s15 _=> ?_
 have s15:=s15.nn
 refine .Z rfl<| .h<| .cp 11 s15 (ly _) rfl λ _ s16=> .Z rfl<| .aC rfl rfl ?_
 exact ⟨rfl,s16.pk []⟩
end Go.Proofs.YthffkcnbdehceaaGreat
