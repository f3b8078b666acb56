/-The walks of the functions of F41v,printed by our own program (kwgen.py) out of our descriptions (base.py). -/
import Derived.Test.YthffkcnbdehceaaGreatF41c
import Derived.Test.YthffkcnbdehceaaGreatM41t
open List
open Go.Proofs.Tryz
set_option linter.unusedVariables false
set_option linter.unusedSimpArgs false
set_option linter.unusedSectionVars false
namespace Go.Proofs.YthffkcnbdehceaaGreat
open Go.RowKit Go.Kw
set_option maxRecDepth 100000
theorem FC (v:Value) (b p:List Nat) (w:World) (hv:RdL w v (a8 .u8) b) (he:b=aE p) (hb:∀ x∈p,x<256) (hn:p.length<=100000000):
  CallsV prog 96 [v] w λ r w'=>∃ v',r= .tuple #[v',.int .i64 ((0:Nat):Int)]/\Sat w [cL v' 5 (a8 .u8) p] w':=by
 subst he
 have hl:=aY p
 have ht:(aE p).take ((aE p).length-4)=p:=by rw [hl,Nat.add_sub_cancel,aE,take_left']<;>rfl
 have hd:(aE p).drop ((aE p).length-4)=iQ (iP p):=by rw [hl,Nat.add_sub_cancel,aE,drop_left']<;>rfl
 have h:=vC v (aE p) w hv (λ x hx=>by
  rcases mem_append.1 hx with hx|hx
  ·exact hb x hx
  ·exact ot _ x hx) (by omega) (by omega) (by rw [ht,hd])
 rw [ht] at h;exact h
theorem FD {c d:Co} {n:Nat} {w:World} (hr:RdC w d) (ho:OkC n c) (hn:n<=3) (e:c.v=d.v):CallsV prog 11 [d.val] w λ r w'=>r= .tuple #[.string (strOf (aE (di lexB bQ c.v))),.int .i64 ((0:Nat):Int)]/\Sat w [] w':=by rw [e];exact gj d n w hr (ho.KO e) hn
theorem DQ {p R:List Nat} (h:Agr p ([67,83,49]++R)):p.length<3\/∃ q,p=[67,83,49]++q/\Agr q R:=by
 rcases h.cut with ⟨q,h1,h2⟩|⟨t,h1,h2⟩
 ·exact .inr ⟨q,h1,h2⟩
 left
 have h3:=congrArg List.length h1
 have h4:0<t.length:=length_pos_iff.2 h2
 rw [length_append] at h3
 simp only [length_cons,length_nil] at h3
 omega
set_option maxHeartbeats 2000000 in
theorem C7 (X:Bool) (x:ByteArray) (p:List Nat) (c:Co) (n:Nat) (w:World) (ho:OkC n c) (hn:n<=3) (hx:aV x=aE p) (hpb:∀ y∈p,y<256) (hpl:p.length<=100000000) (hA:At X (true,p) (di lexB bQ c.v)) (hxz:x.size<=4611686018427387904):
  CallsV prog 41 [(.string x)] w λ r w'=>∃ (d:Co) (iv:SV) (okb:Bool) (F:List Nat),r= .tuple #[d.val,iv.val,.bool okb]/\(okb=true->c.v=d.v/\strOf (aE (di lexB bQ c.v))=x)/\(X=true->okb=true)/\Sat w [fa F (λ w1=>RdC w1 d)] w':=by
 have hA0:=hA
 rw [MN] at hA
 have hs0:=Sat.start w
 refine ae func41 rfl rfl ?_
 refine .h<| .al 0 hs0 rfl λ b1 _ s1 _ _=> .Z rfl<| .h<| .b 1 rfl (.fw underlying9 underlying45 underlying5 s1 rfl (hxz) λ v1 _ s2=> ?_)
 refine .c 0 (FC _ (aV x) p _ (s2.oH 1 rfl) hx hpb hpl) rfl λ r1 w3 h1=> ?_
 obtain ⟨uv1,rfl,p1⟩:=h1
 have s3:=(s2.aD p1).nn
 refine .Z rfl<| .seq<| .seq ?_
 rcases DQ (p:=p) (hA.1 rfl).2 with hs3|⟨q,hq,hqa⟩
 ·have hX:X=false:=by cases hXX:X with|false=>rfl|true=>have h9:=(Prod.mk.inj (hA.2 hXX)).2;rw [h9] at hs3;simp at hs3;omega
  refine .region<| .ln 4 (s3.ah 2 rfl) rfl<| .z 3 rfl<| .Gt 22 rfl (decide_eq_true (hs3))<| .Z rfl<| .dD rfl (rfl)<| .h<| .e rfl (.build rh rfl trivial rfl)<| .sa 0 s3 0 (vs:=[(.slice none 0 0),(.slice none 0 0),(.slice none 0 0),(.slice none 0 0),(.slice none 0 0),(.slice none 0 0),(.slice none 0 0)]) rfl (λ v h=>by simp only [mem_cons,not_mem_nil,or_false] at h;rcases h with rfl|rfl|rfl|rfl|rfl|rfl|rfl;exact rfl;exact rfl;exact rfl;exact rfl;exact rfl;exact rfl;exact rfl) λ _ s4 _=> .Z rfl<| .ret ?_
  show aK _ _ _ _ _ _
  refine xd (vs:=[(.slice none 0 0),(.slice none 0 0),(.slice none 0 0),(.slice none 0 0),(.slice none 0 0),(.slice none 0 0),(.slice none 0 0)]) rfl rfl rfl rfl da (λ j u hu=>s4.cell (i:=0) rfl hu) ?_
  have s6:=(s4.pk []).fO (Q:=λ w1=>RdC w1 oB) (λ w1=>rW w1)
  exact ⟨oB,⟨none,0,0⟩,false,_,rfl,(λ h=>by cases h),(λ h=>by rw [hX] at h;cases h),s6.pk [0]⟩
 have hq1:p.drop 3=q:=by rw [hq]<;>rfl
 have hq2:p.length=q.length+3:=by rw [hq,length_append];simp only [length_cons,length_nil];omega
 refine .region<| .ln 4 (s3.ah 2 rfl) rfl<| .z 3 rfl<| .Gf 22 rfl (decide_eq_false (by omega))<| .a 1 rfl (.bk (E:=a8 .u8) (a:=0) (c:=3) cg rfl (s3.ah 2 rfl) rfl ⟨_,rfl⟩ (Nat.zero_le _) (by omega))<| .a 0 rfl (.dw underlying45 underlying9 underlying5 rfl (((s3.ah 2 rfl)).sub (a:=0) (b:=3) (Nat.zero_le _) (by omega)))<| .a 0 rfl (.et rfl rfl)<| .Z rfl<| .ak rfl (decide_eq_false (λ h=>h (by rw [hq]<;>rfl)))<| .skip<| .seq ?_
 have hpay:=s3.ah 2 rfl
 have hq0:=hpay.sub (a:=3) (b:=p.length) (by omega) (Nat.le_refl _)
 rw [take_length,hq1] at hq0
 have hsb:Sat w3 [] w3:=Sat.start _
 have hB:RB (true,q):=⟨λ x hx=>hpb x (by rw [hq];exact mem_append_right _ hx),by show q.length<=_;omega⟩
 have hA1:At X (true,q) (uv c.at_.length++(Fu c 0++HD c)):=by rw [<-Fw];exact ⟨λ _=>⟨λ x hx=>hpb x (by rw [hq];exact mem_append_right _ hx),hqa⟩,λ hXX=>Prod.ext rfl (append_cancel_left (hq.symm.trans (Prod.mk.inj (hA.2 hXX)).2))⟩
 refine .region<| .a 1 rfl (.bk (E:=a8 .u8) (a:=3) (c:=(p).length) cg rfl (hpay.ext hsb.ext) ⟨_,rfl⟩ rfl (by omega) (Nat.le_refl _))<| .e rfl (.build Ol rfl ⟨(((hpay.ext hsb.ext)).sub (a:=3) (b:=(p).length) (by omega) (Nat.le_refl _)).a7,trivial⟩ rfl)<| .e rfl (.BS Om rfl rfl)<| .bx 0 hsb rfl λ b2 _ s8 _ _=> .Z rfl<| .seq ?_
 have s9:=s8.aH 86 (bU)
 have s10:=s9.aH 28 (bK ByteArray)
 have s11:=s10.xS 9 aB
 have s12:=s11.aH 111 (jG)
 have s13:=s12.aH 71 (aG)
 have s14:=s13.aH 75 (aG)
 have s15:=s14.aH 84 (br)
 have s16:=s15.aH 3 (Kw.encI .i64)
 have s17:=s16.aH 9 (aB)
 have s18:=s17.fO (Q:=λ w1=>∀ t∈([]:List Iv),RdL w1 t.sv.val aQ t.ps) (λ w1=>λ t ht=>by cases ht)
 have s19:=(Sat.order [1,2,3,4,5,6,7,8,9,10,0] (by decide) s18.tail).aF.pk [0,1,2,3,4,5,6,7,8,9,10]
 have s20:=s19.fO (Q:=λ w1=>∀ t∈([]:List Iv),RdL w1 t.sv.val aQ t.ps) (λ w1=>λ t ht=>by cases ht)
 have s21:=(Sat.order [1,2,3,4,5,6,7,8,9,10,11,0] (by decide) s20.tail).aF.pk [0,1,2,3,4,5,6,7,8,9,10,11]
 have s22:=s21.nn
 refine .region<| .a 4 rfl (.gn rfl) ?_
 have A1:=s22.tail.oc [0,1,2,3,4,5,6,7,8,9,10,11] 5
 refine .c 0 (AS _ _ _ _ _ (true,q) _ _ _ _ _ _ _ _ _ X c n (HD c) A1 hq0 hB ho hn hA1) rfl λ r2 _ h2=> ?_
 obtain ⟨rfl,s9_1,bv1,av1,as9_1,tv1,S9_1,iv1,ix9_1,hbv1,hB9_1,hA9_1,hI9_1,p2⟩:=h2
 have s23:=(Sat.order [0,1,2,3,4,5,6,7,8,9,10,11] (by decide) p2.join).aF.nn
 refine .nil<| .h<| .a 4 rfl (.gn rfl) ?_
 have A_2:=s23.tail.oc [0,5,10,1,2,3,4,6,7,8,9,11] 3
 refine .c 0 (Ar _ _ _ _ _ s9_1 _ _ _ _ _ _ _ _ 0 _ A_2 hbv1 hB9_1 rfl) rfl λ r3 _ h3=> ?_
 obtain ⟨rfl,bv2,tv2,xs1,F1,hbv2,hxs1,p3⟩:=h3
 have s24:=(Sat.order [0,3,4,5,6,1,7,8,9,10,2,11] (by decide) p3.join).aF.nn
 refine .nil<| .h<| .st 3 s24 0 rfl λ _ s25 _=> .nil<| .h<| .a 4 rfl (.gn rfl) ?_
 have A3:=s25.tail.oc [0,6,11,1,2,3,4,5,7,8,9,10] 3
 refine .c 0 (As _ _ _ _ _ (dI s9_1 0).2.1 _ _ _ _ _ _ _ _ 0 _ A3 hbv2 (RB.PD hB9_1 0) rfl) rfl λ r4 _ h4=> ?_
 obtain ⟨rfl,bv3,tv3,xs2,F2,hbv3,hxs2,p4⟩:=h4
 have s26:=(Sat.order [0,3,4,5,6,7,1,8,9,10,11,2] (by decide) p4.join).aF.nn
 refine .nil<| .h<| .a 4 rfl (.gn rfl) ?_
 have A4:=s26.tail.oc [0,7,1,2,3,4,5,6,8,9,10,11] 2
 refine .c 0 (Au _ _ _ _ _ (dV (dI s9_1 0).2.1 0).2.1 _ _ _ _ _ _ _ _ _ A4 hbv3 (RB.Q1 (RB.PD hB9_1 0) 0)) rfl λ r5 _ h5=> ?_
 obtain ⟨rfl,bv4,nv1,hbv4,p5⟩:=h5
 have s27:=(Sat.order [0,2,3,4,5,6,7,1,8,9,10,11] (by decide) p5.join).aF.nn
 refine .nil<| .h<| .a 4 rfl (.gn rfl) ?_
 have A5:=s27.tail.oc [0,8,9,1,2,3,4,5,6,7,10,11] 3
 refine .c 0 (Av _ _ _ _ _ (eE (dV (dI s9_1 0).2.1 0).2.1).2 _ _ _ _ _ _ _ _ _ A5 hbv4 (RB.Q3 (RB.Q1 (RB.PD hB9_1 0) 0))) rfl λ r6 _ h6=> ?_
 obtain ⟨rfl,bv5,hv1,lv1,hbv5,p6⟩:=h6
 have s28:=(Sat.order [0,3,4,5,6,7,8,9,1,2,10,11] (by decide) p6.join).aF.nn
 refine .nil<| .seq<| .seq<| .trim [0,2,5,7] rfl ?_
 obtain ⟨A2,B2⟩:=tail_at ho hn hA9_1
 refine .bH 80 (((!(fH (eE (dV (dI s9_1 0).2.1 0).2.1).2).2.1)=true)\/(0<((fH (eE (dV (dI s9_1 0).2.1 0).2.1).2).2.2).length)) ?_ ?_
 ·refine .ld 4 s28 0 rfl<| .z 1 rfl ?_
  by_cases g1:(!(fH (eE (dV (dI s9_1 0).2.1 0).2.1).2).2.1)=true
  ·refine .Gt 72 rfl (g1)<| .M rfl (by simp [g1])
  refine .Gf 72 rfl (by simpa using g1)<| .ld 4 s28 0 rfl<| .ln 0 (hbv5.ext s28.ext) rfl<| .M rfl (by simp [g1])
 refine .ab rfl (λ c1=> ?_) λ c1=> ?_
 ·refine .seq ?_
  have s29:=(s3.aD s28).nn
  refine .region<| .e rfl (.build rh rfl trivial rfl)<| .sa 0 s29 0 (vs:=[(.slice none 0 0),(.slice none 0 0),(.slice none 0 0),(.slice none 0 0),(.slice none 0 0),(.slice none 0 0),(.slice none 0 0)]) rfl (λ v h=>by simp only [mem_cons,not_mem_nil,or_false] at h;rcases h with rfl|rfl|rfl|rfl|rfl|rfl|rfl;exact rfl;exact rfl;exact rfl;exact rfl;exact rfl;exact rfl;exact rfl) λ _ s30 _=> .Z rfl<| .ret ?_
  show aK _ _ _ _ _ _
  refine xd (vs:=[(.slice none 0 0),(.slice none 0 0),(.slice none 0 0),(.slice none 0 0),(.slice none 0 0),(.slice none 0 0),(.slice none 0 0)]) rfl rfl rfl rfl da (λ j u hu=>s30.cell (i:=0) rfl hu) ?_
  have s32:=(s30.pk []).fO (Q:=λ w1=>RdC w1 oB) (λ w1=>rW w1)
  exact ⟨oB,⟨none,0,0⟩,false,_,rfl,(λ h=>by cases h),(λ h=>by have h9:=A2.2 h;exact absurd c1 (by rw [h9];simp)),s32.pk [0]⟩
 refine .skip<| .seq ?_
 have hok9:(fH (eE (dV (dI s9_1 0).2.1 0).2.1).2).2.1=true:=(Bool.eq_false_or_eq_true _).resolve_right λ h=>c1 (.inl (by simpa using h))
 obtain ⟨k1,k2,k3,k4,k5⟩:=B2 hok9
 have hcv:c.v=(Co.mk av1 tv1 tv2 tv3 nv1 hv1 lv1 as9_1 (S9_1.map λ p=>(⟨p.1,p.2⟩:Tk)) xs1 xs2 (eE (dV (dI s9_1 0).2.1 0).2.1).1 ((fH (eE (dV (dI s9_1 0).2.1 0).2.1).2).1.map Prod.fst) ((fH (eE (dV (dI s9_1 0).2.1 0).2.1).2).1.map Prod.snd)).v:=Pv (hI9_1 k1).1 (hI9_1 k1).2 (hxs1.trans k2) (hxs2.trans k3) k4 k5 (ho.I5 hn).1
 have oc2:=(s28.ah (E:=bU) 1 rfl).a7
 have oc3:=(s28.ah (E:=bK ByteArray) 2 rfl).a7
 have oc4:=(s28.ah (E:=aG) 5 rfl).a7
 have oc5:=(s28.ah (E:=aG) 6 rfl).a7
 have oc6:=(s28.ah (E:=br) 7 rfl).a7
 have oc7:=(s28.ah (E:=Kw.encI .i64) 8 rfl).a7
 have oc8:=(s28.ah (E:=aB) 9 rfl).a7
 have s34:=(Sat.order [1,2,3,5,10,6,11,7,8,9,0,4] (by decide) s28.tail).aF.pk [0,1,2,3,4,5,6,7,8,9,10,11]
 obtain ⟨hF1,s35⟩:=s34.ik 10 (Q:=λ w1=>RdC w1 (Co.mk av1 tv1 tv2 tv3 nv1 hv1 lv1 as9_1 (S9_1.map λ p=>(⟨p.1,p.2⟩:Tk)) xs1 xs2 (eE (dV (dI s9_1 0).2.1 0).2.1).1 ((fH (eE (dV (dI s9_1 0).2.1 0).2.1).2).1.map Prod.fst) ((fH (eE (dV (dI s9_1 0).2.1 0).2.1).2).1.map Prod.snd))) (λ w1 hA=>⟨hA.ah 0 rfl,Ob (hA.ah 1 rfl),hA.ah 3 rfl,hA.ah 5 rfl,hA.ah 7 rfl,hA.ah 8 rfl,hA.ah 9 rfl,(λ t ht=>by obtain ⟨p,hp,e⟩:=mem_map.1 ht;rw [<-e];exact hA.eu 2 rfl p hp),hA.aO 4 rfl,hA.aO 6 rfl⟩)
 have s36:=(Sat.order [1,0,2] (by decide) s35.tail).aF.pk [0,1,2]
 refine .region<| .a 3 rfl (.LH (o:=2) da rfl s36 (i:=0) rfl rfl rfl)<| .cp 0 s36 (FD (d:=(Co.mk av1 tv1 tv2 tv3 nv1 hv1 lv1 as9_1 (S9_1.map λ p=>(⟨p.1,p.2⟩:Tk)) xs1 xs2 (eE (dV (dI s9_1 0).2.1 0).2.1).1 ((fH (eE (dV (dI s9_1 0).2.1 0).2.1).2).1.map Prod.fst) ((fH (eE (dV (dI s9_1 0).2.1 0).2.1).2).1.map Prod.snd))) (s36.aO 1 rfl) ho hn hcv) rfl λ _ s37=> .Z rfl<| .seq ?_
 have s38:=(s3.aD s37).nn
 refine .dk [1,2,3,4,5] s38 rfl (pl [0,1,2,3,4,5,6,7,8,9,10,11,12,13,14,1015,16,17] .fin) λ s39 S1=> .z 3 S1 rfl<| .e rfl (λ _ s=> .LH (o:=2) da rfl s (i:=2) rfl rfl rfl) S1<| .ld 3 S1 2 rfl<| .a 5 S1 rfl (λ _ s=> .fh rfl rfl)<| .z 1 S1 rfl<| .f rfl (.bO (vs:=[av1,tv1,tv2,tv3,nv1,hv1,lv1]) da s39 (i:=0) rfl rfl rfl rfl (λ v h=>by simp only [mem_cons,not_mem_nil,or_false] at h;rcases h with rfl|rfl|rfl|rfl|rfl|rfl|rfl;exact oc2;exact oc3;exact oc4;exact oc5;exact oc6;exact oc7;exact oc8) λ _ s40 _=> ?_)
 have S2:=s40.pk [1,2,3,4,5]
 refine ⟨S2,?_⟩
 refine .Z S2 rfl<| .ret ?_
 show aK _ _ _ _ _ _
 refine xd (vs:=[av1,tv1,tv2,tv3,nv1,hv1,lv1]) rfl rfl rfl rfl da (λ j u hu=>s40.cell (i:=0) rfl hu) ?_
 obtain ⟨sv1,hsv1,hsv1n⟩:=(s40.ah 5 rfl).sv
 subst hsv1
 exact ⟨(Co.mk av1 tv1 tv2 tv3 nv1 hv1 lv1 as9_1 (S9_1.map λ p=>(⟨p.1,p.2⟩:Tk)) xs1 xs2 (eE (dV (dI s9_1 0).2.1 0).2.1).1 ((fH (eE (dV (dI s9_1 0).2.1 0).2.1).2).1.map Prod.fst) ((fH (eE (dV (dI s9_1 0).2.1 0).2.1).2).1.map Prod.snd)),sv1,decide (strOf (aE (di lexB bQ c.v))=x),hF1,rfl,λ h=>⟨hcv,of_decide_eq_true h⟩,λ h=>decide_eq_true (by rw [<-(Prod.mk.inj (hA0.2 h)).2,<-hx,gq]),s40.pk [4]⟩
def P6 (X:Bool) (x:ByteArray) (c:Co):Prop:=∀ w,CallsV prog 41 [.string x] w λ r w'=>∃ (d:Co) (iv:SV) (okb:Bool) (F:List Nat),r= .tuple #[d.val,iv.val,.bool okb]/\(okb=true->c.v=d.v/\strOf (aE (di lexB bQ c.v))=x)/\(X=true->okb=true)/\Sat w [fa F (λ w1=>RdC w1 d)] w'
theorem qd (X:Bool) (x:ByteArray) (c:Co) (w:World) (hR:P6 X x c):
  CallsV prog 14 [(.string x)] w λ r w'=>∃ (d:Co) (okb:Bool) (F:List Nat),r= .tuple #[d.val,.int .i64 ((if okb then 0 else 9:Nat):Int)]/\(okb=true->c.v=d.v/\strOf (aE (di lexB bQ c.v))=x)/\(X=true->okb=true)/\Sat w [fa F (λ w1=>RdC w1 d)] w':=by
 refine cc func14 rfl λ hs0=> .h<| .al 0 hs0 rfl λ b1 _ s1 _ _=> .Z rfl<| .h<| .c 1 (hR _) rfl λ r1 _ h1=> ?_
 obtain ⟨rd1,riv1,okb1,rF1,rfl,hokb11,hokb12,p1⟩:=h1
 have s2:=s1.aD p1
 refine .al 4 s2 rfl λ b2 _ s3 _ _=> ?_
 have s3:=s3.nn
 refine .sa 0 s3 2 (vs:=[rd1.va,rd1.vt,rd1.vx,rd1.vr,rd1.vn,rd1.vh,rd1.vl]) rfl (λ v h=>by simp only [mem_cons,not_mem_nil,or_false] at h;rcases h with rfl|rfl|rfl|rfl|rfl|rfl|rfl;exact (s3.aO 1 rfl).a.a7;exact (s3.aO 1 rfl).t.a7;exact (s3.aO 1 rfl).x.a7;exact (s3.aO 1 rfl).r.a7;exact (s3.aO 1 rfl).n.a7;exact (s3.aO 1 rfl).h.a7;exact (s3.aO 1 rfl).l.a7) λ _ s4 _=> .Z rfl<| .seq<| .h<| .a 1 rfl (.cB rfl)<| .nil<| .cond rfl (λ c1=> ?_) (λ c1=> ?_)
 ·refine .h<| .e rfl (.build rh rfl trivial rfl)<| .sa 0 s4 0 (vs:=[(.slice none 0 0),(.slice none 0 0),(.slice none 0 0),(.slice none 0 0),(.slice none 0 0),(.slice none 0 0),(.slice none 0 0)]) rfl (λ v h=>by simp only [mem_cons,not_mem_nil,or_false] at h;rcases h with rfl|rfl|rfl|rfl|rfl|rfl|rfl;exact rfl;exact rfl;exact rfl;exact rfl;exact rfl;exact rfl;exact rfl) λ _ s5 _=> .Z rfl<| .ret ?_
  show aK _ _ _ _ _ _
  refine wW (vs:=[(.slice none 0 0),(.slice none 0 0),(.slice none 0 0),(.slice none 0 0),(.slice none 0 0),(.slice none 0 0),(.slice none 0 0)]) rfl rfl rfl da (λ j u hu=>s5.cell (i:=0) rfl hu) ?_
  have s7:=(s5.pk []).fO (Q:=λ w1=>RdC w1 oB) (λ w1=>rW w1)
  exact ⟨oB,false,_,rfl,(λ h=>by cases h),(λ h=>by have h9:=hokb12 h;rw [h9] at c1;cases c1),s7.pk [0]⟩
 refine .skip<| .h<| .lo 0 s4 2 rfl<| .sa 0 s4 0 (vs:=[rd1.va,rd1.vt,rd1.vx,rd1.vr,rd1.vn,rd1.vh,rd1.vl]) rfl (λ v h=>by simp only [mem_cons,not_mem_nil,or_false] at h;rcases h with rfl|rfl|rfl|rfl|rfl|rfl|rfl;exact (s4.aO 1 rfl).a.a7;exact (s4.aO 1 rfl).t.a7;exact (s4.aO 1 rfl).x.a7;exact (s4.aO 1 rfl).r.a7;exact (s4.aO 1 rfl).n.a7;exact (s4.aO 1 rfl).h.a7;exact (s4.aO 1 rfl).l.a7) λ _ s9 _=> .Z rfl<| .ret ?_
 show aK _ _ _ _ _ _
 refine wW (vs:=[rd1.va,rd1.vt,rd1.vx,rd1.vr,rd1.vn,rd1.vh,rd1.vl]) rfl rfl rfl da (λ j u hu=>s9.cell (i:=0) rfl hu) ?_
 exact ⟨rd1,true,rF1,rfl,(λ _=>hokb11 (by simpa using c1)),(λ _=>rfl),s9.pk [1]⟩
theorem C8 {c:Co} {n:Nat} (ho:OkC n c) (hn:n<=3):(di lexB bQ c.v).length<=50000000:=by
 have h1:=ho.ntx;have h2:=ho.nrg;have h3:=CD ho hn;have h4:=ho.at_.2
 have h5:=aN c.at_.length;have h6:=aN c.tx.length;have h7:=aN c.rg.length
 have hc:(ib lexB bQ c.v.at_ c.v.tk c.at_.length).length<=5000000*c.at_.length:=by
  have:=tI (f:=λ i=>kd lexB bQ (c.v.at_.getD i (ByteArray.empty,false)) (c.v.tk.map λ t=>t.getD i ByteArray.empty)) (B:=5000000) (List.range c.at_.length) λ i hi=>by
   have hi':=mem_range.1 hi
   obtain ⟨a,ha⟩:∃ a,c.at_[i]? =some a:=⟨_,getElem?_eq_getElem hi'⟩
   have h9:=C5 ho hn ha
   rw [Bp,getD_eq_getElem?_getD,show c.v.at_=c.at_ from rfl,ha,Option.getD_some]
   exact h9
  rw [length_range] at this
  exact this
 have ht:=tI (f:=λ x:Iv=>ic x.v) (B:=2000) c.tx λ x hx=>by
  have q:=ho.tx.nm x hx
  exact CC (x:=x.v) (bJ q.1) q.2.1
 have hr:∀ (l:List Iv) (z:Int),(∀ x∈l,x∈c.rg)->(fD z (l.map Iv.v)).length<=2000*l.length:=by
  intro l
  induction l with
  |nil=>intro z _;exact Nat.le_refl _
  |cons x l ih=>
   intro z hm
   have q:=ho.rg.el x (hm x (by simp))
   have h8:=CA (bf:=z) (x:=x.v) (bJ q.1) q.2.2
   have h9:=ih x.v.2.1 λ y hy=>hm y (by simp [hy])
   rw [map_cons,fD,length_append,length_cons]
   omega
 have hr2:=hr c.rg 0 λ x hx=>hx
 rw [rI]
 simp only [length_append,length_cons,length_nil]
 omega
theorem vI {c:Co} {n:Nat} (ho:OkC n c) (hn:n<=3):P6 true (strOf (aE (di lexB bQ c.v))) c:=λ w=>by
 have h1:=C8 ho hn
 have h2:=tK kB kC c.v
 exact C7 true _ (di lexB bQ c.v) c n w ho hn (dd (gV h2)) h2 (by omega) ⟨λ _=>⟨h2,Agr.refl _⟩,λ _=>rfl⟩ (by rw [bX,aY];omega)
theorem qe {c:Co} {n:Nat} {w:World} (ho:OkC n c) (hn:n<=3):CallsV prog 14 [.string (strOf (aE (di lexB bQ c.v)))] w λ r w'=>∃ (d:Co) (F:List Nat),r= .tuple #[d.val,.int .i64 ((0:Nat):Int)]/\c.v=d.v/\Sat w [fa F (λ w1=>RdC w1 d)] w':=
 (qd true _ c w (vI ho hn)).mono λ r w' hq=>by
  obtain ⟨d,okb,F,rfl,h3,h4,h5⟩:=hq
  have h6:=h4 rfl
  subst h6
  exact ⟨d,F,rfl,(h3 rfl).1,h5⟩
theorem j0 {α:Type} {a x:α} {i:Nat} (h:[a][i]? =some x):i=0/\x=a:=by
 cases i with
 |zero=>cases h;exact ⟨rfl,rfl⟩
 |succ i=>simp at h
theorem FE {va vt vx vr vn vh vl:Value} {sv:SV}:OkC 1 (Co.mk va vt vx vr vn vh vl [(⟨#[97]⟩,false)] [⟨sv,[⟨#[120]⟩]⟩] [⟨⟨#[116]⟩,0,1,⟨none,0,0⟩,[]⟩] [] [] [] []) where
 at_:=⟨λ i x hx=>by
  obtain ⟨rfl,rfl⟩:=j0 hx
  exact ⟨by decide,rfl⟩,Nat.le_refl 1,show (1:Nat)<=8 by decide⟩
 tk t ht:=by
  rw [mem_singleton.1 ht]
  refine ⟨rfl,λ i v a hv ha=> ?_⟩
  obtain ⟨_,rfl⟩:=j0 hv
  obtain ⟨_,rfl⟩:=j0 ha
  exact ⟨λ _=>jP (by decide) (by decide),λ h=>by cases h⟩
 tx:={
  nm:=λ x hx=>by rw [mem_singleton.1 hx];exact ⟨by decide,tL,Int.le_refl 0,show (0:Int)<1 by decide,Int.le_refl 1⟩
  nd:=λ i j x y hx hy h=>by have:=(j0 hx).1;omega
  first:=λ x hx=>by rw [(j0 hx).2]
  next:=λ i x y hx hy=>by have:=(j0 hy).1;omega
  last:=λ i x hx h=>by rw [(j0 hx).2]<;>rfl
  none_:=⟨λ h=>(by cases h),λ h=>by have h9:(1:Int)=0:=h;omega⟩}
 rg:=⟨λ x hx=>(by cases hx),λ i x y hx=>(by simp at hx),λ x hx=>(by cases hx)⟩
 nd:=⟨λ x hx=>(by cases hx),λ i x hx=>(by simp at hx),λ s i x y hx=>(by simp at hx)⟩
 hd:= .inl ⟨rfl,rfl⟩
 ntk:=show (1:Nat)<=12 by decide
 ntx:=Nat.le_refl 1
 nrg:=Nat.zero_le _
 nnd:=Nat.zero_le _
theorem rz {X:List ByteArray->List Nat} {T:List Nat->List Nat} (c:Co):(strOf (aE (di X T c.v))).extract 0 3=⟨#[67,83,49]⟩/\3<(strOf (aE (di X T c.v))).size:=by
 rw [rI]
 refine ⟨?_,?_⟩
 ·unfold aE
  rw [append_assoc]
  apply uf
  unfold aV
  rw [ET]
  rfl
 rw [bX,aY]
 simp only [length_append,length_cons,length_nil]
 omega
theorem ly (w:World):
  CallsV prog 13 [] w λ r w'=>r= .bool true/\Sat w [] w':=by
 have hs0:=Sat.start w
 refine ae func13 rfl rfl ?_
 refine .Z rfl<| .h<| .e rfl (.build HK rfl ⟨rfl,trivial⟩ rfl)<| .f rfl (.cD (bU) ((⟨#[97]⟩:ByteArray),false) BL (by decide) (by decide) hs0 rfl λ v1 _ s1 _=> ?_)
 refine .f rfl (.cM (aB) (ByteArray.mk #[120]) cE rfl s1 rfl λ v2 _ s2 _=> ?_)
 obtain ⟨sv1,hsv1,hsv1n⟩:=(s2.ah 1 rfl).sv
 subst hsv1
 refine .f rfl (.cM (fz) (⟨sv1,[⟨#[120]⟩]⟩:Tk) xM rfl s2 rfl λ v3 _ s3 _=> ?_)
 have s3:=s3.nn
 refine .e rfl (.build Kg rfl ⟨rfl,rfl,trivial⟩ rfl)<| .f rfl (.cD (aG) (⟨⟨#[116]⟩,0,1,⟨none,0,0⟩,[]⟩:Iv) uk (by decide) (by decide) s3 rfl λ v_4 _ s4 _=> ?_)
 refine .e rfl (.build rh rfl ⟨(s4.ah 0 rfl).a7,(s4.ah 2 rfl).a7,(s4.ah 3 rfl).a7,trivial⟩ rfl)<| .al 0 s4 rfl λ b1 _ s5 _ _=> .sa 0 s5 4 (vs:=[v1,v3,v_4,(.slice none 0 0),(.slice none 0 0),(.slice none 0 0),(.slice none 0 0)]) rfl (λ v h=>by simp only [mem_cons,not_mem_nil,or_false] at h;rcases h with rfl|rfl|rfl|rfl|rfl|rfl|rfl;exact (s5.ah 0 rfl).a7;exact (s5.ah 2 rfl).a7;exact (s5.ah 3 rfl).a7;exact rfl;exact rfl;exact rfl;exact rfl) λ _ s6 _=> ?_
 have s6:=s6.nn
 refine .nil<| .seq ?_
 have oc0:=(s6.ah (E:=bU) 0 rfl).a7
 have oc1:=(s6.ah (E:=fz) 2 rfl).a7
 have oc2:=(s6.ah (E:=aG) 3 rfl).a7
 have s7:=(Sat.order [0,2,3,1,4] (by decide) s6.tail).aF.pk [0,1,2,3,4]
 obtain ⟨hF1,s8⟩:=s7.ik 4 (Q:=λ w1=>RdC w1 (Co.mk v1 v3 v_4 (Value.slice none 0 0) (Value.slice none 0 0) (Value.slice none 0 0) (Value.slice none 0 0) [(⟨#[97]⟩,false)] [⟨sv1,[⟨#[120]⟩]⟩] [(⟨⟨#[116]⟩,0,1,⟨none,0,0⟩,[]⟩:Iv)] [] [] [] [])) (λ w1 hA=>⟨hA.ah 0 rfl,hA.ah 1 rfl,hA.ah 2 rfl,RdL.nil _ _,RdL.nil _ _,RdL.nil _ _,RdL.nil _ _,(λ t ht=>by rw [mem_singleton.1 ht];exact hA.ah 3 rfl),(λ t ht=>by rw [mem_singleton.1 ht];exact RdL.nil _ _),λ t ht=>by cases ht⟩)
 refine .region<| .lo 0 s8 1 rfl<| .cp 0 s8 (gj (Co.mk v1 v3 v_4 (Value.slice none 0 0) (Value.slice none 0 0) (Value.slice none 0 0) (Value.slice none 0 0) [(⟨#[97]⟩,false)] [⟨sv1,[⟨#[120]⟩]⟩] [(⟨⟨#[116]⟩,0,1,⟨none,0,0⟩,[]⟩:Iv)] [] [] [] []) 1 _ (s8.aO 0 rfl) FE (by decide)) rfl λ _ s9=> .Z rfl<| .h<| .c 1 (qe (c:=(Co.mk v1 v3 v_4 (Value.slice none 0 0) (Value.slice none 0 0) (Value.slice none 0 0) (Value.slice none 0 0) [(⟨#[97]⟩,false)] [⟨sv1,[⟨#[120]⟩]⟩] [(⟨⟨#[116]⟩,0,1,⟨none,0,0⟩,[]⟩:Iv)] [] [] [] [])) (n:=1) FE (by decide)) rfl λ r2 _ h2=> ?_
 obtain ⟨ed1,eF1,rfl,hed1v,p2⟩:=h2
 have s10:=s9.aD p2
 refine .al 3 s10 rfl λ b2 _ s11 _ _=> ?_
 have s11:=s11.nn
 refine .sa 0 s11 3 (vs:=[ed1.va,ed1.vt,ed1.vx,ed1.vr,ed1.vn,ed1.vh,ed1.vl]) rfl (λ v h=>by simp only [mem_cons,not_mem_nil,or_false] at h;rcases h with rfl|rfl|rfl|rfl|rfl|rfl|rfl;exact (s11.aO 2 rfl).a.a7;exact (s11.aO 2 rfl).t.a7;exact (s11.aO 2 rfl).x.a7;exact (s11.aO 2 rfl).r.a7;exact (s11.aO 2 rfl).n.a7;exact (s11.aO 2 rfl).h.a7;exact (s11.aO 2 rfl).l.a7) λ _ s12 _=> .Z rfl<| .h<| .lo 7 s12 1 rfl<| .lo 0 s12 3 rfl<| .c 0 (ky (Co.mk v1 v3 v_4 (Value.slice none 0 0) (Value.slice none 0 0) (Value.slice none 0 0) (Value.slice none 0 0) [(⟨#[97]⟩,false)] [⟨sv1,[⟨#[120]⟩]⟩] [(⟨⟨#[116]⟩,0,1,⟨none,0,0⟩,[]⟩:Iv)] [] [] [] []) ed1 _ (s12.aO 0 rfl) (s12.aO 2 rfl) (FE.sm (by decide))) rfl λ r3 _ h3=> ?_
 obtain ⟨eq1,rfl,heq1,p3⟩:=h3
 have s13:=s12.aD p3
 refine .z 2 rfl<| .Gt 34 rfl (heq1.2 hed1v)<| .a 1 rfl (.bP underlying9 rfl)<| .z 3 rfl<| .Gt 39 rfl (decide_eq_true ((rz (X:=lexB) (T:=bQ) (Co.mk v1 v3 v_4 (Value.slice none 0 0) (Value.slice none 0 0) (Value.slice none 0 0) (Value.slice none 0 0) [(⟨#[97]⟩,false)] [⟨sv1,[⟨#[120]⟩]⟩] [(⟨⟨#[116]⟩,0,1,⟨none,0,0⟩,[]⟩:Iv)] [] [] [] [])).2))<| .a 1 rfl (.gI (l:=0) (h:=3) underlying9 rfl rfl ⟨_,rfl⟩ (Nat.zero_le _) (by have:=(rz (X:=lexB) (T:=bQ) (Co.mk v1 v3 v_4 (Value.slice none 0 0) (Value.slice none 0 0) (Value.slice none 0 0) (Value.slice none 0 0) [(⟨#[97]⟩,false)] [⟨sv1,[⟨#[120]⟩]⟩] [(⟨⟨#[116]⟩,0,1,⟨none,0,0⟩,[]⟩:Iv)] [] [] [] [])).2;omega))<| .a 0 rfl (.fh rfl rfl)<| .Z rfl<| .aC rfl rfl ?_
 exact ⟨congrArg Value.bool (decide_eq_true ((rz (X:=lexB) (T:=bQ) (Co.mk v1 v3 v_4 (Value.slice none 0 0) (Value.slice none 0 0) (Value.slice none 0 0) (Value.slice none 0 0) [(⟨#[97]⟩,false)] [⟨sv1,[⟨#[120]⟩]⟩] [(⟨⟨#[116]⟩,0,1,⟨none,0,0⟩,[]⟩:Iv)] [] [] [] [])).1)),s13.pk []⟩
end Go.Proofs.YthffkcnbdehceaaGreat
