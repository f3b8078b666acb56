/-The walks of the functions of F41v,printed by our own program (kwgen.py) out of our descriptions (base.py). -/
import Derived.Test.YthffkcnbdehceaaGreatF41c
import Derived.Test.YthffkcnbdehceaaGreatM41t
import Derived.Test.YthffkcnbdehceaaGreatF06m
import Derived.Test.YthffkcnbdehceaaGreatTab
set_option linter.unusedVariables false
set_option linter.unusedSimpArgs false
set_option linter.unusedSectionVars false
namespace Go.Proofs.YthffkcnbdehceaaGreat
open Go.RowKit Go.Kw
set_option maxRecDepth 100000
theorem Dy (v:Value) (b p:List Nat) (w:World) (hv:RdL w v (a7 .u8) b) (he:b=aN p) (hb:∀ x∈p,x<256) (hn:p.length<=100000000):
  CallsV Tryz.prog 96 [v] w λ r w'=>∃ v',r= .tuple #[v',.int .i64 ((0:Nat):Int)]/\Sat w [cL v' 5 (a7 .u8) p] w':=by
 subst he
 have hl:=bJ p
 have ht:(aN p).take ((aN p).length-4)=p:=by rw [hl,Nat.add_sub_cancel,aN,List.take_left']<;>rfl
 have hd:(aN p).drop ((aN p).length-4)=o3 (oY p):=by rw [hl,Nat.add_sub_cancel,aN,List.drop_left']<;>rfl
 have h:=sN v (aN p) w hv (λ x hx=>by
  rcases List.mem_append.1 hx with hx|hx
  ·exact hb x hx
  ·exact nc _ x hx) (by omega) (by omega) (by rw [ht,hd])
 rw [ht] at h;exact h
theorem Dz {c d:Co} {n:Nat} {w:World} (hr:RdC w d) (ho:OkC n c) (hn:n<=3) (e:c.v=d.v):CallsV Tryz.prog 11 [d.val] w λ r w'=>r= .tuple #[.string (strOf (aN (fo lexB cw c.v))),.int .i64 ((0:Nat):Int)]/\Sat w [] w':=by rw [e];exact jY d n w hr (ho.Nf e) hn
theorem BT {p R:List Nat} (h:Agr p ([67,83,49]++R)):p.length<3\/∃ q,p=[67,83,49]++q/\Agr q R:=by
 rcases h.cut with ⟨q,h1,h2⟩|⟨t,h1,h2⟩
 ·exact .inr ⟨q,h1,h2⟩
 left
 have h3:=congrArg List.length h1
 have h4:0<t.length:=List.length_pos_iff.2 h2
 rw [List.length_append] at h3
 simp only [List.length_cons,List.length_nil] at h3
 omega
set_option maxHeartbeats 2000000 in
theorem H0 (X:Bool) (x:ByteArray) (p:List Nat) (c:Co) (n:Nat) (w:World) (ho:OkC n c) (hn:n<=3) (hx:bD x=aN p) (hpb:∀ y∈p,y<256) (hpl:p.length<=100000000) (hA:At X (true,p) (fo lexB cw c.v)) (hxz:x.size<=4611686018427387904):
  CallsV Tryz.prog 41 [(.string x)] w λ r w'=>∃ (d:Co) (iv:SV) (okb:Bool) (F:List Nat),r= .tuple #[d.val,iv.val,.bool okb]/\(okb=true->c.v=d.v/\strOf (aN (fo lexB cw c.v))=x)/\(X=true->okb=true)/\Sat w [j8 F (λ w1=>RdC w1 d)] w':=by
 have hA0:=hA
 rw [Kn] at hA
 have hs0:=Sat.start w
 refine ae Tryz.func41 rfl rfl ?_
 refine .h<| .al 0 hs0 rfl λ b1 _ s1 _ _=> .Z rfl<| .h<| .b 1 rfl (.fL Tryz.underlying9 Tryz.underlying45 Tryz.underlying5 s1 rfl (hxz) λ v1 _ s2=> ?_)
 refine .c 0 (Dy _ (bD x) p _ (s2.oh 1 rfl) hx hpb hpl) rfl λ r1 w3 h1=> ?_
 obtain ⟨uv1,rfl,p1⟩:=h1
 have s3:=(s2.aD p1).nn
 refine .Z rfl<| .seq<| .seq ?_
 rcases BT (p:=p) (hA.1 rfl).2 with hs3|⟨q,hq,hqa⟩
 ·have hX:X=false:=by cases hXX:X with|false=>rfl|true=>have h9:=(Prod.mk.inj (hA.2 hXX)).2;rw [h9] at hs3;simp at hs3;omega
  refine .region<| .ln 4 (s3.ah 2 rfl) rfl<| .z 3 rfl<| .Gt 22 rfl (decide_eq_true (hs3))<| .Z rfl<| .dA rfl (rfl)<| .h<| .e rfl (.build CK rfl trivial rfl)<| .sa 0 s3 0 (vs:=[(.slice none 0 0),(.slice none 0 0),(.slice none 0 0),(.slice none 0 0),(.slice none 0 0),(.slice none 0 0),(.slice none 0 0)]) rfl (λ v h=>by simp only [List.mem_cons,List.not_mem_nil,or_false] at h;rcases h with rfl|rfl|rfl|rfl|rfl|rfl|rfl;exact rfl;exact rfl;exact rfl;exact rfl;exact rfl;exact rfl;exact rfl) λ _ s4 _=> .Z rfl<| .ret ?_
  show aF _ _ _ _ _ _
  refine yT (vs:=[(.slice none 0 0),(.slice none 0 0),(.slice none 0 0),(.slice none 0 0),(.slice none 0 0),(.slice none 0 0),(.slice none 0 0)]) rfl rfl rfl rfl gl (λ j u hu=>s4.cell (i:=0) rfl hu) ?_
  have s6:=(s4.pk []).rO (Q:=λ w1=>RdC w1 rI) (λ w1=>uV w1)
  exact ⟨rI,⟨none,0,0⟩,false,_,rfl,(λ h=>by cases h),(λ h=>by rw [hX] at h;cases h),s6.pk [0]⟩
 have hq1:p.drop 3=q:=by rw [hq]<;>rfl
 have hq2:p.length=q.length+3:=by rw [hq,List.length_append];simp only [List.length_cons,List.length_nil];omega
 refine .region<| .ln 4 (s3.ah 2 rfl) rfl<| .z 3 rfl<| .Gf 22 rfl (decide_eq_false (by omega))<| .a 1 rfl (.bo (E:=a7 .u8) (a:=0) (c:=3) cE rfl (s3.ah 2 rfl) rfl ⟨_,rfl⟩ (Nat.zero_le _) (by omega))<| .a 0 rfl (.dX Tryz.underlying45 Tryz.underlying9 Tryz.underlying5 rfl (((s3.ah 2 rfl)).sub (a:=0) (b:=3) (Nat.zero_le _) (by omega)))<| .a 0 rfl (.ee rfl rfl)<| .Z rfl<| .ak rfl (decide_eq_false (λ h=>h (by rw [hq]<;>rfl)))<| .skip<| .seq ?_
 have hpay:=s3.ah 2 rfl
 have hq0:=hpay.sub (a:=3) (b:=p.length) (by omega) (Nat.le_refl _)
 rw [List.take_length,hq1] at hq0
 have hsb:Sat w3 [] w3:=Sat.start _
 have hB:RB (true,q):=⟨λ x hx=>hpb x (by rw [hq];exact List.mem_append_right _ hx),by show q.length<=_;omega⟩
 have hA1:At X (true,q) (uv c.at_.length++(Dv c 0++FC c)):=by rw [<-Dx];exact ⟨λ _=>⟨λ x hx=>hpb x (by rw [hq];exact List.mem_append_right _ hx),hqa⟩,λ hXX=>Prod.ext rfl (List.append_cancel_left (hq.symm.trans (Prod.mk.inj (hA.2 hXX)).2))⟩
 refine .region<| .a 1 rfl (.bo (E:=a7 .u8) (a:=3) (c:=(p).length) cE rfl (hpay.ext hsb.ext) ⟨_,rfl⟩ rfl (by omega) (Nat.le_refl _))<| .e rfl (.build M3 rfl ⟨(((hpay.ext hsb.ext)).sub (a:=3) (b:=(p).length) (by omega) (Nat.le_refl _)).aa,trivial⟩ rfl)<| .e rfl (.FR M4 rfl rfl)<| .bx 0 hsb rfl λ b2 _ s8 _ _=> .Z rfl<| .seq ?_
 have s9:=s8.aE 86 (cd)
 have s10:=s9.aE 28 (bC ByteArray)
 have s11:=s10.vq 9 ay
 have s12:=s11.aE 111 (jj)
 have s13:=s12.aE 71 (aA)
 have s14:=s13.aE 75 (aA)
 have s15:=s14.aE 84 (bt)
 have s16:=s15.aE 3 (Kw.encI .i64)
 have s17:=s16.aE 9 (ay)
 have s18:=s17.rO (Q:=λ w1=>∀ t∈([]:List Iv),RdL w1 t.sv.val aQ t.ps) (λ w1=>λ t ht=>by cases ht)
 have s19:=(Sat.order [1,2,3,4,5,6,7,8,9,10,0] (by decide) s18.tail).aJ.pk [0,1,2,3,4,5,6,7,8,9,10]
 have s20:=s19.rO (Q:=λ w1=>∀ t∈([]:List Iv),RdL w1 t.sv.val aQ t.ps) (λ w1=>λ t ht=>by cases ht)
 have s21:=(Sat.order [1,2,3,4,5,6,7,8,9,10,11,0] (by decide) s20.tail).aJ.pk [0,1,2,3,4,5,6,7,8,9,10,11]
 have s22:=s21.nn
 refine .region<| .a 4 rfl (.fQ rfl) ?_
 have A1:=s22.tail.oc [0,1,2,3,4,5,6,7,8,9,10,11] 5
 refine .c 0 (yG _ _ _ _ _ (true,q) _ _ _ _ _ _ _ _ _ X c n (FC c) A1 hq0 hB ho hn hA1) rfl λ r2 _ h2=> ?_
 obtain ⟨rfl,s9_1,bv1,av1,as9_1,tv1,S9_1,iv1,ix9_1,hbv1,hB9_1,hA9_1,hI9_1,p2⟩:=h2
 have s23:=(Sat.order [0,1,2,3,4,5,6,7,8,9,10,11] (by decide) p2.join).aJ.nn
 refine .nil<| .h<| .a 4 rfl (.fQ rfl) ?_
 have A_2:=s23.tail.oc [0,5,10,1,2,3,4,6,7,8,9,11] 3
 refine .c 0 (yd _ _ _ _ _ s9_1 _ _ _ _ _ _ _ _ 0 _ A_2 hbv1 hB9_1 rfl) rfl λ r3 _ h3=> ?_
 obtain ⟨rfl,bv2,tv2,xs1,F1,hbv2,hxs1,p3⟩:=h3
 have s24:=(Sat.order [0,3,4,5,6,1,7,8,9,10,2,11] (by decide) p3.join).aJ.nn
 refine .nil<| .h<| .st 3 s24 0 rfl λ _ s25 _=> .nil<| .h<| .a 4 rfl (.fQ rfl) ?_
 have A3:=s25.tail.oc [0,6,11,1,2,3,4,5,7,8,9,10] 3
 refine .c 0 (ye _ _ _ _ _ (dx s9_1 0).2.1 _ _ _ _ _ _ _ _ 0 _ A3 hbv2 (RB.Ni hB9_1 0) rfl) rfl λ r4 _ h4=> ?_
 obtain ⟨rfl,bv3,tv3,xs2,F2,hbv3,hxs2,p4⟩:=h4
 have s26:=(Sat.order [0,3,4,5,6,7,1,8,9,10,11,2] (by decide) p4.join).aJ.nn
 refine .nil<| .h<| .a 4 rfl (.fQ rfl) ?_
 have A4:=s26.tail.oc [0,7,1,2,3,4,5,6,8,9,10,11] 2
 refine .c 0 (yf _ _ _ _ _ (dL (dx s9_1 0).2.1 0).2.1 _ _ _ _ _ _ _ _ _ A4 hbv3 (RB.NJ (RB.Ni hB9_1 0) 0)) rfl λ r5 _ h5=> ?_
 obtain ⟨rfl,bv4,nv1,hbv4,p5⟩:=h5
 have s27:=(Sat.order [0,2,3,4,5,6,7,1,8,9,10,11] (by decide) p5.join).aJ.nn
 refine .nil<| .h<| .a 4 rfl (.fQ rfl) ?_
 have A5:=s27.tail.oc [0,8,9,1,2,3,4,5,6,7,10,11] 3
 refine .c 0 (yg _ _ _ _ _ (ep (dL (dx s9_1 0).2.1 0).2.1).2 _ _ _ _ _ _ _ _ _ A5 hbv4 (RB.NN (RB.NJ (RB.Ni hB9_1 0) 0))) rfl λ r6 _ h6=> ?_
 obtain ⟨rfl,bv5,hv1,lv1,hbv5,p6⟩:=h6
 have s28:=(Sat.order [0,3,4,5,6,7,8,9,1,2,10,11] (by decide) p6.join).aJ.nn
 refine .nil<| .seq<| .seq<| .trim [0,2,5,7] rfl ?_
 obtain ⟨A2,B2⟩:=tail_at ho hn hA9_1
 refine .br 80 (((!(fk (ep (dL (dx s9_1 0).2.1 0).2.1).2).2.1)=true)\/(0<((fk (ep (dL (dx s9_1 0).2.1 0).2.1).2).2.2).length)) ?_ ?_
 ·refine .ld 4 s28 0 rfl<| .z 1 rfl ?_
  by_cases g1:(!(fk (ep (dL (dx s9_1 0).2.1 0).2.1).2).2.1)=true
  ·refine .Gt 72 rfl (g1)<| .M rfl (by simp [g1])
  refine .Gf 72 rfl (by simpa using g1)<| .ld 4 s28 0 rfl<| .ln 0 (hbv5.ext s28.ext) rfl<| .M rfl (by simp [g1])
 refine .ab rfl (λ c1=> ?_) λ c1=> ?_
 ·refine .seq ?_
  have s29:=(s3.aD s28).nn
  refine .region<| .e rfl (.build CK rfl trivial rfl)<| .sa 0 s29 0 (vs:=[(.slice none 0 0),(.slice none 0 0),(.slice none 0 0),(.slice none 0 0),(.slice none 0 0),(.slice none 0 0),(.slice none 0 0)]) rfl (λ v h=>by simp only [List.mem_cons,List.not_mem_nil,or_false] at h;rcases h with rfl|rfl|rfl|rfl|rfl|rfl|rfl;exact rfl;exact rfl;exact rfl;exact rfl;exact rfl;exact rfl;exact rfl) λ _ s30 _=> .Z rfl<| .ret ?_
  show aF _ _ _ _ _ _
  refine yT (vs:=[(.slice none 0 0),(.slice none 0 0),(.slice none 0 0),(.slice none 0 0),(.slice none 0 0),(.slice none 0 0),(.slice none 0 0)]) rfl rfl rfl rfl gl (λ j u hu=>s30.cell (i:=0) rfl hu) ?_
  have s32:=(s30.pk []).rO (Q:=λ w1=>RdC w1 rI) (λ w1=>uV w1)
  exact ⟨rI,⟨none,0,0⟩,false,_,rfl,(λ h=>by cases h),(λ h=>by have h9:=A2.2 h;exact absurd c1 (by rw [h9];simp)),s32.pk [0]⟩
 refine .skip<| .seq ?_
 have hok9:(fk (ep (dL (dx s9_1 0).2.1 0).2.1).2).2.1=true:=(Bool.eq_false_or_eq_true _).resolve_right λ h=>c1 (.inl (by simpa using h))
 obtain ⟨k1,k2,k3,k4,k5⟩:=B2 hok9
 have hcv:c.v=(Co.mk av1 tv1 tv2 tv3 nv1 hv1 lv1 as9_1 (S9_1.map λ p=>(⟨p.1,p.2⟩:Tk)) xs1 xs2 (ep (dL (dx s9_1 0).2.1 0).2.1).1 ((fk (ep (dL (dx s9_1 0).2.1 0).2.1).2).1.map Prod.fst) ((fk (ep (dL (dx s9_1 0).2.1 0).2.1).2).1.map Prod.snd)).v:=N8 (hI9_1 k1).1 (hI9_1 k1).2 (hxs1.trans k2) (hxs2.trans k3) k4 k5 (ho.Iu hn).1
 have oc2:=(s28.ah (E:=cd) 1 rfl).aa
 have oc3:=(s28.ah (E:=bC ByteArray) 2 rfl).aa
 have oc4:=(s28.ah (E:=aA) 5 rfl).aa
 have oc5:=(s28.ah (E:=aA) 6 rfl).aa
 have oc6:=(s28.ah (E:=bt) 7 rfl).aa
 have oc7:=(s28.ah (E:=Kw.encI .i64) 8 rfl).aa
 have oc8:=(s28.ah (E:=ay) 9 rfl).aa
 have s34:=(Sat.order [1,2,3,5,10,6,11,7,8,9,0,4] (by decide) s28.tail).aJ.pk [0,1,2,3,4,5,6,7,8,9,10,11]
 obtain ⟨hF1,s35⟩:=s34.xY 10 (Q:=λ w1=>RdC w1 (Co.mk av1 tv1 tv2 tv3 nv1 hv1 lv1 as9_1 (S9_1.map λ p=>(⟨p.1,p.2⟩:Tk)) xs1 xs2 (ep (dL (dx s9_1 0).2.1 0).2.1).1 ((fk (ep (dL (dx s9_1 0).2.1 0).2.1).2).1.map Prod.fst) ((fk (ep (dL (dx s9_1 0).2.1 0).2.1).2).1.map Prod.snd))) (λ w1 hA=>⟨hA.ah 0 rfl,LR (hA.ah 1 rfl),hA.ah 3 rfl,hA.ah 5 rfl,hA.ah 7 rfl,hA.ah 8 rfl,hA.ah 9 rfl,(λ t ht=>by obtain ⟨p,hp,e⟩:=List.mem_map.1 ht;rw [<-e];exact hA.ed 2 rfl p hp),hA.bB 4 rfl,hA.bB 6 rfl⟩)
 have s36:=(Sat.order [1,0,2] (by decide) s35.tail).aJ.pk [0,1,2]
 refine .region<| .a 3 rfl (.Jq (o:=2) gl rfl s36 (i:=0) rfl rfl rfl)<| .cp 0 s36 (Dz (d:=(Co.mk av1 tv1 tv2 tv3 nv1 hv1 lv1 as9_1 (S9_1.map λ p=>(⟨p.1,p.2⟩:Tk)) xs1 xs2 (ep (dL (dx s9_1 0).2.1 0).2.1).1 ((fk (ep (dL (dx s9_1 0).2.1 0).2.1).2).1.map Prod.fst) ((fk (ep (dL (dx s9_1 0).2.1 0).2.1).2).1.map Prod.snd))) (s36.bB 1 rfl) ho hn hcv) rfl λ _ s37=> .Z rfl<| .seq ?_
 have s38:=(s3.aD s37).nn
 refine .dk [1,2,3,4,5] s38 rfl (pl [0,1,2,3,4,5,6,7,8,9,10,11,12,13,14,1015,16,17] .fin) λ s39 S1=> .z 3 S1 rfl<| .e rfl (λ _ s=> .Jq (o:=2) gl rfl s (i:=2) rfl rfl rfl) S1<| .ld 3 S1 2 rfl<| .a 5 S1 rfl (λ _ s=> .eU rfl rfl)<| .z 1 S1 rfl<| .f rfl (.cv (vs:=[av1,tv1,tv2,tv3,nv1,hv1,lv1]) gl s39 (i:=0) rfl rfl rfl rfl (λ v h=>by simp only [List.mem_cons,List.not_mem_nil,or_false] at h;rcases h with rfl|rfl|rfl|rfl|rfl|rfl|rfl;exact oc2;exact oc3;exact oc4;exact oc5;exact oc6;exact oc7;exact oc8) λ _ s40 _=> ?_)
 have S2:=s40.pk [1,2,3,4,5]
 refine ⟨S2,?_⟩
 refine .Z S2 rfl<| .ret ?_
 show aF _ _ _ _ _ _
 refine yT (vs:=[av1,tv1,tv2,tv3,nv1,hv1,lv1]) rfl rfl rfl rfl gl (λ j u hu=>s40.cell (i:=0) rfl hu) ?_
 obtain ⟨sv1,hsv1,hsv1n⟩:=(s40.ah 5 rfl).sv
 subst hsv1
 exact ⟨(Co.mk av1 tv1 tv2 tv3 nv1 hv1 lv1 as9_1 (S9_1.map λ p=>(⟨p.1,p.2⟩:Tk)) xs1 xs2 (ep (dL (dx s9_1 0).2.1 0).2.1).1 ((fk (ep (dL (dx s9_1 0).2.1 0).2.1).2).1.map Prod.fst) ((fk (ep (dL (dx s9_1 0).2.1 0).2.1).2).1.map Prod.snd)),sv1,decide (strOf (aN (fo lexB cw c.v))=x),hF1,rfl,λ h=>⟨hcv,of_decide_eq_true h⟩,λ h=>decide_eq_true (by rw [<-(Prod.mk.inj (hA0.2 h)).2,<-hx,fS]),s40.pk [4]⟩
end Go.Proofs.YthffkcnbdehceaaGreat
namespace Go.Proofs.YthffkcnbdehceaaGreat
open Go.RowKit Go.Kw
set_option maxRecDepth 100000
def NF (X:Bool) (x:ByteArray) (c:Co):Prop:=∀ w,CallsV Tryz.prog 41 [.string x] w λ r w'=>∃ (d:Co) (iv:SV) (okb:Bool) (F:List Nat),r= .tuple #[d.val,iv.val,.bool okb]/\(okb=true->c.v=d.v/\strOf (aN (fo lexB cw c.v))=x)/\(X=true->okb=true)/\Sat w [j8 F (λ w1=>RdC w1 d)] w'
theorem wa (X:Bool) (x:ByteArray) (c:Co) (w:World) (hR:NF X x c):
  CallsV Tryz.prog 14 [(.string x)] w λ r w'=>∃ (d:Co) (okb:Bool) (F:List Nat),r= .tuple #[d.val,.int .i64 ((if okb then 0 else 9:Nat):Int)]/\(okb=true->c.v=d.v/\strOf (aN (fo lexB cw c.v))=x)/\(X=true->okb=true)/\Sat w [j8 F (λ w1=>RdC w1 d)] w':=by
 refine cn Tryz.func14 rfl λ hs0=> .h<| .al 0 hs0 rfl λ b1 _ s1 _ _=> .Z rfl<| .h<| .c 1 (hR _) rfl λ r1 _ h1=> ?_
 obtain ⟨rd1,riv1,okb1,rF1,rfl,hokb11,hokb12,p1⟩:=h1
 have s2:=s1.aD p1
 refine .al 4 s2 rfl λ b2 _ s3 _ _=> ?_
 have s3:=s3.nn
 refine .sa 0 s3 2 (vs:=[rd1.va,rd1.vt,rd1.vx,rd1.vr,rd1.vn,rd1.vh,rd1.vl]) rfl (λ v h=>by simp only [List.mem_cons,List.not_mem_nil,or_false] at h;rcases h with rfl|rfl|rfl|rfl|rfl|rfl|rfl;exact (s3.bB 1 rfl).a.aa;exact (s3.bB 1 rfl).t.aa;exact (s3.bB 1 rfl).x.aa;exact (s3.bB 1 rfl).r.aa;exact (s3.bB 1 rfl).n.aa;exact (s3.bB 1 rfl).h.aa;exact (s3.bB 1 rfl).l.aa) λ _ s4 _=> .Z rfl<| .seq<| .h<| .a 1 rfl (.ct rfl)<| .nil<| .cond rfl (λ c1=> ?_) (λ c1=> ?_)
 ·refine .h<| .e rfl (.build CK rfl trivial rfl)<| .sa 0 s4 0 (vs:=[(.slice none 0 0),(.slice none 0 0),(.slice none 0 0),(.slice none 0 0),(.slice none 0 0),(.slice none 0 0),(.slice none 0 0)]) rfl (λ v h=>by simp only [List.mem_cons,List.not_mem_nil,or_false] at h;rcases h with rfl|rfl|rfl|rfl|rfl|rfl|rfl;exact rfl;exact rfl;exact rfl;exact rfl;exact rfl;exact rfl;exact rfl) λ _ s5 _=> .Z rfl<| .ret ?_
  show aF _ _ _ _ _ _
  refine uc (vs:=[(.slice none 0 0),(.slice none 0 0),(.slice none 0 0),(.slice none 0 0),(.slice none 0 0),(.slice none 0 0),(.slice none 0 0)]) rfl rfl rfl gl (λ j u hu=>s5.cell (i:=0) rfl hu) ?_
  have s7:=(s5.pk []).rO (Q:=λ w1=>RdC w1 rI) (λ w1=>uV w1)
  exact ⟨rI,false,_,rfl,(λ h=>by cases h),(λ h=>by have h9:=hokb12 h;rw [h9] at c1;cases c1),s7.pk [0]⟩
 refine .skip<| .h<| .lo 0 s4 2 rfl<| .sa 0 s4 0 (vs:=[rd1.va,rd1.vt,rd1.vx,rd1.vr,rd1.vn,rd1.vh,rd1.vl]) rfl (λ v h=>by simp only [List.mem_cons,List.not_mem_nil,or_false] at h;rcases h with rfl|rfl|rfl|rfl|rfl|rfl|rfl;exact (s4.bB 1 rfl).a.aa;exact (s4.bB 1 rfl).t.aa;exact (s4.bB 1 rfl).x.aa;exact (s4.bB 1 rfl).r.aa;exact (s4.bB 1 rfl).n.aa;exact (s4.bB 1 rfl).h.aa;exact (s4.bB 1 rfl).l.aa) λ _ s9 _=> .Z rfl<| .ret ?_
 show aF _ _ _ _ _ _
 refine uc (vs:=[rd1.va,rd1.vt,rd1.vx,rd1.vr,rd1.vn,rd1.vh,rd1.vl]) rfl rfl rfl gl (λ j u hu=>s9.cell (i:=0) rfl hu) ?_
 exact ⟨rd1,true,rF1,rfl,(λ _=>hokb11 (by simpa using c1)),(λ _=>rfl),s9.pk [1]⟩
theorem H2 {c:Co} {n:Nat} (ho:OkC n c) (hn:n<=3):(fo lexB cw c.v).length<=50000000:=by
 have h1:=ho.ntx;have h2:=ho.nrg;have h3:=AE ho hn;have h4:=ho.at_.2
 have h5:=aK c.at_.length;have h6:=aK c.tx.length;have h7:=aK c.rg.length
 have hc:(gI lexB cw c.v.at_ c.v.tk c.at_.length).length<=5000000*c.at_.length:=by
  have:=qL (f:=λ i=>jK lexB cw (c.v.at_.getD i (ByteArray.empty,false)) (c.v.tk.map λ t=>t.getD i ByteArray.empty)) (B:=5000000) (List.range c.at_.length) λ i hi=>by
   have hi':=List.mem_range.1 hi
   obtain ⟨a,ha⟩:∃ a,c.at_[i]? =some a:=⟨_,List.getElem?_eq_getElem hi'⟩
   have h9:=zX ho hn ha
   rw [zh,List.getD_eq_getElem?_getD,show c.v.at_=c.at_ from rfl,ha,Option.getD_some]
   exact h9
  rw [List.length_range] at this
  exact this
 have ht:=qL (f:=λ x:Iv=>gJ x.v) (B:=2000) c.tx λ x hx=>by
  have q:=ho.tx.nm x hx
  exact AD (x:=x.v) (bA q.1) q.2.1
 have hr:∀ (l:List Iv) (z:Int),(∀ x∈l,x∈c.rg)->(fg z (l.map Iv.v)).length<=2000*l.length:=by
  intro l
  induction l with
  |nil=>intro z _;exact Nat.le_refl _
  |cons x l ih=>
   intro z hm
   have q:=ho.rg.el x (hm x (by simp))
   have h8:=AB (bf:=z) (x:=x.v) (bA q.1) q.2.2
   have h9:=ih x.v.2.1 λ y hy=>hm y (by simp [hy])
   rw [List.map_cons,fg,List.length_append,List.length_cons]
   omega
 have hr2:=hr c.rg 0 λ x hx=>hx
 rw [pz]
 simp only [List.length_append,List.length_cons,List.length_nil]
 omega
theorem BU {c:Co} {n:Nat} (ho:OkC n c) (hn:n<=3):NF true (strOf (aN (fo lexB cw c.v))) c:=λ w=>by
 have h1:=H2 ho hn
 have h2:=uq lW lY c.v
 exact H0 true _ (fo lexB cw c.v) c n w ho hn (fZ (iM h2)) h2 (by omega) ⟨λ _=>⟨h2,Agr.refl _⟩,λ _=>rfl⟩ (by rw [cU,bJ];omega)
theorem wb {c:Co} {n:Nat} {w:World} (ho:OkC n c) (hn:n<=3):CallsV Tryz.prog 14 [.string (strOf (aN (fo lexB cw c.v)))] w λ r w'=>∃ (d:Co) (F:List Nat),r= .tuple #[d.val,.int .i64 ((0:Nat):Int)]/\c.v=d.v/\Sat w [j8 F (λ w1=>RdC w1 d)] w':=
 (wa true _ c w (BU ho hn)).mono λ r w' hq=>by
  obtain ⟨d,okb,F,rfl,h3,h4,h5⟩:=hq
  have h6:=h4 rfl
  subst h6
  exact ⟨d,F,rfl,(h3 rfl).1,h5⟩
end Go.Proofs.YthffkcnbdehceaaGreat
namespace Go.Proofs.YthffkcnbdehceaaGreat
open Go.RowKit Go.Kw
set_option maxRecDepth 100000
theorem iH {α:Type} {a x:α} {i:Nat} (h:[a][i]? =some x):i=0/\x=a:=by
 cases i with
 |zero=>cases h;exact ⟨rfl,rfl⟩
 |succ i=>simp at h
theorem DA {va vt vx vr vn vh vl:Value} {sv:SV}:OkC 1 (Co.mk va vt vx vr vn vh vl [(⟨#[97]⟩,false)] [⟨sv,[⟨#[120]⟩]⟩] [⟨⟨#[116]⟩,0,1,⟨none,0,0⟩,[]⟩] [] [] [] []) where
 at_:=⟨λ i x hx=>by
  obtain ⟨rfl,rfl⟩:=iH hx
  exact ⟨by decide,rfl⟩,Nat.le_refl 1,show (1:Nat)<=8 by decide⟩
 tk t ht:=by
  rw [List.mem_singleton.1 ht]
  refine ⟨rfl,λ i v a hv ha=> ?_⟩
  obtain ⟨_,rfl⟩:=iH hv
  obtain ⟨_,rfl⟩:=iH ha
  exact ⟨λ _=>jt (by decide) (by decide),λ h=>by cases h⟩
 tx:={
  nm:=λ x hx=>by rw [List.mem_singleton.1 hx];exact ⟨by decide,qN,Int.le_refl 0,show (0:Int)<1 by decide,Int.le_refl 1⟩
  nd:=λ i j x y hx hy h=>by have:=(iH hx).1;omega
  first:=λ x hx=>by rw [(iH hx).2]
  next:=λ i x y hx hy=>by have:=(iH hy).1;omega
  last:=λ i x hx h=>by rw [(iH hx).2]<;>rfl
  none_:=⟨λ h=>(by cases h),λ h=>by have h9:(1:Int)=0:=h;omega⟩}
 rg:=⟨λ x hx=>(by cases hx),λ i x y hx=>(by simp at hx),λ x hx=>(by cases hx)⟩
 nd:=⟨λ x hx=>(by cases hx),λ i x hx=>(by simp at hx),λ s i x y hx=>(by simp at hx)⟩
 hd:= .inl ⟨rfl,rfl⟩
 ntk:=show (1:Nat)<=12 by decide
 ntx:=Nat.le_refl 1
 nrg:=Nat.zero_le _
 nnd:=Nat.zero_le _
theorem u9 {X:List ByteArray->List Nat} {T:List Nat->List Nat} (c:Co):(strOf (aN (fo X T c.v))).extract 0 3=⟨#[67,83,49]⟩/\3<(strOf (aN (fo X T c.v))).size:=by
 rw [pz]
 refine ⟨?_,?_⟩
 ·unfold aN
  rw [List.append_assoc]
  apply rC
  unfold bD
  rw [D0]
  rfl
 rw [cU,bJ]
 simp only [List.length_append,List.length_cons,List.length_nil]
 omega
theorem yI (w:World):
  CallsV Tryz.prog 13 [] w λ r w'=>r= .bool true/\Sat w [] w':=by
 have hs0:=Sat.start w
 refine ae Tryz.func13 rfl rfl ?_
 refine .Z rfl<| .h<| .e rfl (.build FE rfl ⟨rfl,trivial⟩ rfl)<| .f rfl (.cC (cd) ((⟨#[97]⟩:ByteArray),false) CJ (by decide) (by decide) hs0 rfl λ v1 _ s1 _=> ?_)
 refine .f rfl (.cR (ay) (ByteArray.mk #[120]) cu rfl s1 rfl λ v2 _ s2 _=> ?_)
 obtain ⟨sv1,hsv1,hsv1n⟩:=(s2.ah 1 rfl).sv
 subst hsv1
 refine .f rfl (.cR (ib) (⟨sv1,[⟨#[120]⟩]⟩:Tk) zF rfl s2 rfl λ v3 _ s3 _=> ?_)
 have s3:=s3.nn
 refine .e rfl (.build I4 rfl ⟨rfl,rfl,trivial⟩ rfl)<| .f rfl (.cC (aA) (⟨⟨#[116]⟩,0,1,⟨none,0,0⟩,[]⟩:Iv) sB (by decide) (by decide) s3 rfl λ v_4 _ s4 _=> ?_)
 refine .e rfl (.build CK rfl ⟨(s4.ah 0 rfl).aa,(s4.ah 2 rfl).aa,(s4.ah 3 rfl).aa,trivial⟩ rfl)<| .al 0 s4 rfl λ b1 _ s5 _ _=> .sa 0 s5 4 (vs:=[v1,v3,v_4,(.slice none 0 0),(.slice none 0 0),(.slice none 0 0),(.slice none 0 0)]) rfl (λ v h=>by simp only [List.mem_cons,List.not_mem_nil,or_false] at h;rcases h with rfl|rfl|rfl|rfl|rfl|rfl|rfl;exact (s5.ah 0 rfl).aa;exact (s5.ah 2 rfl).aa;exact (s5.ah 3 rfl).aa;exact rfl;exact rfl;exact rfl;exact rfl) λ _ s6 _=> ?_
 have s6:=s6.nn
 refine .nil<| .seq ?_
 have oc0:=(s6.ah (E:=cd) 0 rfl).aa
 have oc1:=(s6.ah (E:=ib) 2 rfl).aa
 have oc2:=(s6.ah (E:=aA) 3 rfl).aa
 have s7:=(Sat.order [0,2,3,1,4] (by decide) s6.tail).aJ.pk [0,1,2,3,4]
 obtain ⟨hF1,s8⟩:=s7.xY 4 (Q:=λ w1=>RdC w1 (Co.mk v1 v3 v_4 (Value.slice none 0 0) (Value.slice none 0 0) (Value.slice none 0 0) (Value.slice none 0 0) [(⟨#[97]⟩,false)] [⟨sv1,[⟨#[120]⟩]⟩] [(⟨⟨#[116]⟩,0,1,⟨none,0,0⟩,[]⟩:Iv)] [] [] [] [])) (λ w1 hA=>⟨hA.ah 0 rfl,hA.ah 1 rfl,hA.ah 2 rfl,RdL.nil _ _,RdL.nil _ _,RdL.nil _ _,RdL.nil _ _,(λ t ht=>by rw [List.mem_singleton.1 ht];exact hA.ah 3 rfl),(λ t ht=>by rw [List.mem_singleton.1 ht];exact RdL.nil _ _),λ t ht=>by cases ht⟩)
 refine .region<| .lo 0 s8 1 rfl<| .cp 0 s8 (jY (Co.mk v1 v3 v_4 (Value.slice none 0 0) (Value.slice none 0 0) (Value.slice none 0 0) (Value.slice none 0 0) [(⟨#[97]⟩,false)] [⟨sv1,[⟨#[120]⟩]⟩] [(⟨⟨#[116]⟩,0,1,⟨none,0,0⟩,[]⟩:Iv)] [] [] [] []) 1 _ (s8.bB 0 rfl) DA (by decide)) rfl λ _ s9=> .Z rfl<| .h<| .c 1 (wb (c:=(Co.mk v1 v3 v_4 (Value.slice none 0 0) (Value.slice none 0 0) (Value.slice none 0 0) (Value.slice none 0 0) [(⟨#[97]⟩,false)] [⟨sv1,[⟨#[120]⟩]⟩] [(⟨⟨#[116]⟩,0,1,⟨none,0,0⟩,[]⟩:Iv)] [] [] [] [])) (n:=1) DA (by decide)) rfl λ r2 _ h2=> ?_
 obtain ⟨ed1,eF1,rfl,hed1v,p2⟩:=h2
 have s10:=s9.aD p2
 refine .al 3 s10 rfl λ b2 _ s11 _ _=> ?_
 have s11:=s11.nn
 refine .sa 0 s11 3 (vs:=[ed1.va,ed1.vt,ed1.vx,ed1.vr,ed1.vn,ed1.vh,ed1.vl]) rfl (λ v h=>by simp only [List.mem_cons,List.not_mem_nil,or_false] at h;rcases h with rfl|rfl|rfl|rfl|rfl|rfl|rfl;exact (s11.bB 2 rfl).a.aa;exact (s11.bB 2 rfl).t.aa;exact (s11.bB 2 rfl).x.aa;exact (s11.bB 2 rfl).r.aa;exact (s11.bB 2 rfl).n.aa;exact (s11.bB 2 rfl).h.aa;exact (s11.bB 2 rfl).l.aa) λ _ s12 _=> .Z rfl<| .h<| .lo 7 s12 1 rfl<| .lo 0 s12 3 rfl<| .c 0 (sG (Co.mk v1 v3 v_4 (Value.slice none 0 0) (Value.slice none 0 0) (Value.slice none 0 0) (Value.slice none 0 0) [(⟨#[97]⟩,false)] [⟨sv1,[⟨#[120]⟩]⟩] [(⟨⟨#[116]⟩,0,1,⟨none,0,0⟩,[]⟩:Iv)] [] [] [] []) ed1 _ (s12.bB 0 rfl) (s12.bB 2 rfl) (DA.sm (by decide))) rfl λ r3 _ h3=> ?_
 obtain ⟨eq1,rfl,heq1,p3⟩:=h3
 have s13:=s12.aD p3
 refine .z 2 rfl<| .Gt 34 rfl (heq1.2 hed1v)<| .a 1 rfl (.bM Tryz.underlying9 rfl)<| .z 3 rfl<| .Gt 39 rfl (decide_eq_true ((u9 (X:=lexB) (T:=cw) (Co.mk v1 v3 v_4 (Value.slice none 0 0) (Value.slice none 0 0) (Value.slice none 0 0) (Value.slice none 0 0) [(⟨#[97]⟩,false)] [⟨sv1,[⟨#[120]⟩]⟩] [(⟨⟨#[116]⟩,0,1,⟨none,0,0⟩,[]⟩:Iv)] [] [] [] [])).2))<| .a 1 rfl (.iy (l:=0) (h:=3) Tryz.underlying9 rfl rfl ⟨_,rfl⟩ (Nat.zero_le _) (by have:=(u9 (X:=lexB) (T:=cw) (Co.mk v1 v3 v_4 (Value.slice none 0 0) (Value.slice none 0 0) (Value.slice none 0 0) (Value.slice none 0 0) [(⟨#[97]⟩,false)] [⟨sv1,[⟨#[120]⟩]⟩] [(⟨⟨#[116]⟩,0,1,⟨none,0,0⟩,[]⟩:Iv)] [] [] [] [])).2;omega))<| .a 0 rfl (.eU rfl rfl)<| .Z rfl<| .az rfl rfl ?_
 exact ⟨congrArg Value.bool (decide_eq_true ((u9 (X:=lexB) (T:=cw) (Co.mk v1 v3 v_4 (Value.slice none 0 0) (Value.slice none 0 0) (Value.slice none 0 0) (Value.slice none 0 0) [(⟨#[97]⟩,false)] [⟨sv1,[⟨#[120]⟩]⟩] [(⟨⟨#[116]⟩,0,1,⟨none,0,0⟩,[]⟩:Iv)] [] [] [] [])).1)),s13.pk []⟩
end Go.Proofs.YthffkcnbdehceaaGreat
namespace Go.Proofs.YthffkcnbdehceaaGreat
open Go.RowKit Go.Kw
set_option maxRecDepth 100000
theorem beq_iff {P Q:Prop} [Decidable P] {q:Bool} (h:P↔Q) (hq:q=true↔Q):(decide P==q)=true:=by
 cases q with
 |true=>rw [decide_eq_true (h.2 (hq.1 rfl))]<;>rfl
 |false=>rw [decide_eq_false λ p=>by have:=hq.2 (h.1 p);cases this]<;>rfl
theorem DB {j k:Nat} {a b:Co} (ha:OkC j a) (hb:OkC k b) (hj:j<=3) (hk:k<=3):strOf (aN (fo lexB cw a.v))=strOf (aN (fo lexB cw b.v))↔a.v=b.v:=
 ⟨λ h=>GS ha hb (by omega) (by omega) ((sS (iM (uq lW lY _)) (iM (uq lW lY _))).1 h),λ h=>by rw [h]⟩
theorem yJ (v u:Value) (zs ys:List Int) (w:World) (hv:RdL w v (Kw.encI .i64) zs) (hu:RdL w u (Kw.encI .i64) ys):
  CallsV Tryz.prog 5 [v,u] w λ r w'=>r= .bool true/\Sat w [] w':=by
 have hs0:=Sat.start w
 refine ae Tryz.func5 rfl rfl ?_
 refine .Z rfl<| .h<| .z 1 rfl ?_
 have A1:=hs0.tail.oc [] 0
 refine .c 0 (zO _ _ _ _ (zs) A1 hv) rfl λ r1 _ h1=> ?_
 obtain ⟨tg1,rfl,p1⟩:=h1
 have s1:=(Sat.order [0] (by decide) p1.join).aJ.nn
 have A2:=s1.tail.oc [0] 1
 refine .c 0 (pU _ _ _ _ (4) A2 (by decide) (by decide)) rfl λ r2 _ h2=> ?_
 obtain ⟨mc1,mF1,mn1,rfl,hmc13,hmc1o,p2⟩:=h2
 have s2:=(Sat.order [0] (by decide) p2.join).aJ.nn
 refine .z 1 rfl ?_
 have A3:=s2.tail.oc [0] 0
 refine .c 0 (zO _ _ _ _ (ys) A3 hu) rfl λ r3 _ h3=> ?_
 obtain ⟨tg2,rfl,p3⟩:=h3
 have s3:=(Sat.order [1,0] (by decide) p3.join).aJ.nn
 have A4:=s3.tail.oc [1,0] 1
 refine .c 0 (pU _ _ _ _ (4) A4 (by decide) (by decide)) rfl λ r4 _ h4=> ?_
 obtain ⟨mc2,mF2,mn2,rfl,hmc23,hmc2o,p4⟩:=h4
 have s4:=(Sat.order [1,0] (by decide) p4.join).aJ.nn
 refine .al 0 s4 rfl λ b1 _ s5 _ _=> .al 0 s5 rfl λ b2 _ s6 _ _=> .sa 0 s6 2 (vs:=[mc1.va,mc1.vt,mc1.vx,mc1.vr,mc1.vn,mc1.vh,mc1.vl]) rfl (λ v h=>by simp only [List.mem_cons,List.not_mem_nil,or_false] at h;rcases h with rfl|rfl|rfl|rfl|rfl|rfl|rfl;exact (s6.bB 0 rfl).a.aa;exact (s6.bB 0 rfl).t.aa;exact (s6.bB 0 rfl).x.aa;exact (s6.bB 0 rfl).r.aa;exact (s6.bB 0 rfl).n.aa;exact (s6.bB 0 rfl).h.aa;exact (s6.bB 0 rfl).l.aa) λ _ s7 _=> ?_
 have s7:=s7.nn
 refine .sa 0 s7 3 (vs:=[mc2.va,mc2.vt,mc2.vx,mc2.vr,mc2.vn,mc2.vh,mc2.vl]) rfl (λ v h=>by simp only [List.mem_cons,List.not_mem_nil,or_false] at h;rcases h with rfl|rfl|rfl|rfl|rfl|rfl|rfl;exact (s7.bB 1 rfl).a.aa;exact (s7.bB 1 rfl).t.aa;exact (s7.bB 1 rfl).x.aa;exact (s7.bB 1 rfl).r.aa;exact (s7.bB 1 rfl).n.aa;exact (s7.bB 1 rfl).h.aa;exact (s7.bB 1 rfl).l.aa) λ _ s8 _=> .nil<| .h<| .lo 0 s8 2 rfl<| .cp 0 s8 (jY mc1 mn1 _ (s8.bB 0 rfl) hmc1o hmc13) rfl λ _ s9=> .Z rfl<| .h<| .lo 0 s9 3 rfl<| .cq 0 s9 (jY mc2 mn2 _ (s9.bB 1 rfl) hmc2o hmc23) rfl λ _ s10=> .Z rfl<| .h<| .a 9 rfl (.eU rfl rfl)<| .lo 0 s10 2 rfl<| .lo 0 s10 3 rfl<| .c 0 (sG mc1 mc2 _ (s10.bB 0 rfl) (s10.bB 1 rfl) (hmc1o.sm (by omega))) rfl λ r7 _ h7=> ?_
 obtain ⟨eq1,rfl,heq1,p7⟩:=h7
 have s11:=s10.aD p7
 refine .a 0 rfl (.NA Tryz.underlying4 rfl rfl)<| .z 2 rfl<| .Gt 42 rfl (beq_iff (DB hmc1o hmc2o hmc13 hmc23) heq1)<| .cp 0 s11 (yI _) rfl λ _ s12=> .Z rfl<| .az rfl rfl ?_
 exact ⟨rfl,s12.pk []⟩
end Go.Proofs.YthffkcnbdehceaaGreat
