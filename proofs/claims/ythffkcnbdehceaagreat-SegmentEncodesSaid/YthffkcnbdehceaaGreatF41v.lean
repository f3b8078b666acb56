/-The walks of the functions of F41v,printed by our own program (kwgen.py) out of our descriptions (base.py). -/
import Derived.Test.YthffkcnbdehceaaGreatF41c
import Derived.Test.YthffkcnbdehceaaGreatM41t
open List
open Go.Proofs.Tryz
set_option linter.unusedVariables false
set_option linter.unusedSimpArgs false
set_option linter.unusedSectionVars false
namespace Go.Proofs.YthffkcnbdehceaaGreat
open Go.RowKit Go.Kw
set_option maxRecDepth 100000
theorem ET (v:Value) (b p:List Nat) (w:World) (hv:RdL w v (aa .u8) b) (he:b=aM p) (hb:∀ x∈p,x<256) (hn:p.length<=100000000):
  CallsV prog 96 [v] w λ r w'=>∃ v',r= .tuple #[v',.int .i64 ((0:Nat):Int)]/\Sat w [cL v' 5 (aa .u8) p] w':=by
 subst he
 have hl:=bL p
 have ht:(aM p).take ((aM p).length-4)=p:=by rw [hl,Qy,aM,take_left']<;>rfl
 have hd:(aM p).drop ((aM p).length-4)=nz (iz p):=by rw [hl,Qy,aM,drop_left']<;>rfl
 have h:=tD v (aM p) w hv (λ x hx=>by
  rcases PT.1 hx with hx|hx
  ·exact hb x hx
  ·exact nA _ x hx) (by omega) (by omega) (by rw [ht,hd])
 rw [ht] at h;exact h
theorem EU {c d:Co} {n:Nat} {w:World} (hr:RdC w d) (ho:OkC n c) (hn:n<=3) (e:c.v=d.v):CallsV prog 11 [d.val] w λ r w'=>r= .tuple #[.string (strOf (aM (iR lexB bW c.v))),.int .i64 ((0:Nat):Int)]/\Sat w [] w':=by rw [e];exact oe d n w hr (ho.Pb e) hn
theorem D5 {p R:List Nat} (h:Agr p ([67,83,49]++R)):p.length<3\/∃ q,p=[67,83,49]++q/\Agr q R:=by
 rcases h.cut with ⟨q,h1,h2⟩|⟨t,h1,h2⟩
 ·exact .inr ⟨q,h1,h2⟩
 left
 have h3:=If List.length h1
 have h4:0<t.length:=T4.2 h2
 rw [sp] at h3
 simp only [KP,KY] at h3
 omega
set_option maxHeartbeats 2000000 in
theorem IF (X:Bool) (x:ByteArray) (p:List Nat) (c:Co) (n:Nat) (w:World) (ho:OkC n c) (hn:n<=3) (h0:K0 c) (hx:bF x=aM p) (hpb:∀ y∈p,y<256) (hpl:p.length<=100000000) (hA:At X (true,p) (iR lexB bW c.v)) (hxz:x.size<=4611686018427387904):
  CallsV prog 41 [(.string x)] w λ r w'=>∃ (d:Co) (iv:SV) (okb:Bool) (F:List Nat),r= .tuple #[d.val,iv.val,.bool okb]/\(okb=true->c.v=d.v/\strOf (aM (iR lexB bW c.v))=x)/\(X=true->okb=true)/\Sat w [jH F (λ w1=>RdC w1 d)] w':=by
 have hA0:=hA
 rw [Mb] at hA
 have hs0:=Sat.start w
 refine ai func41 rfl rfl ?_
 refine .h<| .al 0 hs0 rfl λ b1 _ s1 _ _=> .Z rfl<| .h<| .b 1 rfl (.gn underlying9 underlying45 underlying5 s1 rfl (hxz) λ v1 _ s2=> ?_)
 refine .c 0 (ET _ (bF x) p _ (s2.o3 1 rfl) hx hpb hpl) rfl λ r1 w3 h1=> ?_
 obtain ⟨uv1,rfl,p1⟩:=h1
 have s3:=(s2.az p1).nn
 refine .Z rfl<| .seq<| .seq ?_
 rcases D5 (p:=p) (hA.1 rfl).2 with hs3|⟨q,hq,hqa⟩
 ·have hX:X=false:=by cases hXX:X with|false=>rfl|true=>have h9:=(Prod.mk.inj (hA.2 hXX)).2;rw [h9] at hs3;simp at hs3;omega
  refine .region<| .ln 4 (s3.ah 2 rfl) rfl<| .z 3 rfl<| .Gt 22 rfl (PM (hs3))<| .Z rfl<| .ea rfl (rfl)<| .h<| .e rfl (.build DV rfl trivial rfl)<| .sa 0 s3 0 (vs:=[(.slice none 0 0),(.slice none 0 0),(.slice none 0 0),(.slice none 0 0),(.slice none 0 0),(.slice none 0 0),(.slice none 0 0)]) rfl (λ v h=>by simp only [PR,PU,Q9] at h;rcases h with rfl|rfl|rfl|rfl|rfl|rfl|rfl;exact rfl;exact rfl;exact rfl;exact rfl;exact rfl;exact rfl;exact rfl) λ _ s4 _=> .Z rfl<| .ret ?_
  show aL _ _ _ _ _ _
  refine jW (vs:=[(.slice none 0 0),(.slice none 0 0),(.slice none 0 0),(.slice none 0 0),(.slice none 0 0),(.slice none 0 0),(.slice none 0 0)]) rfl rfl rfl rfl gP (λ j u hu=>s4.cell (i:=0) rfl hu) ?_
  have s6:=(s4.pk []).sF (Q:=λ w1=>RdC w1 sr) (λ w1=>wy w1)
  exact ⟨sr,⟨none,0,0⟩,false,_,rfl,(λ h=>by cases h),(λ h=>by rw [hX] at h;cases h),s6.pk [0]⟩
 have hq1:p.drop 3=q:=by rw [hq]<;>rfl
 have hq2:p.length=q.length+3:=by rw [hq,sp];simp only [KP,KY];omega
 refine .region<| .ln 4 (s3.ah 2 rfl) rfl<| .z 3 rfl<| .Gf 22 rfl (IN (by omega))<| .a 1 rfl (.aV (E:=aa .u8) (a:=0) (c:=3) ch rfl (s3.ah 2 rfl) rfl ⟨_,rfl⟩ (KD _) (by omega))<| .a 0 rfl (.cZ underlying45 underlying9 underlying5 rfl (((s3.ah 2 rfl)).sub (a:=0) (b:=3) (KD _) (by omega)))<| .a 0 rfl (.ed rfl rfl)<| .Z rfl<| .aj rfl (IN (λ h=>h (by rw [hq]<;>rfl)))<| .skip<| .seq ?_
 have hpay:=s3.ah 2 rfl
 have hq0:=hpay.sub (a:=3) (b:=p.length) (by omega) (KB _)
 rw [PW,hq1] at hq0
 have hsb:Sat w3 [] w3:=Sat.start _
 have hB:RB (true,q):=⟨λ x hx=>hpb x (by rw [hq];exact QQ _ hx),by show q.length<=_;omega⟩
 have hA1:At X (true,q) (uv c.at_.length++(EI c 0++H9 c)):=by rw [<-EK];exact ⟨λ _=>⟨λ x hx=>hpb x (by rw [hq];exact QQ _ hx),hqa⟩,λ hXX=>Sd rfl (append_cancel_left (hq.symm.trans (Prod.mk.inj (hA.2 hXX)).2))⟩
 refine .region<| .a 1 rfl (.aV (E:=aa .u8) (a:=3) (c:=(p).length) ch rfl (hpay.ext hsb.ext) ⟨_,rfl⟩ rfl (by omega) (KB _))<| .e rfl (.build NS rfl ⟨(((hpay.ext hsb.ext)).sub (a:=3) (b:=(p).length) (by omega) (KB _)).ab,trivial⟩ rfl)<| .e rfl (.HM NT rfl rfl)<| .bx 0 hsb rfl λ b2 _ s8 _ _=> .Z rfl<| .seq ?_
 have s9:=s8.aA 86 (cE)
 have s10:=s9.aA 28 (ck ByteArray)
 have s11:=s10.qp 9 ax
 have s12:=s11.aA 111 (jX)
 have s13:=s12.aA 71 (aG)
 have s14:=s13.aA 75 (aG)
 have s15:=s14.aA 84 (bE)
 have s16:=s15.aA 3 (Kw.encI .i64)
 have s17:=s16.aA 9 (ax)
 have s18:=s17.sF (Q:=λ w1=>∀ t∈([]:List Iv),RdL w1 t.sv.val aU t.ps) (λ w1=>λ t ht=>by cases ht)
 have s19:=(Sat.order [1,2,3,4,5,6,7,8,9,10,0] (by decide) s18.tail).aI.pk [0,1,2,3,4,5,6,7,8,9,10]
 have s20:=s19.sF (Q:=λ w1=>∀ t∈([]:List Iv),RdL w1 t.sv.val aU t.ps) (λ w1=>λ t ht=>by cases ht)
 have s21:=(Sat.order [1,2,3,4,5,6,7,8,9,10,11,0] (by decide) s20.tail).aI.pk [0,1,2,3,4,5,6,7,8,9,10,11]
 have s22:=s21.nn
 refine .region<| .a 4 rfl (.gw rfl) ?_
 have A1:=s22.tail.oc [0,1,2,3,4,5,6,7,8,9,10,11] 5
 refine .c 0 (zM _ _ _ _ _ (true,q) _ _ _ _ _ _ _ _ _ X c n (H9 c) A1 hq0 hB ho hn h0 hA1) rfl λ r2 _ h2=> ?_
 obtain ⟨rfl,s9_1,bv1,av1,as9_1,tv1,S9_1,iv1,ix9_1,hbv1,hB9_1,hA9_1,hI9_1,p2⟩:=h2
 have s23:=(Sat.order [0,1,2,3,4,5,6,7,8,9,10,11] (by decide) p2.join).aI.nn
 refine .nil<| .h<| .a 4 rfl (.gw rfl) ?_
 have A_2:=s23.tail.oc [0,5,10,1,2,3,4,6,7,8,9,11] 3
 refine .c 0 (zl _ _ _ _ _ s9_1 _ _ _ _ _ _ _ _ 0 _ A_2 hbv1 hB9_1 rfl) rfl λ r3 _ h3=> ?_
 obtain ⟨rfl,bv2,tv2,xs1,F1,hbv2,hxs1,p3⟩:=h3
 have s24:=(Sat.order [0,3,4,5,6,1,7,8,9,10,2,11] (by decide) p3.join).aI.nn
 refine .nil<| .h<| .st 3 s24 0 rfl λ _ s25 _=> .nil<| .h<| .a 4 rfl (.gw rfl) ?_
 have A3:=s25.tail.oc [0,6,11,1,2,3,4,5,7,8,9,10] 3
 refine .c 0 (zm _ _ _ _ _ (dJ s9_1 0).2.1 _ _ _ _ _ _ _ _ 0 _ A3 hbv2 (RB.Pk hB9_1 0) rfl) rfl λ r4 _ h4=> ?_
 obtain ⟨rfl,bv3,tv3,xs2,F2,hbv3,hxs2,p4⟩:=h4
 have s26:=(Sat.order [0,3,4,5,6,7,1,8,9,10,11,2] (by decide) p4.join).aI.nn
 refine .nil<| .h<| .a 4 rfl (.gw rfl) ?_
 have A4:=s26.tail.oc [0,7,1,2,3,4,5,6,8,9,10,11] 2
 refine .c 0 (zn _ _ _ _ _ (ec (dJ s9_1 0).2.1 0).2.1 _ _ _ _ _ _ _ _ _ A4 hbv3 (RB.PC (RB.Pk hB9_1 0) 0)) rfl λ r5 _ h5=> ?_
 obtain ⟨rfl,bv4,nv1,hbv4,p5⟩:=h5
 have s27:=(Sat.order [0,2,3,4,5,6,7,1,8,9,10,11] (by decide) p5.join).aI.nn
 refine .nil<| .h<| .a 4 rfl (.gw rfl) ?_
 have A5:=s27.tail.oc [0,8,9,1,2,3,4,5,6,7,10,11] 3
 refine .c 0 (zo _ _ _ _ _ (eI (ec (dJ s9_1 0).2.1 0).2.1).2 _ _ _ _ _ _ _ _ _ A5 hbv4 (RB.PD (RB.PC (RB.Pk hB9_1 0) 0))) rfl λ r6 _ h6=> ?_
 obtain ⟨rfl,bv5,hv1,lv1,hbv5,p6⟩:=h6
 have s28:=(Sat.order [0,3,4,5,6,7,8,9,1,2,10,11] (by decide) p6.join).aI.nn
 refine .nil<| .seq<| .seq<| .trim [0,2,5,7] rfl ?_
 obtain ⟨A2,B2⟩:=tail_at ho hn hA9_1
 refine .bN 80 (((!(fK (eI (ec (dJ s9_1 0).2.1 0).2.1).2).2.1)=true)\/(0<((fK (eI (ec (dJ s9_1 0).2.1 0).2.1).2).2.2).length)) ?_ ?_
 ·refine .ld 4 s28 0 rfl<| .z 1 rfl ?_
  by_cases g1:(!(fK (eI (ec (dJ s9_1 0).2.1 0).2.1).2).2.1)=true
  ·refine .Gt 72 rfl (g1)<| .M rfl (by simp [g1])
  refine .Gf 72 rfl (by simpa using g1)<| .ld 4 s28 0 rfl<| .ln 0 (hbv5.ext s28.ext) rfl<| .M rfl (by simp [g1])
 refine .ae rfl (λ c1=> ?_) λ c1=> ?_
 ·refine .seq ?_
  have s29:=(s3.az s28).nn
  refine .region<| .e rfl (.build DV rfl trivial rfl)<| .sa 0 s29 0 (vs:=[(.slice none 0 0),(.slice none 0 0),(.slice none 0 0),(.slice none 0 0),(.slice none 0 0),(.slice none 0 0),(.slice none 0 0)]) rfl (λ v h=>by simp only [PR,PU,Q9] at h;rcases h with rfl|rfl|rfl|rfl|rfl|rfl|rfl;exact rfl;exact rfl;exact rfl;exact rfl;exact rfl;exact rfl;exact rfl) λ _ s30 _=> .Z rfl<| .ret ?_
  show aL _ _ _ _ _ _
  refine jW (vs:=[(.slice none 0 0),(.slice none 0 0),(.slice none 0 0),(.slice none 0 0),(.slice none 0 0),(.slice none 0 0),(.slice none 0 0)]) rfl rfl rfl rfl gP (λ j u hu=>s30.cell (i:=0) rfl hu) ?_
  have s32:=(s30.pk []).sF (Q:=λ w1=>RdC w1 sr) (λ w1=>wy w1)
  exact ⟨sr,⟨none,0,0⟩,false,_,rfl,(λ h=>by cases h),(λ h=>by have h9:=A2.2 h;exact absurd c1 (by rw [h9];simp)),s32.pk [0]⟩
 refine .skip<| .seq ?_
 have hok9:(fK (eI (ec (dJ s9_1 0).2.1 0).2.1).2).2.1=true:=(QK _).resolve_right λ h=>c1 (.inl (by simpa using h))
 obtain ⟨k1,k2,k3,k4,k5⟩:=B2 hok9
 have hcv:c.v=(Co.mk av1 tv1 tv2 tv3 nv1 hv1 lv1 as9_1 (S9_1.map λ p=>(⟨p.1,p.2⟩:Tk)) xs1 xs2 (eI (ec (dJ s9_1 0).2.1 0).2.1).1 ((fK (eI (ec (dJ s9_1 0).2.1 0).2.1).2).1.map Prod.fst) ((fK (eI (ec (dJ s9_1 0).2.1 0).2.1).2).1.map Prod.snd)).v:=P2 (hI9_1 k1).1 (hI9_1 k1).2 (hxs1.trans k2) (hxs2.trans k3) k4 k5 (ho.HE hn).1
 have oc2:=(s28.ah (E:=cE) 1 rfl).ab
 have oc3:=(s28.ah (E:=ck ByteArray) 2 rfl).ab
 have oc4:=(s28.ah (E:=aG) 5 rfl).ab
 have oc5:=(s28.ah (E:=aG) 6 rfl).ab
 have oc6:=(s28.ah (E:=bE) 7 rfl).ab
 have oc7:=(s28.ah (E:=Kw.encI .i64) 8 rfl).ab
 have oc8:=(s28.ah (E:=ax) 9 rfl).ab
 have s34:=(Sat.order [1,2,3,5,10,6,11,7,8,9,0,4] (by decide) s28.tail).aI.pk [0,1,2,3,4,5,6,7,8,9,10,11]
 obtain ⟨hF1,s35⟩:=s34.za 10 (Q:=λ w1=>RdC w1 (Co.mk av1 tv1 tv2 tv3 nv1 hv1 lv1 as9_1 (S9_1.map λ p=>(⟨p.1,p.2⟩:Tk)) xs1 xs2 (eI (ec (dJ s9_1 0).2.1 0).2.1).1 ((fK (eI (ec (dJ s9_1 0).2.1 0).2.1).2).1.map Prod.fst) ((fK (eI (ec (dJ s9_1 0).2.1 0).2.1).2).1.map Prod.snd))) (λ w1 hA=>⟨hA.ah 0 rfl,NK (hA.ah 1 rfl),hA.ah 3 rfl,hA.ah 5 rfl,hA.ah 7 rfl,hA.ah 8 rfl,hA.ah 9 rfl,(λ t ht=>by obtain ⟨p,hp,e⟩:=Qn.1 ht;rw [<-e];exact hA.bt 2 rfl p hp),hA.bV 4 rfl,hA.bV 6 rfl⟩)
 have s36:=(Sat.order [1,0,2] (by decide) s35.tail).aI.pk [0,1,2]
 refine .region<| .a 3 rfl (.Lc (o:=2) gP rfl s36 (i:=0) rfl rfl rfl)<| .cp 0 s36 (EU (d:=(Co.mk av1 tv1 tv2 tv3 nv1 hv1 lv1 as9_1 (S9_1.map λ p=>(⟨p.1,p.2⟩:Tk)) xs1 xs2 (eI (ec (dJ s9_1 0).2.1 0).2.1).1 ((fK (eI (ec (dJ s9_1 0).2.1 0).2.1).2).1.map Prod.fst) ((fK (eI (ec (dJ s9_1 0).2.1 0).2.1).2).1.map Prod.snd))) (s36.bV 1 rfl) ho hn hcv) rfl λ _ s37=> .Z rfl<| .seq ?_
 have s38:=(s3.az s37).nn
 refine .dk [1,2,3,4,5] s38 rfl (pl [0,1,2,3,4,5,6,7,8,9,10,11,12,13,14,1015,16,17] .fin) λ s39 S1=> .z 3 S1 rfl<| .e rfl (λ _ s=> .Lc (o:=2) gP rfl s (i:=2) rfl rfl rfl) S1<| .ld 3 S1 2 rfl<| .a 5 S1 rfl (λ _ s=> .eF rfl rfl)<| .z 1 S1 rfl<| .f rfl (.cz (vs:=[av1,tv1,tv2,tv3,nv1,hv1,lv1]) gP s39 (i:=0) rfl rfl rfl rfl (λ v h=>by simp only [PR,PU,Q9] at h;rcases h with rfl|rfl|rfl|rfl|rfl|rfl|rfl;exact oc2;exact oc3;exact oc4;exact oc5;exact oc6;exact oc7;exact oc8) λ _ s40 _=> ?_)
 have S2:=s40.pk [1,2,3,4,5]
 refine ⟨S2,?_⟩
 refine .Z S2 rfl<| .ret ?_
 show aL _ _ _ _ _ _
 refine jW (vs:=[av1,tv1,tv2,tv3,nv1,hv1,lv1]) rfl rfl rfl rfl gP (λ j u hu=>s40.cell (i:=0) rfl hu) ?_
 obtain ⟨sv1,hsv1,hsv1n⟩:=(s40.ah 5 rfl).sv
 subst hsv1
 exact ⟨(Co.mk av1 tv1 tv2 tv3 nv1 hv1 lv1 as9_1 (S9_1.map λ p=>(⟨p.1,p.2⟩:Tk)) xs1 xs2 (eI (ec (dJ s9_1 0).2.1 0).2.1).1 ((fK (eI (ec (dJ s9_1 0).2.1 0).2.1).2).1.map Prod.fst) ((fK (eI (ec (dJ s9_1 0).2.1 0).2.1).2).1.map Prod.snd)),sv1,decide (strOf (aM (iR lexB bW c.v))=x),hF1,rfl,λ h=>⟨hcv,Qw h⟩,λ h=>PM (by rw [<-(Prod.mk.inj (hA0.2 h)).2,<-hx,gy]),s40.pk [4]⟩
def Pv (X:Bool) (x:ByteArray) (c:Co):Prop:=∀ w,CallsV prog 41 [.string x] w λ r w'=>∃ (d:Co) (iv:SV) (okb:Bool) (F:List Nat),r= .tuple #[d.val,iv.val,.bool okb]/\(okb=true->c.v=d.v/\strOf (aM (iR lexB bW c.v))=x)/\(X=true->okb=true)/\Sat w [jH F (λ w1=>RdC w1 d)] w'
theorem xx (X:Bool) (x:ByteArray) (c:Co) (w:World) (hR:Pv X x c):
  CallsV prog 14 [(.string x)] w λ r w'=>∃ (d:Co) (okb:Bool) (F:List Nat),r= .tuple #[d.val,.int .i64 ((if okb then 0 else 9:Nat):Int)]/\(okb=true->c.v=d.v/\strOf (aM (iR lexB bW c.v))=x)/\(X=true->okb=true)/\Sat w [jH F (λ w1=>RdC w1 d)] w':=by
 refine cg func14 rfl λ hs0=> .h<| .al 0 hs0 rfl λ b1 _ s1 _ _=> .Z rfl<| .h<| .c 1 (hR _) rfl λ r1 _ h1=> ?_
 obtain ⟨rd1,riv1,okb1,rF1,rfl,hokb11,hokb12,p1⟩:=h1
 have s2:=s1.az p1
 refine .al 4 s2 rfl λ b2 _ s3 _ _=> ?_
 have s3:=s3.nn
 refine .sa 0 s3 2 (vs:=[rd1.va,rd1.vt,rd1.vx,rd1.vr,rd1.vn,rd1.vh,rd1.vl]) rfl (λ v h=>by simp only [PR,PU,Q9] at h;rcases h with rfl|rfl|rfl|rfl|rfl|rfl|rfl;exact (s3.bV 1 rfl).a.ab;exact (s3.bV 1 rfl).t.ab;exact (s3.bV 1 rfl).x.ab;exact (s3.bV 1 rfl).r.ab;exact (s3.bV 1 rfl).n.ab;exact (s3.bV 1 rfl).h.ab;exact (s3.bV 1 rfl).l.ab) λ _ s4 _=> .Z rfl<| .seq<| .h<| .a 1 rfl (.cO rfl)<| .nil<| .cond rfl (λ c1=> ?_) (λ c1=> ?_)
 ·refine .h<| .e rfl (.build DV rfl trivial rfl)<| .sa 0 s4 0 (vs:=[(.slice none 0 0),(.slice none 0 0),(.slice none 0 0),(.slice none 0 0),(.slice none 0 0),(.slice none 0 0),(.slice none 0 0)]) rfl (λ v h=>by simp only [PR,PU,Q9] at h;rcases h with rfl|rfl|rfl|rfl|rfl|rfl|rfl;exact rfl;exact rfl;exact rfl;exact rfl;exact rfl;exact rfl;exact rfl) λ _ s5 _=> .Z rfl<| .ret ?_
  show aL _ _ _ _ _ _
  refine vj (vs:=[(.slice none 0 0),(.slice none 0 0),(.slice none 0 0),(.slice none 0 0),(.slice none 0 0),(.slice none 0 0),(.slice none 0 0)]) rfl rfl rfl gP (λ j u hu=>s5.cell (i:=0) rfl hu) ?_
  have s7:=(s5.pk []).sF (Q:=λ w1=>RdC w1 sr) (λ w1=>wy w1)
  exact ⟨sr,false,_,rfl,(λ h=>by cases h),(λ h=>by have h9:=hokb12 h;rw [h9] at c1;cases c1),s7.pk [0]⟩
 refine .skip<| .h<| .lo 0 s4 2 rfl<| .sa 0 s4 0 (vs:=[rd1.va,rd1.vt,rd1.vx,rd1.vr,rd1.vn,rd1.vh,rd1.vl]) rfl (λ v h=>by simp only [PR,PU,Q9] at h;rcases h with rfl|rfl|rfl|rfl|rfl|rfl|rfl;exact (s4.bV 1 rfl).a.ab;exact (s4.bV 1 rfl).t.ab;exact (s4.bV 1 rfl).x.ab;exact (s4.bV 1 rfl).r.ab;exact (s4.bV 1 rfl).n.ab;exact (s4.bV 1 rfl).h.ab;exact (s4.bV 1 rfl).l.ab) λ _ s9 _=> .Z rfl<| .ret ?_
 show aL _ _ _ _ _ _
 refine vj (vs:=[rd1.va,rd1.vt,rd1.vx,rd1.vr,rd1.vn,rd1.vh,rd1.vl]) rfl rfl rfl gP (λ j u hu=>s9.cell (i:=0) rfl hu) ?_
 exact ⟨rd1,true,rF1,rfl,(λ _=>hokb11 (by simpa using c1)),(λ _=>rfl),s9.pk [1]⟩
theorem IG {c:Co} {n:Nat} (ho:OkC n c) (hn:n<=3):(iR lexB bW c.v).length<=50000000:=by
 have h1:=ho.ntx;have h2:=ho.nrg;have h3:=BE ho hn;have h4:=ho.at_.2
 have h5:=aD c.at_.length;have h6:=aD c.tx.length;have h7:=aD c.rg.length
 have hc:(eM lexB bW c.v.at_ c.v.tk c.at_.length).length<=5000000*c.at_.length:=by
  have:=rz (f:=λ i=>jJ lexB bW (c.v.at_.getD i (ByteArray.empty,false)) (c.v.tk.map λ t=>t.getD i ByteArray.empty)) (B:=5000000) (List.range c.at_.length) λ i hi=>by
   have hi':=SD.1 hi
   obtain ⟨a,ha⟩:∃ a,c.at_[i]? =some a:=⟨_,py hi'⟩
   have h9:=vg ho hn ha
   rw [An,KW,show c.v.at_=c.at_ from rfl,ha,Rb]
   exact h9
  rw [SZ] at this
  exact this
 have ht:=rz (f:=λ x:Iv=>gS x.v) (B:=2000) c.tx λ x hx=>by
  have q:=ho.tx.nm x hx
  exact vH (x:=x.v) (bk q.1) q.2.1
 have hr:∀ (l:List Iv) (z:Int),(∀ x∈l,x∈c.rg)->(fw z (l.map Iv.v)).length<=2000*l.length:=by
  intro l
  induction l with
  |nil=>intro z _;exact KB _
  |cons x l ih=>
   intro z hm
   have q:=ho.rg.el x (hm x (by simp))
   have h8:=vG (bf:=z) (x:=x.v) (bk q.1) q.2.2
   have h9:=ih x.v.2.1 λ y hy=>hm y (by simp [hy])
   rw [Qm,fw,sp,KP]
   omega
 have hr2:=hr c.rg 0 λ x hx=>hx
 rw [ny]
 simp only [sp,KP,KY]
 omega
theorem D6 {c:Co} {n:Nat} (ho:OkC n c) (hn:n<=3) (h0:K0 c):Pv true (strOf (aM (iR lexB bW c.v))) c:=λ w=>by
 have h1:=IG ho hn
 have h2:=Ap pU pV c.v
 exact IF true _ (iR lexB bW c.v) c n w ho hn h0 (gE (nw h2)) h2 (by omega) ⟨λ _=>⟨h2,Agr.refl _⟩,λ _=>rfl⟩ (by rw [bX,bL];omega)
theorem xy {c:Co} {n:Nat} {w:World} (ho:OkC n c) (hn:n<=3) (h0:K0 c):CallsV prog 14 [.string (strOf (aM (iR lexB bW c.v)))] w λ r w'=>∃ (d:Co) (F:List Nat),r= .tuple #[d.val,.int .i64 ((0:Nat):Int)]/\c.v=d.v/\Sat w [jH F (λ w1=>RdC w1 d)] w':=
 (xx true _ c w (D6 ho hn h0)).mono λ r w' hq=>by
  obtain ⟨d,okb,F,rfl,h3,h4,h5⟩:=hq
  have h6:=h4 rfl
  subst h6
  exact ⟨d,F,rfl,(h3 rfl).1,h5⟩
theorem ia {α:Type} {a x:α} {i:Nat} (h:[a][i]? =some x):i=0/\x=a:=by
 cases i with
 |zero=>cases h;exact ⟨rfl,rfl⟩
 |succ i=>simp at h
theorem EV {va vt vx vr vn vh vl:Value} {sv:SV}:OkC 1 (Co.mk va vt vx vr vn vh vl [(⟨#[97]⟩,false)] [⟨sv,[⟨#[120]⟩]⟩] [⟨⟨#[116]⟩,0,1,⟨none,0,0⟩,[]⟩] [] [] [] []) where
 at_:=⟨λ i x hx=>by
  obtain ⟨rfl,rfl⟩:=ia hx
  exact ⟨by decide,rfl⟩,KB 1,show (1:Nat)<=8 by decide⟩
 tk t ht:=by
  rw [Q0.1 ht]
  refine ⟨rfl,λ i v a hv ha=> ?_⟩
  obtain ⟨_,rfl⟩:=ia hv
  obtain ⟨_,rfl⟩:=ia ha
  exact ⟨λ _=>kg (by decide) (by decide),λ h=>by cases h⟩
 voc t ht i v hv:=by
  rw [Q0.1 ht] at hv
  obtain ⟨rfl,rfl⟩:=ia hv
  exact QQ _ (Q0.2 rfl)
 tx:={
  nm:=λ x hx=>by rw [Q0.1 hx];exact ⟨by decide,rI,Tn 0,show (0:Int)<1 by decide,Tn 1⟩
  nd:=λ i j x y hx hy h=>by have:=(ia hx).1;omega
  first:=λ x hx=>by rw [(ia hx).2]
  next:=λ i x y hx hy=>by have:=(ia hy).1;omega
  last:=λ i x hx h=>by rw [(ia hx).2]<;>rfl
  none_:=⟨λ h=>(by cases h),λ h=>by have h9:(1:Int)=0:=h;omega⟩}
 rg:=⟨λ x hx=>(by cases hx),λ i x y hx=>(by simp at hx),λ x hx=>(by cases hx)⟩
 nd:=⟨λ x hx=>(by cases hx),λ i x hx=>(by simp at hx),λ s i x y hx=>(by simp at hx)⟩
 hd:= .inl ⟨rfl,rfl⟩
 ntk:=show (1:Nat)<=12 by decide
 ntx:=KB 1
 nrg:=KD _
 nnd:=KD _
theorem vi {X:List ByteArray->List Nat} {T:List Nat->List Nat} (c:Co):(strOf (aM (iR X T c.v))).extract 0 3=⟨#[67,83,49]⟩/\3<(strOf (aM (iR X T c.v))).size:=by
 rw [ny]
 refine ⟨?_,?_⟩
 ·unfold aM
  rw [LW]
  apply yb
  unfold bF
  rw [Ec]
  rfl
 rw [bX,bL]
 simp only [sp,KP,KY]
 omega
theorem Ng {va vt vx vr vn vh vl:Value} {sv:SV}:K0 (Co.mk va vt vx vr vn vh vl [(⟨#[97]⟩,false)] [⟨sv,[⟨#[120]⟩]⟩] [⟨⟨#[116]⟩,0,1,⟨none,0,0⟩,[]⟩] [] [] [] []):=λ k=>by
 cases k with
 |zero=>exact (by decide:br (ek [(⟨#[120]⟩:ByteArray)])=0)
 |succ k=>exact (by decide:br (ek [ByteArray.empty])=0)
theorem zQ (w:World):
  CallsV prog 13 [] w λ r w'=>r= .bool true/\Sat w [] w':=by
 have hs0:=Sat.start w
 refine ai func13 rfl rfl ?_
 refine .Z rfl<| .h<| .e rfl (.build Hb rfl ⟨rfl,trivial⟩ rfl)<| .f rfl (.cn (cE) ((⟨#[97]⟩:ByteArray),false) DU (by decide) (by decide) hs0 rfl λ v1 _ s1 _=> ?_)
 refine .f rfl (.bU (ax) (ByteArray.mk #[120]) bu rfl s1 rfl λ v2 _ s2 _=> ?_)
 obtain ⟨sv1,hsv1,hsv1n⟩:=(s2.ah 1 rfl).sv
 subst hsv1
 refine .f rfl (.bU (iS) (⟨sv1,[⟨#[120]⟩]⟩:Tk) AJ rfl s2 rfl λ v3 _ s3 _=> ?_)
 have s3:=s3.nn
 refine .e rfl (.build JQ rfl ⟨rfl,rfl,trivial⟩ rfl)<| .f rfl (.cn (aG) (⟨⟨#[116]⟩,0,1,⟨none,0,0⟩,[]⟩:Iv) tf (by decide) (by decide) s3 rfl λ v_4 _ s4 _=> ?_)
 refine .e rfl (.build DV rfl ⟨(s4.ah 0 rfl).ab,(s4.ah 2 rfl).ab,(s4.ah 3 rfl).ab,trivial⟩ rfl)<| .al 0 s4 rfl λ b1 _ s5 _ _=> .sa 0 s5 4 (vs:=[v1,v3,v_4,(.slice none 0 0),(.slice none 0 0),(.slice none 0 0),(.slice none 0 0)]) rfl (λ v h=>by simp only [PR,PU,Q9] at h;rcases h with rfl|rfl|rfl|rfl|rfl|rfl|rfl;exact (s5.ah 0 rfl).ab;exact (s5.ah 2 rfl).ab;exact (s5.ah 3 rfl).ab;exact rfl;exact rfl;exact rfl;exact rfl) λ _ s6 _=> ?_
 have s6:=s6.nn
 refine .nil<| .seq ?_
 have oc0:=(s6.ah (E:=cE) 0 rfl).ab
 have oc1:=(s6.ah (E:=iS) 2 rfl).ab
 have oc2:=(s6.ah (E:=aG) 3 rfl).ab
 have s7:=(Sat.order [0,2,3,1,4] (by decide) s6.tail).aI.pk [0,1,2,3,4]
 obtain ⟨hF1,s8⟩:=s7.za 4 (Q:=λ w1=>RdC w1 (Co.mk v1 v3 v_4 (Value.slice none 0 0) (Value.slice none 0 0) (Value.slice none 0 0) (Value.slice none 0 0) [(⟨#[97]⟩,false)] [⟨sv1,[⟨#[120]⟩]⟩] [(⟨⟨#[116]⟩,0,1,⟨none,0,0⟩,[]⟩:Iv)] [] [] [] [])) (λ w1 hA=>⟨hA.ah 0 rfl,hA.ah 1 rfl,hA.ah 2 rfl,RdL.nil _ _,RdL.nil _ _,RdL.nil _ _,RdL.nil _ _,(λ t ht=>by rw [Q0.1 ht];exact hA.ah 3 rfl),(λ t ht=>by rw [Q0.1 ht];exact RdL.nil _ _),λ t ht=>by cases ht⟩)
 refine .region<| .lo 0 s8 1 rfl<| .cp 0 s8 (oe (Co.mk v1 v3 v_4 (Value.slice none 0 0) (Value.slice none 0 0) (Value.slice none 0 0) (Value.slice none 0 0) [(⟨#[97]⟩,false)] [⟨sv1,[⟨#[120]⟩]⟩] [(⟨⟨#[116]⟩,0,1,⟨none,0,0⟩,[]⟩:Iv)] [] [] [] []) 1 _ (s8.bV 0 rfl) EV (by decide)) rfl λ _ s9=> .Z rfl<| .h<| .c 1 (xy (c:=(Co.mk v1 v3 v_4 (Value.slice none 0 0) (Value.slice none 0 0) (Value.slice none 0 0) (Value.slice none 0 0) [(⟨#[97]⟩,false)] [⟨sv1,[⟨#[120]⟩]⟩] [(⟨⟨#[116]⟩,0,1,⟨none,0,0⟩,[]⟩:Iv)] [] [] [] [])) (n:=1) EV (by decide) Ng) rfl λ r2 _ h2=> ?_
 obtain ⟨ed1,eF1,rfl,hed1v,p2⟩:=h2
 have s10:=s9.az p2
 refine .al 3 s10 rfl λ b2 _ s11 _ _=> ?_
 have s11:=s11.nn
 refine .sa 0 s11 3 (vs:=[ed1.va,ed1.vt,ed1.vx,ed1.vr,ed1.vn,ed1.vh,ed1.vl]) rfl (λ v h=>by simp only [PR,PU,Q9] at h;rcases h with rfl|rfl|rfl|rfl|rfl|rfl|rfl;exact (s11.bV 2 rfl).a.ab;exact (s11.bV 2 rfl).t.ab;exact (s11.bV 2 rfl).x.ab;exact (s11.bV 2 rfl).r.ab;exact (s11.bV 2 rfl).n.ab;exact (s11.bV 2 rfl).h.ab;exact (s11.bV 2 rfl).l.ab) λ _ s12 _=> .Z rfl<| .h<| .lo 7 s12 1 rfl<| .lo 0 s12 3 rfl<| .c 0 (Cq (Co.mk v1 v3 v_4 (Value.slice none 0 0) (Value.slice none 0 0) (Value.slice none 0 0) (Value.slice none 0 0) [(⟨#[97]⟩,false)] [⟨sv1,[⟨#[120]⟩]⟩] [(⟨⟨#[116]⟩,0,1,⟨none,0,0⟩,[]⟩:Iv)] [] [] [] []) ed1 _ (s12.bV 0 rfl) (s12.bV 2 rfl) (EV.sm (by decide))) rfl λ r3 _ h3=> ?_
 obtain ⟨eq1,rfl,heq1,p3⟩:=h3
 have s13:=s12.az p3
 refine .z 2 rfl<| .Gt 34 rfl (heq1.2 hed1v)<| .a 1 rfl (.bo underlying9 rfl)<| .z 3 rfl<| .Gt 39 rfl (PM ((vi (X:=lexB) (T:=bW) (Co.mk v1 v3 v_4 (Value.slice none 0 0) (Value.slice none 0 0) (Value.slice none 0 0) (Value.slice none 0 0) [(⟨#[97]⟩,false)] [⟨sv1,[⟨#[120]⟩]⟩] [(⟨⟨#[116]⟩,0,1,⟨none,0,0⟩,[]⟩:Iv)] [] [] [] [])).2))<| .a 1 rfl (.fI (l:=0) (h:=3) underlying9 rfl rfl ⟨_,rfl⟩ (KD _) (by have:=(vi (X:=lexB) (T:=bW) (Co.mk v1 v3 v_4 (Value.slice none 0 0) (Value.slice none 0 0) (Value.slice none 0 0) (Value.slice none 0 0) [(⟨#[97]⟩,false)] [⟨sv1,[⟨#[120]⟩]⟩] [(⟨⟨#[116]⟩,0,1,⟨none,0,0⟩,[]⟩:Iv)] [] [] [] [])).2;omega))<| .a 0 rfl (.eF rfl rfl)<| .Z rfl<| .aC rfl rfl ?_
 exact ⟨If Value.bool (PM ((vi (X:=lexB) (T:=bW) (Co.mk v1 v3 v_4 (Value.slice none 0 0) (Value.slice none 0 0) (Value.slice none 0 0) (Value.slice none 0 0) [(⟨#[97]⟩,false)] [⟨sv1,[⟨#[120]⟩]⟩] [(⟨⟨#[116]⟩,0,1,⟨none,0,0⟩,[]⟩:Iv)] [] [] [] [])).1)),s13.pk []⟩
theorem zR (v:Value) (zs:List Int) (w:World) (hv:RdL w v (Kw.encI .i64) zs):
  CallsV prog 3 [v] w λ r w'=>r= .bool true/\Sat w [] w':=by
 have hs0:=Sat.start w
 refine ai func3 rfl rfl ?_
 refine .Z rfl<| .h<| .z 1 rfl ?_
 have A1:=hs0.tail.oc [] 0
 refine .c 0 (HY _ _ _ _ (zs) A1 hv) rfl λ r1 _ h1=> ?_
 obtain ⟨tg1,rfl,p1⟩:=h1
 have s1:=(Sat.order [0] (by decide) p1.join).aI.nn
 have A2:=s1.tail.oc [0] 1
 refine .c 0 (zk _ _ _ _ (6) A2 (by decide) (by decide)) rfl λ r2 _ h2=> ?_
 obtain ⟨mc1,mF1,mn1,rfl,hmc13,hmc1o,p2⟩:=h2
 have s2:=(Sat.order [0] (by decide) p2.join).aI.nn
 refine .al 0 s2 rfl λ b1 _ s3 _ _=> .sa 0 s3 1 (vs:=[mc1.va,mc1.vt,mc1.vx,mc1.vr,mc1.vn,mc1.vh,mc1.vl]) rfl (λ v h=>by simp only [PR,PU,Q9] at h;rcases h with rfl|rfl|rfl|rfl|rfl|rfl|rfl;exact (s3.bV 0 rfl).a.ab;exact (s3.bV 0 rfl).t.ab;exact (s3.bV 0 rfl).x.ab;exact (s3.bV 0 rfl).r.ab;exact (s3.bV 0 rfl).n.ab;exact (s3.bV 0 rfl).h.ab;exact (s3.bV 0 rfl).l.ab) λ _ s4 _=> .nil<| .h<| .lo 0 s4 1 rfl<| .cq 0 s4 (oe mc1 mn1 _ (s4.bV 0 rfl) hmc1o hmc13) rfl λ _ s5=> .Z rfl<| .h<| .lo 0 s5 1 rfl<| .cp 0 s5 (D3 mc1 mn1 _ (s5.bV 0 rfl) hmc1o hmc13) rfl λ _ s6=> .Z rfl<| .h<| .a 2 rfl (.eF rfl rfl)<| .z 1 rfl<| .Gt 24 rfl (PM (rfl))<| .cp 9 s6 (zQ _) rfl λ _ s7=> .Z rfl<| .aC rfl rfl ?_
 exact ⟨rfl,s7.pk []⟩
end Go.Proofs.YthffkcnbdehceaaGreat
