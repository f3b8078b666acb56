/-The walks of the functions of F41v,printed by our own program (kwgen.py) out of our descriptions (base.py). -/
import Derived.Test.YthffkcnbdehceaaGreatF41c
import Derived.Test.YthffkcnbdehceaaGreatM41t
set_option linter.all false
set_option maxHeartbeats 2000000
set_option maxRecDepth 100000
open Go.Proofs.YthffkcnbdehceaaGreat
open List
open Go.Proofs.Tryz
namespace Go.Proofs.YthffkcnbdehceaaGreat
open Go.RowKit Go.Kw
def Fw(w:World)(v:Value)(c:Co):Prop:=∃ ixs:List VV,RdL w v gl ixs/\ixs.length=c.at_.length/\IxsAt w ixs c
def Gx(v:Value)(b p:List Nat)(w:World)(hv:RdL w v (a8 .u8) b)(he:b=aN p)(hb:∀ x∈p,x<256)(hn:p.length<=100000000):
  CallsV prog 96 [v] w λ r w'=>∃ v',r= .tuple #[v',.int .i64 ((0:Nat):Int)]/\Sat w [cL v' 5 (a8 .u8) p] w':=by
 subst he;have hl:=bQ p;have ht:(aN p).take ((aN p).length-4)=p:=by rw[hl,Sx,aN,take_left']<;>rfl
 have hd:(aN p).drop ((aN p).length-4)=o5 (j0 p):=by rw[hl,Sx,aN,drop_left']<;>rfl
 have h:=uB v (aN p) w hv (λ x hx=>by
  rcases RE.1 hx with hx|hx
  ·exact hb x hx
  ·exact o6 _ x hx) (by omega) (by omega) (by rw[ht,hd])
 rw[ht]at h;exact h
def Gy{c d:Co}{n:Nat}{w:World}(hr:RdC w d)(ho:OkC n c)(hn:n<=3)(e:c.v=d.v):CallsV prog 11 [d.val] w λ r w'=>r= .tuple #[.string (strOf (aN (kc lexB cj c.v))),.int .i64 ((0:Nat):Int)]/\Sat w [] w':=by rw[e];exact uK d n w hr (ho.Rb e) hn
def Kg(X:Bool)(x:ByteArray)(p:List Nat)(c:Co)(n:Nat)(w:World)(ho:OkC n c)(hn:n<=3)(hX:X=true)(hx:cr x=aN p)(hpb:∀ y∈p,y<256)(hpl:p.length<=100000000)(hA:At X (true,p) (kc lexB cj c.v))(hxz:x.size<=4611686018427387904):
  CallsV prog 41 [(.string x)] w λ r w'=>∃ (d:Co) (iv:SV) (F F2:List Nat),r= .tuple #[d.val,iv.val,.bool true]/\c.v=d.v/\Sat w [fo F (λ w1=>RdC w1 d),fo F2 (λ w1=>Fw w1 iv.val c)] w':=by
 have hA0:=hA;rw[NZ]at hA;have hs0:=Sat.start w;refine ai func41 Y Y ?_;refine .h<|.al 0 hs0 Y λ b1 _ s1 _ _=>.Z Y<|.h<|.b 1 Y (.ox underlying9 underlying45 underlying5 s1 Y (hxz) λ v1 _ s2=>?_);refine .c 0 (Gx _ (cr x) p _ (s2.ud 1 Y) hx hpb hpl) Y λ r1 w3 h1=>?_;obtain⟨uv1,rfl,p1⟩:=h1;have s3:=(s2.ax p1).nn;refine .Z Y<|.seq<|.seq ?_;obtain⟨q,hq⟩:∃ q,p=[67,83,49]++q:=⟨_,(Prod.mk.inj (hA.2 hX)).2⟩;have hqR:=append_cancel_left (hq.symm.trans (Prod.mk.inj (hA.2 hX)).2);have hq1:p.drop 3=q:=by rw[hq]<;>rfl
 have hq2:p.length=q.length+3:=by rw[hq,sp];simp only[LW,Rp];omega
 refine .region<|.ln 4 (s3.ah 2 Y) Y<|.z 3 Y<|.Gf 22 Y (AT (by omega))<|.a 1 Y (.b9 (E:=a8 .u8) (a:=0) (c:=3) ck Y (s3.ah 2 Y) Y ⟨_,Y⟩ (KB _) (by omega))<|.a 0 Y (.db underlying45 underlying9 underlying5 Y (((s3.ah 2 Y)).sub (a:=0) (b:=3) (KB _) (by omega)))<|.a 0 Y (.dG Y Y)<|.Z Y<|.ao Y (AT (λ h=>h (by rw[hq]<;>rfl)))<|.skip<|.seq ?_;have hpay:=s3.ah 2 Y;have hq0:=hpay.sub (a:=3) (b:=p.length) (by omega) (KD _);rw[RD,hq1]at hq0;have hsb:Sat w3 [] w3:=Sat.start _;have hB:RB (true,q):=⟨λ x hx=>hpb x (by rw[hq];exact Sn _ hx),by show q.length<=_;omega⟩;have hA1:At X (true,q) (uv c.at_.length++(Gq c 0++IF c)):=by rw[<-Gs,<-hqR];exact⟨λ _=>⟨λ x hx=>hpb x (by rw[hq];exact Sn _ hx),Agr.refl _⟩,λ _=>Y⟩
 refine .region<|.a 1 Y (.b9 (E:=a8 .u8) (a:=3) (c:=(p).length) ck Y (hpay.ext hsb.ext) ⟨_,Y⟩ Y (by omega) (KD _))<|.e Y (.build PF Y ⟨(((hpay.ext hsb.ext)).sub (a:=3) (b:=(p).length) (by omega) (KD _)).ab,trivial⟩ Y)<|.e Y (.BX PG Y Y)<|.bx 0 hsb Y λ b2 _ s4 _ _=>.Z Y<|.seq ?_;have s5:=s4.az 86 (cP);have s6:=s5.az 28 (bu ByteArray);have s7:=s6.qT 9 au;have s8:=s7.az 111 (gl);have s9:=s8.az 71 (aI);have s10:=s9.az 75 (aI);have s11:=s10.az 84 (bI);have s12:=s11.az 3 (Kw.encI .i64);have s13:=s12.az 9 (au);have s14:=s13.Aj (Q:=λ w1=>∀ t∈([]:List Iv),RdL w1 t.sv.val aU t.ps) (λ w1=>λ t ht=>by cases ht);have s15:=(Sat.order [1,2,3,4,5,6,7,8,9,10,0] (by decide) s14.tail).aF.pk [0,1,2,3,4,5,6,7,8,9,10];have s16:=s15.Aj (Q:=λ w1=>∀ t∈([]:List Iv),RdL w1 t.sv.val aU t.ps) (λ w1=>λ t ht=>by cases ht);have s17:=(Sat.order [1,2,3,4,5,6,7,8,9,10,11,0] (by decide) s16.tail).aF.pk [0,1,2,3,4,5,6,7,8,9,10,11];have s18:=s17.nn;have s19:=s18.Aj (Q:=λ w1=>IxsAt w1 ([]) c) (λ w1=>IxsAt.nil);have s20:=(Sat.order [1,2,3,4,5,6,7,8,9,10,11,12,0] (by decide) s19.tail).aF.pk [0,1,2,3,4,5,6,7,8,9,10,11,12];have s21:=s20.nn;refine .region<|.a 4 Y (.gP Y) ?_;have A1:=s21.tail.oc [0,1,2,3,4,12,5,6,7,8,9,10,11] 6;refine .c 0 (AZ _ _ _ _ _ (true,q) _ _ _ _ _ _ _ _ _ X c n (IF c) [] A1 hq0 hB ho hn hX hA1) Y λ r2 _ h2=>?_;obtain⟨rfl,s9_1,bv1,av1,as9_1,tv1,S9_1,iv1,ix9_1,F9_1,hbv1,hB9_1,hA9_1,hix9_1,hI9_1,p2⟩:=h2;have s22:=(Sat.order [0,1,2,3,4,6,7,8,9,10,11,12,5] (by decide) p2.join).aF.nn;refine .nil<|.h<|.a 4 Y (.gP Y) ?_;have A_2:=s22.tail.oc [0,5,10,1,2,3,4,6,7,8,9,11,12] 3;refine .c 0 (Au _ _ _ _ _ s9_1 _ _ _ _ _ _ _ _ 0 _ A_2 hbv1 hB9_1 Y) Y λ r3 _ h3=>?_;obtain⟨rfl,bv2,tv2,xs1,F1,hbv2,hxs1,p3⟩:=h3;have s23:=(Sat.order [0,3,4,5,6,1,7,8,9,10,2,11,12] (by decide) p3.join).aF.nn;refine .nil<|.h<|.st 3 s23 0 Y λ _ s24 _=>.nil<|.h<|.a 4 Y (.gP Y) ?_;have A3:=s24.tail.oc [0,6,11,1,2,3,4,5,7,8,9,10,12] 3;refine .c 0 (Av _ _ _ _ _ (eD s9_1 0).2.1 _ _ _ _ _ _ _ _ 0 _ A3 hbv2 (RB.QQ hB9_1 0) Y) Y λ r4 _ h4=>?_;obtain⟨rfl,bv3,tv3,xs2,F_2,hbv3,hxs2,p4⟩:=h4;have s25:=(Sat.order [0,3,4,5,6,7,1,8,9,10,11,2,12] (by decide) p4.join).aF.nn;refine .nil<|.h<|.a 4 Y (.gP Y) ?_;have A4:=s25.tail.oc [0,7,1,2,3,4,5,6,8,9,10,11,12] 2;refine .c 0 (Aw _ _ _ _ _ (eS (eD s9_1 0).2.1 0).2.1 _ _ _ _ _ _ _ _ _ A4 hbv3 (RB.Rh (RB.QQ hB9_1 0) 0)) Y λ r5 _ h5=>?_;obtain⟨rfl,bv4,nv1,hbv4,p5⟩:=h5;have s26:=(Sat.order [0,2,3,4,5,6,7,1,8,9,10,11,12] (by decide) p5.join).aF.nn;refine .nil<|.h<|.a 4 Y (.gP Y) ?_;have A5:=s26.tail.oc [0,8,9,1,2,3,4,5,6,7,10,11,12] 3;refine .c 0 (Ax _ _ _ _ _ (fC (eS (eD s9_1 0).2.1 0).2.1).2 _ _ _ _ _ _ _ _ _ A5 hbv4 (RB.Rn (RB.Rh (RB.QQ hB9_1 0) 0))) Y λ r6 _ h6=>?_;obtain⟨rfl,bv5,hv1,lv1,hbv5,p6⟩:=h6;have s27:=(Sat.order [0,3,4,5,6,7,8,9,1,2,10,11,12] (by decide) p6.join).aF.nn;refine .nil<|.seq<|.seq<|.trim [0,2,5,7] Y ?_;obtain⟨A2,B2⟩:=tail_at ho hn hA9_1;have hSF:=A2.2 hX;have hok9:(iy (fC (eS (eD s9_1 0).2.1 0).2.1).2).2.1=true:=If Prod.fst hSF;refine .region<|.ld 4 s27 0 Y<|.z 1 Y<|.Gf 72 Y (by rw[hSF]<;>rfl)<|.ld 4 s27 0 Y<|.ln 0 (hbv5.ext s27.ext) Y<|.Z Y<|.ao Y (AT (by rw[hSF];exact Vj 0))<|.skip<|.seq ?_;obtain⟨k1,k2,k3,k4,k5⟩:=B2 hok9;have hcv:c.v=(Co.mk av1 tv1 tv2 tv3 nv1 hv1 lv1 as9_1 (S9_1.map λ p=>(⟨p.1,p.2⟩:Tk)) xs1 xs2 (fC (eS (eD s9_1 0).2.1 0).2.1).1 ((iy (fC (eS (eD s9_1 0).2.1 0).2.1).2).1.map Prod.fst) ((iy (fC (eS (eD s9_1 0).2.1 0).2.1).2).1.map Prod.snd)).v:=QN (hI9_1 k1).1 (hI9_1 k1).2 (hxs1.trans k2) (hxs2.trans k3) k4 k5 (ho.Jd hn).1;have oc2:=(s27.ah (E:=cP) 1 Y).ab;have oc3:=(s27.ah (E:=bu ByteArray) 2 Y).ab;have oc4:=(s27.ah (E:=aI) 5 Y).ab;have oc5:=(s27.ah (E:=aI) 6 Y).ab;have oc6:=(s27.ah (E:=bI) 7 Y).ab;have oc7:=(s27.ah (E:=Kw.encI .i64) 8 Y).ab;have oc8:=(s27.ah (E:=au) 9 Y).ab;have s28:=(Sat.order [1,2,3,5,10,6,11,7,8,9,0,4,12] (by decide) s27.tail).aF.pk [0,1,2,3,4,5,6,7,8,9,10,11,12];obtain⟨hF1,s29⟩:=s28.wc 10 (Q:=λ w1=>RdC w1 (Co.mk av1 tv1 tv2 tv3 nv1 hv1 lv1 as9_1 (S9_1.map λ p=>(⟨p.1,p.2⟩:Tk)) xs1 xs2 (fC (eS (eD s9_1 0).2.1 0).2.1).1 ((iy (fC (eS (eD s9_1 0).2.1 0).2.1).2).1.map Prod.fst) ((iy (fC (eS (eD s9_1 0).2.1 0).2.1).2).1.map Prod.snd))) (λ w1 hA=>⟨hA.ah 0 Y,Pw (hA.ah 1 Y),hA.ah 3 Y,hA.ah 5 Y,hA.ah 7 Y,hA.ah 8 Y,hA.ah 9 Y,(λ t ht=>by obtain⟨p,hp,e⟩:=Sk.1 ht;rw[<-e];exact hA.bj 2 Y p hp),hA.bo 4 Y,hA.bo 6 Y⟩);have s30:=(Sat.order [1,0,2,3] (by decide) s29.tail).aF.pk [0,1,2,3];obtain⟨sv1,hsv1,hsv1n⟩:=(s30.ah 2 Y).sv;subst hsv1;have s31:=(Sat.order [2,3,0,1] (by decide) s30.tail).aF.pk [0,1,2,3];obtain⟨hF2,s32⟩:=s31.wc 2 (Q:=λ w1=>Fw w1 sv1.val c) (λ w1 hA=>⟨_,hA.ah 0 Y,hix9_1,hA.bo 1 Y⟩);have s33:=(Sat.order [1,0,2] (by decide) s32.tail).aF.pk [0,1,2];refine .region<|.a 3 Y (.MO (o:=2) kj Y s33 (i:=0) Y Y Y)<|.cp 0 s33 (Gy (d:=(Co.mk av1 tv1 tv2 tv3 nv1 hv1 lv1 as9_1 (S9_1.map λ p=>(⟨p.1,p.2⟩:Tk)) xs1 xs2 (fC (eS (eD s9_1 0).2.1 0).2.1).1 ((iy (fC (eS (eD s9_1 0).2.1 0).2.1).2).1.map Prod.fst) ((iy (fC (eS (eD s9_1 0).2.1 0).2.1).2).1.map Prod.snd))) (s33.bo 2 Y) ho hn hcv) Y λ _ s34=>.Z Y<|.seq ?_;have s35:=(s3.ax s34).nn;refine .dk [1,2,3,4,5] s35 Y (pl [0,1,2,3,4,5,6,7,8,9,10,11,12,13,14,1015,16,17] .fin) λ s36 S1=>.z 3 S1 Y<|.e Y (λ _ s=>.MO (o:=2) kj Y s (i:=2) Y Y Y) S1<|.ld 3 S1 2 Y<|.a 5 S1 Y (λ _ s=>.fh Y Y)<|.z 1 S1 Y<|.f Y (.cC (vs:=[av1,tv1,tv2,tv3,nv1,hv1,lv1]) kj s36 (i:=0) Y Y Y Y (λ v h=>by simp only[Rx,RF,Sa]at h;rcases h with rfl|rfl|rfl|rfl|rfl|rfl|rfl;exact oc2;exact oc3;exact oc4;exact oc5;exact oc6;exact oc7;exact oc8) λ _ s37 _=>?_);have S2:=s37.pk [1,2,3,4,5];refine⟨S2,?_⟩;refine .Z S2 Y<|.ret ?_;show aM _ _ _ _ _ _;refine oW (vs:=[av1,tv1,tv2,tv3,nv1,hv1,lv1]) Y Y Y Y kj (λ j u hu=>s37.cell (i:=0) Y hu) ?_;have s38:=(Sat.order [5,4,0,1,2,3] (by decide) s37.tail).aF.pk [0,1];have hfin:strOf (aN (kc lexB cj c.v))=x:=by rw[<-(Prod.mk.inj (hA0.2 hX)).2,<-hx,gS]
 have hs9:Sat w [fo hF1 (λ w1=>RdC w1 (Co.mk av1 tv1 tv2 tv3 nv1 hv1 lv1 as9_1 (S9_1.map λ p=>(⟨p.1,p.2⟩:Tk)) xs1 xs2 (fC (eS (eD s9_1 0).2.1 0).2.1).1 ((iy (fC (eS (eD s9_1 0).2.1 0).2.1).2).1.map Prod.fst) ((iy (fC (eS (eD s9_1 0).2.1 0).2.1).2).1.map Prod.snd))),fo hF2 (λ w1=>Fw w1 sv1.val c)] _:=s38;exact⟨_,sv1,hF1,hF2,by rw[Rr hfin]<;>rfl,hcv,hs9⟩
def Qy(x:ByteArray)(c:Co):Prop:=∀ w,CallsV prog 41 [.string x] w λ r w'=>∃ (d:Co) (iv:SV) (F F2:List Nat),r= .tuple #[d.val,iv.val,.bool true]/\c.v=d.v/\Sat w [fo F (λ w1=>RdC w1 d),fo F2 (λ w1=>Fw w1 iv.val c)] w'
def yo(x:ByteArray)(c:Co)(w:World)(hR:Qy x c):
  CallsV prog 14 [(.string x)] w λ r w'=>∃ (d:Co) (F:List Nat),r= .tuple #[d.val,.int .i64 ((0:Nat):Int)]/\c.v=d.v/\Sat w [fo F (λ w1=>RdC w1 d)] w':=by
 refine bY func14 Y λ hs0=>.h<|.al 0 hs0 Y λ b1 _ s1 _ _=>.Z Y<|.h<|.c 1 (hR _) Y λ r1 _ h1=>?_;obtain⟨rd1,riv1,rF1,rG1,rfl,hrd1v,p1⟩:=h1;have s2:=s1.ax p1;refine .al 4 s2 Y λ b2 _ s3 _ _=>?_;have s3:=s3.nn;refine .sa 0 s3 3 (vs:=[rd1.va,rd1.vt,rd1.vx,rd1.vr,rd1.vn,rd1.vh,rd1.vl]) Y (λ v h=>by simp only[Rx,RF,Sa]at h;rcases h with rfl|rfl|rfl|rfl|rfl|rfl|rfl;exact(s3.bo 1 Y).a.ab;exact(s3.bo 1 Y).t.ab;exact(s3.bo 1 Y).x.ab;exact(s3.bo 1 Y).r.ab;exact(s3.bo 1 Y).n.ab;exact(s3.bo 1 Y).h.ab;exact(s3.bo 1 Y).l.ab) λ _ s4 _=>.Z Y<|.seq<|.Z Y<|.ao Y (Y)<|.skip<|.h<|.lo 0 s4 3 Y<|.sa 0 s4 0 (vs:=[rd1.va,rd1.vt,rd1.vx,rd1.vr,rd1.vn,rd1.vh,rd1.vl]) Y (λ v h=>by simp only[Rx,RF,Sa]at h;rcases h with rfl|rfl|rfl|rfl|rfl|rfl|rfl;exact(s4.bo 1 Y).a.ab;exact(s4.bo 1 Y).t.ab;exact(s4.bo 1 Y).x.ab;exact(s4.bo 1 Y).r.ab;exact(s4.bo 1 Y).n.ab;exact(s4.bo 1 Y).h.ab;exact(s4.bo 1 Y).l.ab) λ _ s5 _=>.Z Y<|.ret ?_;show aM _ _ _ _ _ _;refine B5 (vs:=[rd1.va,rd1.vt,rd1.vx,rd1.vr,rd1.vn,rd1.vh,rd1.vl]) Y Y Y kj (λ j u hu=>s5.cell (i:=0) Y hu) ?_;exact⟨rd1,rF1,Y,hrd1v,s5.pk [1]⟩
def Kh{c:Co}{n:Nat}(ho:OkC n c)(hn:n<=3):(kc lexB cj c.v).length<=50000000:=by
 have h1:=ho.ntx;have h2:=ho.nrg;have h3:=Dd ho hn;have h4:=ho.at_.2;have h5:=aC c.at_.length;have h6:=aC c.tx.length;have h7:=aC c.rg.length;have hc:(fe lexB cj c.v.at_ c.v.tk c.at_.length).length<=5000000*c.at_.length:=by
  have:=tq (f:=λ i=>kz lexB cj (c.v.at_.getD i (ByteArray.empty,false)) (c.v.tk.map λ t=>t.getD i ByteArray.empty)) (B:=5000000) (List.range c.at_.length) λ i hi=>by
   have hi':=Ut.1 hi;obtain⟨a,ha⟩:∃ a,c.at_[i]? =some a:=⟨_,py hi'⟩;have h9:=wJ ho hn ha;rw[BM,KP,show c.v.at_=c.at_ from Y,ha,Ta];exact h9
  rw[Ux]at this;exact this
 have ht:=tq (f:=λ x:Iv=>im x.v) (B:=2000) c.tx λ x hx=>by
  have q:=ho.tx.nm x hx;exact xv (x:=x.v) (bt q.1) q.2.1
 have hr:∀ (l:List Iv) (z:Int),(∀ x∈l,x∈c.rg)->(fX z (l.map Iv.v)).length<=2000*l.length:=by
  intro l;induction l with
  |nil=>intro z _;exact KD _
  |cons x l ih=>
   intro z hm;have q:=ho.rg.el x (hm x (by simp));have h8:=xu (bf:=z) (x:=x.v) (bt q.1) q.2.2;have h9:=ih x.v.2.1 λ y hy=>hm y (by simp[hy]);rw[Sg,fX,sp,LW];omega
 have hr2:=hr c.rg 0 λ x hx=>hx;rw[ot];simp only[sp,LW,Rp];omega
def uM{c:Co}{n:Nat}(ho:OkC n c)(hn:n<=3):Qy (strOf (aN (kc lexB cj c.v))) c:=λ w=>by
 have h1:=Kh ho hn;have h2:=BO qy qz c.v;exact Kg true _ (kc lexB cj c.v) c n w ho hn Y (ig (oq h2)) h2 (by omega) ⟨λ _=>⟨h2,Agr.refl _⟩,λ _=>Y⟩ (by rw[ca,bQ];omega)
def yp{c:Co}{n:Nat}{w:World}(ho:OkC n c)(hn:n<=3):CallsV prog 14 [.string (strOf (aN (kc lexB cj c.v)))] w λ r w'=>∃ (d:Co) (F:List Nat),r= .tuple #[d.val,.int .i64 ((0:Nat):Int)]/\c.v=d.v/\Sat w [fo F (λ w1=>RdC w1 d)] w':=
 yo _ c w (uM ho hn)
end Go.Proofs.YthffkcnbdehceaaGreat
namespace Go.Kw
open Go.RowKit
def Gz:List Value->Prop
 |[]=>True
 |v::r=>v.oneCell'=true/\Gz r
theorem oc:∀ {vs:List Value},Gz vs->∀ v∈vs,v.oneCell'=true
 |[],_,_,h=>by cases h
 |a::r,ha,v,h=>by
  rcases Rx.1 h with h|h
  ·rw[h];exact ha.1
  ·exact oc ha.2 v h
section
variable {P:Program} {n:Nat} {L:aA} {w:World} {d:Option Nat} {ty:TypeId} {x y:Operand} {pos:String} {af:Array Edge} {g:Option (Nat×Bool)}
end
end Go.Kw
namespace Go.Proofs.YthffkcnbdehceaaGreat
open Go.RowKit Go.Kw
def Es(x:ByteArray)(c:Co)(w:World)(hR:Qy x c):
  CallsV prog 18 [(.string x)] w λ r w'=>∃ (d:Co) (iv:SV) (g:Nat) (F F2:List Nat),r= .tuple #[.pointer (some ⟨g,0,none⟩),.int .i64 ((0:Nat):Int)]/\c.v=d.v/\Sat w [aq g 102 [d.va,d.vt,d.vx,d.vr,d.vn,d.vh,d.vl,iv.val],fo F (λ w1=>RdC w1 d),fo F2 (λ w1=>Fw w1 iv.val c)] w':=by
 refine bY func18 Y λ hs0=>.Z Y<|.h<|.c 1 (hR _) Y λ r1 _ h1=>?_;obtain⟨rd1,riv1,rF1,rG1,rfl,hrd1v,p1⟩:=h1;have s1:=hs0.ax p1;refine .al 4 s1 Y λ b1 _ s2 _ _=>.sa 0 s2 2 (vs:=[rd1.va,rd1.vt,rd1.vx,rd1.vr,rd1.vn,rd1.vh,rd1.vl]) Y (oc ⟨(s2.bo 0 Y).a.ab,(s2.bo 0 Y).t.ab,(s2.bo 0 Y).x.ab,(s2.bo 0 Y).r.ab,(s2.bo 0 Y).n.ab,(s2.bo 0 Y).h.ab,(s2.bo 0 Y).l.ab,trivial⟩) λ _ s3 _=>?_;have s3:=s3.nn;refine .Z Y<|.seq<|.Z Y<|.ao Y (Y)<|.skip<|.h<|.lo 0 s3 2 Y<|.a 1 Y (.BX (vs:=[(0,.agg [rd1.va,rd1.vt,rd1.vx,rd1.vr,rd1.vn,rd1.vh,rd1.vl].toArray),(1,riv1.val)]) (out:=[rd1.va,rd1.vt,rd1.vx,rd1.vr,rd1.vn,rd1.vh,rd1.vl,riv1.val]) PD Y (by kernel_rfl))<|.bx 0 s3 Y λ b2 _ s4 _ _=>.Z Y<|.bP Y Y Y ?_;have s5:=(Sat.order [3,0,1,2] (by decide) s4.tail).aF.pk [0,1,2];exact⟨rd1,riv1,b2,rF1,rG1,Y,hrd1v,s5⟩
