/-The walks of the functions of F41v,printed by our own program (kwgen.py) out of our descriptions (base.py). -/
import Derived.Test.YtcgidfgdbhihbaaGreatDoorF41
import Derived.Test.YtcgidfgdbhihbaaGreatDoorM41t
open List renaming length→I,take→J,drop→ww
set_option linter.all false
set_option maxHeartbeats 2000000
set_option maxRecDepth 100000
open Go.Proofs.YtcgidfgdbhihbaaGreatDoor
open List
open Go.Proofs.Tryz
namespace Go.Proofs.YtcgidfgdbhihbaaGreatDoor
open Go.RowKit Go.Kw
def J8(v:Value)(b p:List Nat)(w:World)(i:RdL w v t1 b)(he:b=aQ p)(g:∀ x∈p,x<256)(j:I p<=100000000):
  CallsV prog 56 [v] w λ r W=>∃ d,r= .tuple #[d,.I ((0:Nat):Int)]/\Sat w [cL d 5 t1 p] W:=by
 subst he;have l:=ch p;have t:J (I (aQ p)-4) (aQ p)=p:=by rw[l,Yh,aQ,take_left']<;>rfl
 have hd:ww (I (aQ p)-4) (aQ p)=qg (jP p):=by rw[l,Yh,aQ,drop_left']<;>rfl
 have h:=wK v (aQ p) w i (λ x H=>by
  rcases XE.1 H with H|H
  ·exact g x H
  ·exact qh _ x H) O O (by rw[t,hd])
 rw[t]at h;exact h
def J9{c d:Co}{n:Nat}{w:World}(g:RdC w d)(o:OkC n c)(H:n<=4)(e:c.v=d.v):CallsV prog 29 [d.val] w λ r W=>r= .tuple #[.string (strOf (aQ (ji lexB cw c.v))),.I ((0:Nat):Int)]/\Sat w [] W:=by rw[e];exact wS d n w g (o.VJ e) H
def GI{p R:List Nat}(h:Agr p ([67,83,49]++R)):I p<3\/∃ q,p=[67,83,49]++q/\Agr q R:=by
 rcases h.cut with⟨q,H,d⟩|⟨t,H,d⟩
 ·exact .inr ⟨q,H,d⟩
 left;have g:=If List.length H;have i:0<I t:=a1g.2 d;rw[AT]at g;simp only[No,Xv]at g;omega
def NW(X:Bool)(x:ByteArray)(p:List Nat)(c:Co)(n:Nat)(w:World)(ho:OkC n c)(hn:n<=4)(hx:bL x=aQ p)(b3:∀ y∈p,y<256)(e7:I p<=100000000)(hA:At X (true,p) (ji lexB cw c.v))(g3:x.size<=4611686018427387904):
  CallsV prog 24 [(.string x)] w λ r w'=>∃ (d:Co) (iv:SV) (okb:Bool) (g:List Nat),r= .tuple #[d.val,iv.val,.bool okb]/\(okb=true->c.v=d.v/\strOf (aQ (ji lexB cw c.v))=x)/\(X=true->okb=true)/\Sat w [fK g (λ W=>RdC W d)] w':=by
 have e4:=hA;rw[SN]at hA;have g0:=Sat.start w;refine aa func24 Y Y<|.h<|.al 0 g0 Y λ b1 _ s1 _ _=>.Z Y<|.h<|.b 1 Y (.iM underlying9 underlying58 underlying5 s1 Y g3 λ v1 _ s2=>.c 0 (J8 _ (bL x) p _ (s2.qw 1 Y) hx b3 e7) Y ?_);rintro _ e2 ⟨n6,rfl,p1⟩;have s3:=(s2.ay p1).nn;refine .W Y<|.s ?_;rcases GI (p:=p) (hA.1 Y).2 with b4|⟨q,hq,hqa⟩
 ·have hX:X=false:=by cases a9:X with|false=>rfl|true=>have h9:=(Prod.mk.inj (hA.2 a9)).2;rw[h9]at b4;simp at b4;omega
  refine .r<|.ln 4 (s3.aj 2 Y) Y<|.z 3 Y<|.Gt 22 Y (LW b4)<|.Z Y<|.cc Y Y<|.h<|.e Y (.build HM Y trivial Y)<|.sa 0 s3 0 (vs:=[.N,.N,.N,.N,.N,.N,.N]) Y t7 λ _ s4 _=>.Z Y<|.ret ?_;show aE _ _ _ _ _ _;exact kP (vs:=[.N,.N,.N,.N,.N,.N,.N]) Y Y Y Y fW (λ j u hu=>s4.cell (i:=0) Y hu)<|have s6:=(s4.pk []).qv (Q:=λ W=>RdC W uL) (λ W=>yS W);⟨uL,⟨none,0,0⟩,false,_,Y,(λ h=>by cases h),(λ h=>by rw[hX]at h;cases h),s6.pk [0]⟩
 have e8:ww 3 p=q:=by rw[hq]<;>rfl
 have n3:I p=I q+3:=by rw[hq,AT];simp only[No,Xv];omega
 refine .r<|.ln 4 (s3.aj 2 Y) Y<|.z 3 Y<|.Gf 22 Y (IN O)<|.a 1 Y (.bg (E:=a7 .u8) (a:=0) (c:=3) cy Y (s3.aj 2 Y) Y ⟨_,Y⟩ (KD _) O)<|.a 0 Y (.dr underlying58 underlying9 underlying5 Y ((s3.aj 2 Y).sub (a:=0) (b:=3) (KD _) O))<|.a 0 Y (.ej Y Y)<|.Z Y<|.ak Y (IN (λ h=>h (by rw[hq]<;>rfl)))<|.p ?_;have a2:=s3.aj 2 Y;have c7:=a2.sub (a:=3) (b:=I p) O (KM _);rw[XH,e8]at c7;have b5:Sat e2 [] e2:=Sat.start _;have hB:RB (true,q):=⟨λ x hx=>b3 x (by rw[hq];exact Yb _ hx),by show I q<=_;omega⟩;have e5:At X (true,q) (uv (I c.at_)++(IZ c 0++Lk c)):=by rw[<-J1];exact⟨λ _=>⟨λ x hx=>b3 x (by rw[hq];exact Yb _ hx),hqa⟩,λ a9=>ZR Y (append_cancel_left (hq.symm.trans (Prod.mk.inj (hA.2 a9)).2))⟩
 refine .r<|.a 1 Y (.bg (E:=a7 .u8) (a:=3) (c:=I p) cy Y (a2.E b5.E) ⟨_,Y⟩ Y O (KM _))<|.e Y (.build Vl Y ⟨((a2.E b5.E).sub (a:=3) (b:=I p) O (KM _)).ae,trivial⟩ Y)<|.e Y (.DQ Vm Y Y)<|.bx 0 b5 Y λ b2 _ s8 _ _=>.W Y<|have s9:=s8.aC 81 cj;have h2:=s9.aC 28 (bz ByteArray);have h3:=h2.sU 9 aw;have h4:=h3.aC 176 lW;have h5:=h4.aC 63 aL;have h6:=h5.aC 67 aL;have h7:=h6.aC 69 bT;have h8:=h7.aC 3 (Kw.encI .i64);have i0:=h8.aC 9 aw;have i1:=i0.qv (Q:=λ W=>∀ t∈([]:List Iv),RdL W t.sv.val aV t.ps) (λ W=>λ t ht=>by cases ht);have i2:=(Sat.order [1,2,3,4,5,6,7,8,9,10,0] bl i1.tail).aH.pk [0,1,2,3,4,5,6,7,8,9,10];have i3:=i2.qv (Q:=λ W=>∀ t∈([]:List Iv),RdL W t.sv.val aV t.ps) (λ W=>λ t ht=>by cases ht);have i4:=(Sat.order [1,2,3,4,5,6,7,8,9,10,11,0] bl i3.tail).aH.pk [0,1,2,3,4,5,6,7,8,9,10,11];have i5:=i4.nn;.r<|.a 4 Y (.iR Y)<|have A1:=i5.tail.oc [0,1,2,3,4,5,6,7,8,9,10,11] 5;.c 0 (CO _ _ _ _ _ (true,q) _ _ _ _ _ _ _ _ _ X c n (Lk c) A1 c7 hB ho hn e5) Y ?_;rintro _ _ ⟨rfl,k,m6,o,A,T,a0,n5,g4,b7,H,a6,a1,p2⟩;have i6:=(Sat.order [0,1,2,3,4,5,6,7,8,9,10,11] bl p2.join).aH.nn;refine .j<|.h<|.a 4 Y (.iR Y)<|have e3:=i6.tail.oc [0,5,10,1,2,3,4,6,7,8,9,11] 3;.c 0 (CK _ _ _ _ _ k _ _ _ _ _ _ _ _ 0 _ e3 b7 H Y) Y ?_;rintro _ _ ⟨rfl,m7,P,a4,F1,c0,c9,p3⟩;have i7:=(Sat.order [0,3,4,5,6,1,7,8,9,10,2,11] bl p3.join).aH.nn;refine .j<|.h<|.st 3 i7 0 Y λ _ i8 _=>.j<|.h<|.a 4 Y (.iR Y)<|have A3:=i8.tail.oc [0,6,11,1,2,3,4,5,7,8,9,10] 3;.c 0 (CL _ _ _ _ _ (eD k 0).2.1 _ _ _ _ _ _ _ _ 0 _ A3 c0 (RB.WV H 0) Y) Y ?_;rintro _ _ ⟨rfl,m8,R,a5,F2,c2,e0,p4⟩;have i9:=(Sat.order [0,3,4,5,6,7,1,8,9,10,11,2] bl p4.join).aH.nn;refine .j<|.h<|.a 4 Y (.iR Y)<|have A4:=i9.tail.oc [0,7,1,2,3,4,5,6,8,9,10,11] 2;.c 0 (CM _ _ _ _ _ (eW (eD k 0).2.1 0).2.1 _ _ _ _ _ _ _ _ _ A4 c2 (RB.Xc (RB.WV H 0) 0)) Y ?_;rintro _ _ ⟨rfl,m9,N,c3,p5⟩;have k0:=(Sat.order [0,2,3,4,5,6,7,1,8,9,10,11] bl p5.join).aH.nn;refine .j<|.h<|.a 4 Y (.iR Y)<|have A5:=k0.tail.oc [0,8,9,1,2,3,4,5,6,7,10,11] 3;.c 0 (CN _ _ _ _ _ (fL (eW (eD k 0).2.1 0).2.1).2 _ _ _ _ _ _ _ _ _ A5 c3 (RB.Xm (RB.Xc (RB.WV H 0) 0))) Y ?_;rintro _ _ ⟨rfl,n2,D,K,c4,p6⟩;have l:=(Sat.order [0,3,4,5,6,7,8,9,1,2,10,11] bl p6.join).aH.nn;refine .j<|.s<|.s<|.trim [0,2,5,7] Y ?_;obtain⟨A2,B2⟩:=tail_at ho hn a6;refine .bM 80 (((!(ig (fL (eW (eD k 0).2.1 0).2.1).2).2.1)=true)\/(0<I ((ig (fL (eW (eD k 0).2.1 0).2.1).2).2.2))) ?_ ?_
 ·refine .ld 4 l 0 Y<|.z 1 Y ?_;by_cases g1:(!(ig (fL (eW (eD k 0).2.1 0).2.1).2).2.1)=true
  ·refine .Gt 72 Y g1<|.M Y sp
  refine .Gf 72 Y a4t<|.ld 4 l 0 Y<|.ln 0 (c4.E l.E) Y<|.M Y sp
 refine .ab Y (λ c1=>?_) λ c1=>?_
 ·refine .s<|have k9:=(s3.ay l).nn;.r<|.e Y (.build HM Y trivial Y)<|.sa 0 k9 0 (vs:=[.N,.N,.N,.N,.N,.N,.N]) Y t7 λ _ e1 _=>.Z Y<|.ret ?_;show aE _ _ _ _ _ _;exact kP (vs:=[.N,.N,.N,.N,.N,.N,.N]) Y Y Y Y fW (λ j u hu=>e1.cell (i:=0) Y hu)<|have l2:=(e1.pk []).qv (Q:=λ W=>RdC W uL) (λ W=>yS W);⟨uL,⟨none,0,0⟩,false,_,Y,(λ h=>by cases h),(λ h=>by have h9:=A2.2 h;exact absurd c1 (by rw[h9];simp)),l2.pk [0]⟩
 refine .p ?_;have c6:(ig (fL (eW (eD k 0).2.1 0).2.1).2).2.1=true:=(YC _).resolve_right λ h=>c1 (.inl ra);obtain⟨k1,k2,k3,k4,k5⟩:=B2 c6;have c5:c.v=(Co.mk o T P R N D K A (a0.map λ p=>(⟨p.1,p.2⟩:Tk)) a4 a5 (fL (eW (eD k 0).2.1 0).2.1).1 ((ig (fL (eW (eD k 0).2.1 0).2.1).2).1.map Prod.fst) ((ig (fL (eW (eD k 0).2.1 0).2.1).2).1.map Prod.snd)).v:=WD (a1 k1).1 (a1 k1).2 (c9.trans k2) (e0.trans k3) k4 k5 (ho.Mz hn).1;have g5:=(l.aj (E:=cj) 1 Y).ae;have g6:=(l.aj (E:=bz ByteArray) 2 Y).ae;have g7:=(l.aj (E:=aL) 5 Y).ae;have g8:=(l.aj (E:=aL) 6 Y).ae;have g9:=(l.aj (E:=bT) 7 Y).ae;have h0:=(l.aj (E:=Kw.encI .i64) 8 Y).ae;have h1:=(l.aj (E:=aw) 9 Y).ae;have m0:=(Sat.order [1,2,3,5,10,6,11,7,8,9,0,4] bl l.tail).aH.pk [0,1,2,3,4,5,6,7,8,9,10,11];obtain⟨e6,m1⟩:=m0.rW 10 (Q:=λ W=>RdC W (Co.mk o T P R N D K A (a0.map λ p=>(⟨p.1,p.2⟩:Tk)) a4 a5 (fL (eW (eD k 0).2.1 0).2.1).1 ((ig (fL (eW (eD k 0).2.1 0).2.1).2).1.map Prod.fst) ((ig (fL (eW (eD k 0).2.1 0).2.1).2).1.map Prod.snd))) (λ W hA=>⟨hA.aj 0 Y,V9 (hA.aj 1 Y),hA.aj 3 Y,hA.aj 5 Y,hA.aj 7 Y,hA.aj 8 Y,hA.aj 9 Y,(λ t ht=>by obtain⟨p,hp,e⟩:=Y7.1 ht;rw[<-e];exact hA.bt 2 Y p hp),hA.bE 4 Y,hA.bE 6 Y⟩);have b6:=(Sat.order [1,0,2] bl m1.tail).aH.pk [0,1,2];refine .r<|.a 3 Y (.Ml (vs:=[o,T,P,R,N,D,K]) fW Y b6 (i:=0) Y Y Y)<|.cp 0 b6 (J9 (d:=(Co.mk o T P R N D K A (a0.map λ p=>(⟨p.1,p.2⟩:Tk)) a4 a5 (fL (eW (eD k 0).2.1 0).2.1).1 ((ig (fL (eW (eD k 0).2.1 0).2.1).2).1.map Prod.fst) ((ig (fL (eW (eD k 0).2.1 0).2.1).2).1.map Prod.snd))) (b6.bE 1 Y) ho hn c5) Y λ _ m2=>.W Y ?_;have m3:=(s3.ay m2).nn;refine .dk [1,2,3,4,5] m3 Y (pl [0,1,2,3,4,5,6,7,8,9,10,11,12,13,14,1015,16,17] .fin) λ m4 S1=>.z 3 S1 Y<|.e Y (λ _ s=>.Ml (vs:=[o,T,P,R,N,D,K]) fW Y s (i:=2) Y Y Y) S1<|.ld 3 S1 2 Y<|.a 5 S1 Y (λ _ s=>.cN Y Y)<|.z 1 S1 Y<|.f Y (.bo (vs:=[o,T,P,R,N,D,K]) fW m4 (i:=0) Y Y Y Y (t8 ⟨g5,g6,g7,g8,g9,h0,h1,trivial⟩) λ _ a3 _=>?_);have S2:=a3.pk [1,2,3,4,5];refine⟨S2,?_⟩;refine .Z S2 Y<|.ret ?_;show aE _ _ _ _ _ _;refine kP (vs:=[o,T,P,R,N,D,K]) Y Y Y Y fW (λ j u hu=>a3.cell (i:=0) Y hu) ?_;obtain⟨m5,c8,g2⟩:=(a3.aj 5 Y).sv;subst c8;exact⟨(Co.mk o T P R N D K A (a0.map λ p=>(⟨p.1,p.2⟩:Tk)) a4 a5 (fL (eW (eD k 0).2.1 0).2.1).1 ((ig (fL (eW (eD k 0).2.1 0).2.1).2).1.map Prod.fst) ((ig (fL (eW (eD k 0).2.1 0).2.1).2).1.map Prod.snd)),m5,decide (strOf (aQ (ji lexB cw c.v))=x),e6,Y,λ h=>⟨c5,XR h⟩,λ h=>LW (by rw[<-(Prod.mk.inj (e4.2 h)).2,<-hx,iV]),a3.pk [4]⟩
def Wn(X:Bool)(x:ByteArray)(c:Co):Prop:=∀ w,CallsV prog 24 [.string x] w λ r W=>∃ (d:Co) (i:SV) (o:Bool) (g:List Nat),r= .tuple #[d.val,i.val,.bool o]/\(o=true->c.v=d.v/\strOf (aQ (ji lexB cw c.v))=x)/\(X=true->o=true)/\Sat w [fK g (λ j=>RdC j d)] W
def Ak(X:Bool)(x:ByteArray)(c:Co)(w:World)(hR:Wn X x c):
  CallsV prog 30 [(.string x)] w λ r w'=>∃ (d:Co) (okb:Bool) (g:List Nat),r= .tuple #[d.val,.I ((if okb then 0 else 9:Nat):Int)]/\(okb=true->c.v=d.v/\strOf (aQ (ji lexB cw c.v))=x)/\(X=true->okb=true)/\Sat w [fK g (λ W=>RdC W d)] w':=by
 refine cd func30 Y λ y=>.h<|.al 0 y Y λ b1 _ s1 _ _=>.Z Y<|.h<|.c 1 (hR _) Y λ r1 _ T=>?_;obtain⟨R,K,E,D,rfl,H,p,p1⟩:=T;have s2:=s1.ay p1;refine .al 4 s2 Y λ b2 _ k _ _=>?_;have k:=k.nn;refine .sa 0 k 2 (vs:=[R.va,R.vt,R.vx,R.vr,R.vn,R.vh,R.vl]) Y (t8 ⟨(k.bE 1 Y).a.ae,(k.bE 1 Y).t.ae,(k.bE 1 Y).x.ae,(k.bE 1 Y).r.ae,(k.bE 1 Y).n.ae,(k.bE 1 Y).h.ae,(k.bE 1 Y).l.ae,trivial⟩) λ _ o _=>.W Y<|.h<|.a 1 Y (.cK Y)<|.j<|.cond Y (λ q=>?_) (λ q=>?_)
 ·refine .h<|.e Y (.build HM Y trivial Y)<|.sa 0 o 0 (vs:=[.N,.N,.N,.N,.N,.N,.N]) Y t7 λ _ N _=>.Z Y<|.ret ?_;show aE _ _ _ _ _ _;exact gm (vs:=[.N,.N,.N,.N,.N,.N,.N]) Y Y Y fW (λ j u A=>N.cell (i:=0) Y A)<|have s7:=(N.pk []).qv (Q:=λ W=>RdC W uL) (λ W=>yS W);⟨uL,false,_,Y,(λ h=>by cases h),(λ h=>by have h9:=p h;rw[h9]at q;cases q),s7.pk [0]⟩
 refine .k<|.h<|.lo 0 o 2 Y<|.sa 0 o 0 (vs:=[R.va,R.vt,R.vx,R.vr,R.vn,R.vh,R.vl]) Y (t8 ⟨(o.bE 1 Y).a.ae,(o.bE 1 Y).t.ae,(o.bE 1 Y).x.ae,(o.bE 1 Y).r.ae,(o.bE 1 Y).n.ae,(o.bE 1 Y).h.ae,(o.bE 1 Y).l.ae,trivial⟩) λ _ P _=>.Z Y<|.ret ?_;show aE _ _ _ _ _ _;exact gm (vs:=[R.va,R.vt,R.vx,R.vr,R.vn,R.vh,R.vl]) Y Y Y fW (λ j u A=>P.cell (i:=0) Y A) ⟨R,true,D,Y,(λ _=>H a0T),(λ _=>Y),P.pk [1]⟩
def NX{c:Co}{n:Nat}(o:OkC n c)(p:n<=4):I (ji lexB cw c.v)<=50000000:=by
 have E:=o.ntx;have K:=o.nrg;have N:=F8 o p;have P:=o.at_.2;have Q:=aF (I c.at_);have R:=aF (I c.tx);have T:=aF (I c.rg);have X:I (fV lexB cw c.v.at_ c.v.tk (I c.at_))<=5000000*I c.at_:=by
  have:=uJ (f:=λ i=>lJ lexB cw (c.v.at_.getD i (ByteArray.empty,false)) (c.v.tk.map λ t=>t.getD i ByteArray.empty)) (B:=5000000) (List.range (I c.at_)) λ i r=>by
   have H:=Zt.1 r;obtain⟨a,j⟩:=ut c.at_ i H;have g:=yg o p j;rw[Dx,KV,show c.v.at_=c.at_ from Y,j,YZ];exact g
  rw[a0r]at this;exact this
 have ht:=uJ (f:=λ x:Iv=>jc x.v) (B:=2000) c.tx λ x d=>by
  have q:=o.tx.nm x d;exact yR (x:=x.v) (bD q.1) q.2.1
 have u:∀ (l:List Iv) (z:Int),(∀ x∈l,x∈c.rg)->I (gV z (l.map Iv.v))<=2000*I l:=by
  intro l;induction l with
  |nil=>intro z _;exact KM _
  |cons x l D=>
   intro z k;have q:=o.rg.el x (k x bw);have W:=yQ (bf:=z) (x:=x.v) (bD q.1) q.2.2;have g:=D x.v.2.1 λ y A=>k y a5b;rw[XZ,gV,AT,No];omega
 have w:=u c.rg 0 λ x d=>d;rw[pW];simp only[AT,No,Xv];omega
def wT{c:Co}{n:Nat}(o:OkC n c)(d:n<=4):Wn true (strOf (aQ (ji lexB cw c.v))) c:=λ w=>by
 have g:=NX o d;have H:=Dz sx sy c.v;exact NW true _ (ji lexB cw c.v) c n w o d (j4 (pV H)) H O ⟨λ _=>⟨H,Agr.refl _⟩,λ _=>Y⟩ a4k
def Al{c:Co}{n:Nat}{w:World}(o:OkC n c)(l:n<=4):CallsV prog 30 [.string (strOf (aQ (ji lexB cw c.v)))] w λ r W=>∃ (d:Co) (g:List Nat),r= .tuple #[d.val,.I ((0:Nat):Int)]/\c.v=d.v/\Sat w [fK g (λ t=>RdC t d)] W:=
 (Ak true _ c w (wT o l)).mono λ r W q=>by
  obtain⟨d,p,g,rfl,H,i,j⟩:=q;have k:=i Y;subst k;exact⟨d,g,Y,(H Y).1,j⟩
def GJ(X:Bool)(x:ByteArray)(c:Co)(w:World)(K:Wn X x c):
  CallsV prog 8 [(.string x)] w λ r W=>(r= .tuple #[.pointer none,.I ((9:Nat):Int)]/\(X=true->False)/\Sat w [] W)\/∃ (d:Co) (N:SV) (g:Nat) (i:List Nat),r= .tuple #[.P g,.I ((0:Nat):Int)]/\(c.v=d.v/\strOf (aQ (ji lexB cw c.v))=x)/\Sat w [ai g 75 [d.va,d.vt,d.vx,d.vr,d.vn,d.vh,d.vl,N.val],fK i (λ w1=>RdC w1 d)] W:=by
 refine cd func8 Y λ u=>.Z Y<|.h<|.c 1 (K _) Y ?_;rintro _ _ ⟨R,j,A,y,rfl,H,k,P⟩;have Q:=u.ay P;refine .al 4 Q Y λ b1 _ o _ _=>.sa 0 o 1 (vs:=[R.va,R.vt,R.vx,R.vr,R.vn,R.vh,R.vl]) Y (oc ⟨(o.bE 0 Y).a.ae,(o.bE 0 Y).t.ae,(o.bE 0 Y).x.ae,(o.bE 0 Y).r.ae,(o.bE 0 Y).n.ae,(o.bE 0 Y).h.ae,(o.bE 0 Y).l.ae,trivial⟩) λ _ p _=>have p:=p.nn;.Z Y<|.seq<|.h<|.a 1 Y (.cK Y)<|.nil<|.cond Y (λ q=>?_) (λ q=>?_)
 ·exact .Z Y<|.bK Y Y Y<|.inl ⟨Y,λ h=>(by have E:=k h;rw[E]at q;cases q),p.pk []⟩
 exact .skip<|.h<|.lo 0 p 1 Y<|.a 1 Y (.DQ (vs:=[(0,.agg [R.va,R.vt,R.vx,R.vr,R.vn,R.vh,R.vl].toArray),(1,j.val)]) (out:=[R.va,R.vt,R.vx,R.vr,R.vn,R.vh,R.vl,j.val]) WJ Y F)<|.bx 0 p Y λ D _ T _ _=>.Z Y<|.bK Y Y Y<|have s6:=(Sat.order [2,0,1] bl T.tail).aH.pk [0,1];.inr ⟨R,j,D,y,Y,H a0T,s6⟩
def dz(v:Nat)(w:World)(E:v<2^64):
  CallsV prog 94 [(.int .u64 v)] w λ r W=>Sat w [cL r 5 t1 (uv v)] W:=by
 refine cd func94 Y λ i=>.Z Y<|.W Y<|.l<|have K:=i.aC 5 t1;.loop (α:=Nat×Value×List Nat) (λ(d,o,A)=>[(0,(.int .u64 d)),(3,o)]) (λ(d,o,A) W=>Sat w [cL o 5 t1 A] W/\(d<2^64)/\(A++uv d=uv v)) (λ(d,o,A)=>d) (v,.N,[]) (wk Y) ⟨K,E,Y⟩ ?_;rintro⟨d,o,A⟩ X ⟨p,j,H⟩;have g:=If List.length H;simp only[AT]at g;have y:=aF v;have D:=Kn d;refine .s<|.Z Y<|.ab Y (λ l=>?_) λ l=>?_
 ·exact .k<|.l<|.h<|.a 2 Y (.rem (b:=128) Y Y O)<|.e Y (.ja a1C underlying5 Y Y)<|.e Y (.PX (b:=128) Y Y Y)<|.f Y (.bS t1 ((((d%128)%2^8)+128)%2^8) cy Y p Y λ R _ q _=>.ap 0 q 0 (q.aj 1 Y) Y λ k _ N _=>.Z Y<|.r<|.a 1 Y (.W8 (b:=128) Y Y Y O ey)<|.Z Y<|aP ((d/128),k,A++[((((d%128)%2^8)+128)%2^8)]) ⟨N.pk [0],O,by rw[<-H,AU j l,show((((d%128)%2^8)+128)%2^8)=d%128+128 by omega];simp⟩)
 refine .aq<|.h<|.a 2 Y (.ja a1C underlying5 Y Y)<|.f Y (.bS t1 (d%2^8) cy Y p Y λ T _ t _=>.ap 0 t 0 (t.aj 1 Y) Y λ Q _ P _=>.Z Y<|.ax Y Y ?_);have u:A++[(d%2^8)]=uv v:=by rw[<-H,mW O]<;>(first|rfl|(congr 1;simp;omega))
 rw[<-u];exact P.pick [0] Y
def oY(x m:Nat)(w:World)(l:x<2^64)(K:m<=64):
  CallsV prog 158 [(.int .u64 x),(.I m)] w λ r W=>Sat w [cL r 4 jI (aY x m)] W:=by
 refine cd func158 Y λ i=>.Z Y<|.W Y<|.h<|.a 1 Y (.sub (b:=(1:Int)) Y Y en)<|.V Y<|have y:=i.aC 4 jI;.lq [0] Y (α:=Nat×Value×List Bool) (λ(d,o,A)=>[(5,o),(6,(.I (((d:Nat):Int)-1)))]) (λ(d,o,A) W=>Sat w [cL o 4 jI A] W/\(d<=m)/\(A++aY x d=aY x m)) (λ(d,o,A)=>d) (m,.N,[]) ⟨y,KM _,Y⟩ ?_;rintro⟨d,o,A⟩ P ⟨k,u,H⟩;refine .s<|.h<|.a 1 Y (.geq Y Y)<|.j<|.ab Y (λ q=>?_) λ q=>?_
 ·refine .q ?_;obtain⟨j,rfl⟩:∃ j,d=j+1:=⟨d-1,O⟩;refine .weaken [(0,_),(5,_),(6,(.I j)),(9,_)] ⟨Y,Y,If some (If (Value.I) O),Y,trivial⟩ ?_;have g:=If List.length H;simp only[AT,aK]at g;exact .r<|.a 4 Y (.Q0 Y Y l)<|.e Y (.MF (b:=1) 1 Y Y Y bl (a04 (Yn _ _) l) bl)<|.b 1 Y (.bS jI (decide (((x/2^j)%2^1)=1)) rT Y k Y λ N _ p _=>.ap 0 p 0 (p.aj 1 Y) Y λ E _ D _=>.Z Y<|.r<|.a 1 Y (.sub (b:=(1:Int)) Y Y en)<|.Z Y ⟨(j,E,A++[decide (((x/2^j)%2^1)=1)]),(wk Y),⟨D.pk [0],O,by rw[<-H];simp[aY]⟩,(show(j)<(j+1)from O)⟩)
 refine .aq<|.Z Y<|.ax Y Y ?_;have t:d=0:=O
 subst t;rw[show A=aY x m by rw[<-H];simp[aY]]at k;exact k
def tE(v:Value)(l:List Bool)(w:World)(g:RdL w v jI l)(R:I l<=1000000000):
  CallsV prog 101 [v] w λ r W=>Sat w [cL r 5 t1 (aI l)] W:=by
 refine cd func101 Y λ H=>.Z Y<|.h<|.ln 1 (g.E H.E) Y<|.a 1 Y (.quo (b:=8) Y Y O en)<|.f Y (.df t1 0 cy Y H Y Y O O O λ N _ q _=>.W Y<|.h<|.ln 1 (g.E q.E) Y<|.V Y<|have A:=q.bp 0 Y (show List.replicate ((I l+7)/8) 0=u6 l 0 from by rw[JW]);.lq [3,11,12] Y (α:=Nat) (λ k=>[(13,(.I k))]) (λ k W=>Sat w [cL N 5 t1 (u6 l k)] W/\(k<=I l)) (λ k=>I l-k) 0 ⟨A,KD _⟩ ?_);rintro k P ⟨d,Q⟩;refine .W Y<|.ab Y (λ p=>?_) λ p=>?_
 ·refine .q<|.s ?_;obtain⟨x,i⟩:=ut l k p;refine .r<|.ix 1 (g.E d.E) Y<|.le 0 (g.E d.E) i Y<|.Z Y<|.Z Y<|.cond Y (λ j=>?_) (λ j=>?_)
  ·have t:=Oi (b8 i);have u:=n1 (J k l) (k/8);have y:=Yn 128 (2^(k%8));refine .r<|.a 2 Y (.quo (b:=8) Y Y O en)<|.ix 0 (d.aj 0 Y) Y (hj:=a5j)<|.le 0 (d.aj 0 Y) t Y<|.a 1 Y (.rem (b:=8) Y Y O)<|.ix 3 (d.aj 0 Y) Y (hj:=a5j)<|.f Y (.dJ (a:=((cU (J k l) (k/8))|||(128/2^(k%8)))) 0 Vh d Y Y Y Y a5j λ _ o _=>?_);have o:=o.nn;refine .j<|.U Y ?_;have D:=o.bp 0 Y (show(u6 l k).set (k/8) ((cU (J k l) (k/8))|||(128/2^(k%8)))=u6 l (k+1)from by rw[JX (by rw[i,j])]);exact aP (k+1) ⟨D,O⟩
  exact .k<|.U Y<|have E:=d.bp 0 Y (show u6 l k=u6 l (k+1)from by rw[Hi (by rw[i];simpa using j)]);aP (k+1) ⟨E,O⟩
 exact .aq<|.Z Y<|.ax Y Y<|have K:=d.bp 0 Y (show u6 l k=aI l from by rw[show k=I l by omega,Oh]);K
def Ja(v:Nat)(w:World)(o:v<4294967296):
  CallsV prog 102 [(.int .u32 v)] w λ r W=>r= .int .u32 (dx v 8:Nat)/\Sat w [] W:=by
 refine cd func102 Y λ i=>.W Y<|.V Y<|.loop (α:=Nat×Nat) (λ(k,u)=>[(0,(.int .u32 u)),(3,(.I k))]) (λ(k,u) W=>Sat w [] W/\(k<=8)/\(u=dx v k)/\(u<4294967296)) (λ(k,u)=>8-k) (0,v) (wk Y) ⟨i,KD _,Y,o⟩ ?_;rintro⟨k,u⟩ q ⟨j,p,g,H⟩;refine .s<|.Z Y<|.ab Y (λ l=>?_) λ l=>?_
 ·refine .q<|.Z Y<|.ab Y (λ d=>?_) λ d=>?_
  ·exact .r<|.a 2 Y (.HP (b:=2197175160) Y Y Y ey ey)<|.Z Y<|.U Y<|aP (k+1,((u/2^1)^^^2197175160)) ⟨j,O,a2B,a0Y⟩
  exact .U Y<|.U Y<|aP (k+1,(u/2^1)) ⟨j,O,a2B,a0Y⟩
 refine .aq<|.Z Y<|.ax Y Y ?_;rw[show k=8 by omega]at g;exact⟨by rw[g],j⟩
def NY(v:Value)(l:List Nat)(w:World)(o:RdL w v t1 l)(t:∀ x∈l,x<256)(E:I l<=1000000000):
  CallsV prog 55 [v] w λ r W=>r= .int .u32 (jP l:Nat)/\Sat w [] W:=by
 refine cd func55 Y λ d=>.Z Y<|.W Y<|.h<|.ln 1 (o.E d.E) Y<|.V Y<|.lq [6,7] Y (α:=Nat×Nat) (λ(k,u)=>[(3,(.int .u32 u)),(8,(.I k))]) (λ(k,u) W=>Sat w [] W/\(k<=I l)/\(u=BL (J k l))/\(u<4294967296)) (λ(k,u)=>I l-k) (0,4294967295) ⟨d,KD _,Y,O⟩ ?_;rintro⟨k,u⟩ K ⟨g,D,i,j⟩;refine .W Y<|.ab Y (λ q=>?_) λ q=>?_
 ·refine .q<|.s ?_;obtain⟨x,p⟩:=ut l k q;exact .r<|.ix 0 (o.E g.E) Y<|.le 0 (o.E g.E) p Y<|.Z Y<|have y:=t x (a8 p);have H:u^^^x<4294967296:=kC j O;.r<|.a 3 Y (.HP Y Y Y ey ey)<|.cp 0 g (Ja (u^^^x) _ H) Y λ _ A=>.Z Y<|.U Y<|aP (k+1,(dx (u^^^x) 8)) ⟨A,O,by rw[ao p,rf,<-i,AV],ve H 8⟩
 refine .aq<|.h<|.a 1 Y (.QX Y O)<|.Z Y<|.ax Y Y ?_;rw[show k=I l by omega,XH]at i;exact⟨by rw[i]<;>rfl,g.pk []⟩
def lP(v:Value)(l:List Nat)(w:World)(g:RdL w v t1 l)(d:∀ x∈l,x<256)(k:I l<=1000000000):
  CallsV prog 23 [v] w λ r W=>Sat w [cL r 5 t1 (aQ l)] W:=by
 refine cd func23 Y λ H=>.Z Y<|.h<|.cp 1 H (NY _ l _ (g.E H.E) d k) Y λ _ p=>.W Y ?_;have o:=qi d;refine .r<|.z 1 Y ?_;have i:=p.aC 5 t1;refine .ap 0 i 0 (g.E i.E) Y λ A _ q _=>.a 1 Y (.ja a0F underlying5 Y Y)<|.a 2 Y (.ja a0F underlying5 Y Y)<|.a 2 Y (.ja a0F underlying5 Y Y)<|.a 2 Y (.ja a0F underlying5 Y Y)<|.f Y (.gh t1 [((jP l)%2^8),(((jP l)/2^8)%2^8),(((jP l)/2^16)%2^8),(((jP l)/2^24)%2^8)] cy Y ⟨Y,Y,Y,Y,trivial⟩ Y Y Y Y bl bl q λ D _ j _=>?_);refine .ap 0 j 0 (j.aj 1 Y) Y λ E _ t _=>?_;refine .Z Y<|.ax Y Y ?_;have u:=(t.pk [0]).pk [0];have y:=u.bp 0 Y (show l++[((jP l)%2^8),(((jP l)/2^8)%2^8),(((jP l)/2^16)%2^8),(((jP l)/2^24)%2^8)]=aQ l from by simp[aQ,qg]);exact y
def CR(v:Value)(l:List Nat)(w:World)(d:RdL w v un l)(t:I l<=128)(p:∀ x∈l,x<=2147483647):
  CallsV prog 248 [v] w λ r W=>r= .I ((0:Nat):Int)/\Sat w [] W:=by
 refine cd func248 Y λ H=>.W Y<|.h<|.ln 1 (d.E H.E) Y<|.Z Y<|.ak Y (IN O)<|.p<|.h<|.ln 1 (d.E H.E) Y<|.V Y<|.lq [8,9] Y (α:=Nat) (λ k=>[(10,(.I k))]) (λ k W=>Sat w [] W/\(k<=I l)) (λ k=>I l-k) 0 ⟨H,KD _⟩ ?_;rintro k u ⟨g,q⟩;refine .W Y<|.ab Y (λ j=>?_) λ j=>?_
 ·refine .q<|.s ?_;obtain⟨x,o⟩:=ut l k j;refine .r<|.ix 0 (d.E g.E) Y<|.le 0 (d.E g.E) o Y<|.W Y<|.bM 19 ((x<0)\/(2147483647<x)) ?_ ?_
  ·refine .z 3 Y<|.B 16 Y (λ i=>?_) λ i=>?_
   ·refine .M Y a0V
   refine .M Y a0V
  exact .ak Y (IN (by have:=p x (a8 o);omega))<|.k<|.U Y<|aP (k+1) ⟨g,O⟩
 exact .aq<|.Z Y<|.ax Y Y ⟨Y,g⟩
def qF(v:Value)(l:List Nat)(W:Nat)(w:World)(u:RdL w v un l)(hn:I l<=4096)(hb:∀ x∈l,x<2^63)(hw:W<=31):
  CallsV prog 206 [v,(.I W)] w λ r w'=>Sat w [cL r 5 t1 (jC W l)] w':=by
 refine cd func206 Y λ H=>.Z Y<|.Z Y<|.Z Y<|.W Y<|.h<|.ln 1 (u.E H.E) Y<|.V Y<|have s1:=H.aC 4 jI;have s2:=s1.aC 5 t1;.lq [0,1,12,13] Y (α:=Nat×Value×List Bool×Value×List Nat×Nat×Nat) (λ(k,q,bits,ev,E,c,b)=>[(5,q),(6,ev),(7,(.I c)),(8,(.I (((b:Nat):Int)-1))),(14,(.I k))]) (λ(k,q,bits,ev,E,c,b) w'=>Sat w [cL q 4 jI bits,cL ev 5 t1 E] w'/\(k<=I l)/\(dH W (J k l)=(k,bits,E,c,b))/\(I bits<=31*k)/\(I E<=20*k)/\(c<=k)/\(b<=k)) (λ(k,q,bits,ev,E,c,b)=>I l-k) (0,.N,[],.N,[],0,0) ⟨s2,KD _,Y,bw,bw,KM _,KM _⟩ ?_;rintro⟨k,q,bits,ev,E,c,b⟩ w1 ⟨p,hk,t,a3,a5,a4,a2⟩;refine .W Y<|.ab Y (λ c1=>?_) λ c1=>?_
 ·refine .q<|.s ?_;obtain⟨x,y⟩:=ut l k c1;refine .r<|.ix 1 (u.E p.E) Y<|.le 0 (u.E p.E) y Y<|.W Y<|have a1:=hb x (a8 y);have a9:=Yn x (2^W);have h8:=aF (k+1-b);have h9:=aF (x/2^W);.r<|.c 4 (oY x W _ O O) Y λ r1 _ D=>have s4:=p.ay D;.ap 0 s4 0 (s4.aj 2 Y) Y (h1:=a4Z) (h2:=a4Z) λ v1 _ s5 _=>.Z Y<|.Z Y<|.ab Y (λ A=>?_) λ A=>?_
  ·refine .Z Y<|.h<|.a 3 Y (.nu Y Y O O)<|.c 1 (dz (k+1-b) _ O) Y λ r2 _ K=>?_;have s6:=s5.ay K;refine .ap 0 s6 1 (s6.aj 3 Y) Y (h1:=dd) (h2:=dd) λ v2 _ s7 _=>.c 5 (dz (x/2^W) _ O) Y λ r3 _ N=>?_;have s8:=(s7.ay N).nn;refine .ap 0 s8 1 (s8.aj 4 Y) Y (h1:=dd) (h2:=dd) λ v3 _ s9 _=>?_;have a0:Sat w [_,cL v3 5 t1 (E++uv (k+1-b)++uv (x/2^W)),_,_,cL r3 5 t1 (uv (x/2^W))] _:=s9;refine .Z Y<|.U Y<|.trim [0,1,5,6,7,8,9,10,12,13,14] Y<|.U Y ?_;exact⟨(k+1,v1,bits++aY x W,v3,E++uv (k+1-b)++uv (x/2^W),(c+1),k+1),⟨Y,Y,Y,If some (If (Value.I) O),Y,Y,Y,Y,Y,trivial⟩,⟨a0.pk [0,1],O,by rw[ao y,fA,t,et,Xp (Nat.pos_of_ne_zero A),u5 _ _ _ (KM _)],a0A,LS,O,O⟩,wv⟩
  exact .k<|.U Y<|aP (k+1,v1,bits++aY x W,ev,E,c,b) ⟨s5.pk [0,1],O,by rw[ao y,fA,t,et,Xn (λ h=>A (Nat.ne_of_gt h)),u5 _ _ _ (KM _)],a0A,LS,O,O⟩
 refine .aq<|.s ?_;have a6:=aO bits;have h1:=aF (I l);have h2:=aF W;have h3:=aF c;refine .r<|.ln 1 (u.E p.E) Y<|.c 1 (dz (I l) _ O) Y λ r4 _ h4=>?_;have P:=p.ay h4;refine .c 2 (dz W _ O) Y λ r5 _ h5=>?_;have g:=P.ay h5;refine .ap 0 g 2 (g.aj 3 Y) Y (h1:=dd) (h2:=dd) λ b1 _ Q _=>.Z Y<|.h<|.c 3 (dz c _ O) Y λ r6 _ h6=>?_;have i:=(Q.ay h6).nn;refine .ap 0 i 2 (i.aj 4 Y) Y (h1:=dd) (h2:=dd) λ v5 _ j _=>.c 1 (tE _ bits _ (j.aj 0 Y) O) Y λ r7 _ h7=>?_;have o:=j.ay h7;refine .ap 0 o 2 (o.aj 5 Y) Y (h1:=dd) (h2:=dd) λ v6 _ R _=>?_;have d:Sat w [_,_,cL v6 5 t1 (uv (I l)++uv W++uv c++aI bits),_,_,cL r7 5 t1 (aI bits)] _:=R;refine .Z Y<|.h<|.ap 2 d 2 (d.aj 1 Y) Y (h1:=dd) (h2:=dd) λ v7 _ T _=>.Z Y<|.ax Y Y ?_;have X:=(T.pk [2]).bp 0 Y (show uv (I l)++uv W++uv c++aI bits++E=jC W l from a1X);exact X
def GK(v:Value)(l:List Nat)(w:World)(k:RdL w v un l)(K:I l<=128)(t:∀ x∈l,x<=2147483647):
  CallsV prog 207 [v] w λ r W=>r= .I ((dR l 32:Nat):Int)/\Sat w [] W:=by
 refine cd func207 Y λ i=>.s ?_;have H:∀ x∈l,x<2^63:=λ x N=>by have:=t x N;omega
 refine .U Y<|.s<|.h<|.cp 1 i (CR _ l _ (k.E i.E) K t) Y λ _ P=>.Z Y<|.ak Y Y<|.k<|.W Y<|.V Y<|.lq [0] Y (α:=Nat×Nat) (λ(m,g)=>[(3,(.I g)),(4,(.I m))]) (λ(m,g) W=>Sat w [] W/\(1<=m)/\(m<=32)/\(g=dR l m)/\(g<=31)) (λ(m,g)=>32-m) (1,0) ⟨P,KM _,O,by simp[dR],O⟩ ?_;rintro⟨m,g⟩ Q ⟨o,E,R,d,D⟩;refine .s<|.Z Y<|.ab Y (λ u=>?_) λ u=>?_
 ·refine .q<|.h<|.c 2 (qF _ l m _ (k.E o.E) O H O) Y λ T _ y=>have p:=o.ay y;.ln 0 (p.aj 0 Y) Y<|.c 2 (qF _ l g _ (k.E p.E) O H O) Y λ X _ A=>have q:=(p.ay A).nn;.ln 0 (q.aj 1 Y) Y<|.Z Y<|.ab Y (λ j=>?_) λ j=>?_
  ·exact .U Y<|.U Y<|aP (m+1,m) ⟨q.pk [],O,O,by rw[dR,<-d,mX O O H,mX O O H,Xp j],O⟩
  exact .k<|.U Y<|aP (m+1,g) ⟨q.pk [],O,O,by rw[dR,<-d,mX O O H,mX O O H,Xn j],O⟩
 refine .aq<|.Z Y<|.ax Y Y ?_;rw[show m=32 by omega]at d;exact⟨by rw[d],o⟩
def GL(v:Value)(l:List Nat)(w:World)(i:RdL w v un l)(o:I l<=128)(g:∀ x∈l,x<=2147483647):
  CallsV prog 157 [v] w λ r W=>Sat w [cL r 5 t1 (bQ l)] W:=by
 refine cd func157 Y λ d=>.s ?_;have H:∀ x∈l,x<2^63:=λ x p=>by have:=g x p;omega
 exact .U Y<|.h<|.cp 2 d (GK _ l _ (i.E d.E) o g) Y λ _ j=>.c 0 (qF _ l (dR l 32) _ (i.E j.E) O H (by have:=j7 l 32;omega)) Y λ R _ k=>have q:=j.ay k;.Z Y<|.ax Y Y<|q
end Go.Proofs.YtcgidfgdbhihbaaGreatDoor
namespace Go.Kw
def lQ{L:List Nat}(h:L.Pairwise (· < ·))(k:Nat):L.filter (λ x=>decide (x<k+1))=L.filter (λ x=>decide (x<k))++(if k∈L then[k]else[]):=by
 induction L with
 |nil=>simp
 |cons a L i=>
  have p:=XY.1 h;have i:=i p.2;rcases ZU a k with H|H|H
  ·rw[YE cf,YE te,i];simp[show¬ k=a by omega]
  ·subst H;have e:∀ j,j<=a+1->L.filter (λ x=>decide (x<j))=[]:=λ j g=>YD.2 λ x d=>by have:=p.1 x d;simp;omega
   rw[YE bw,Z2 bw,e _ (KM _),e a O];simp
  ·have e:∀ j,j<=k+1->L.filter (λ x=>decide (x<j))=[]:=λ j g=>YD.2 λ x d=>by have:=p.1 x d;simp;omega
   have o:k∉L:=λ l=>by have:=p.1 k l;omega
   rw[Z2 cf,Z2 cf,e _ (KM _),e k O,Xn (by simp[o];omega)];rfl
def Jb(l:List Nat)(n:Nat):(nB l n).Pairwise (· < ·):=by
 have h:=bn (key:=au l) (bH 0 l) n;have e:nB l n=(bH 0 l).filter λ x=>au l x==n:=h.symm;rw[e];exact a1r filter_sublist (nh l 0)
def Ed{l:List Nat}{n k:Nat}(H:0<n):k∈nB l n↔au l k=n:=by
 constructor
 ·exact ni
 ·intro h;exact Z3.2 ⟨jO l k O,ra⟩
def lR(l:List Nat)(n k:Nat):List Nat:=low l n++(nB l n).filter λ x=>decide (x<k)
def GM{l:List Nat}{n k x:Nat}(H:0<n)(d:l[k]? =some x)(h:x≠n):lR l n (k+1)=lR l n k:=by
 have e:au l k=x:=by simp[au,KV,d]
 rw[lR,lR,lQ (Jb l n),Xn (by rw[Ed H,e];exact h),Yr]
def wU{l:List Nat}{n k:Nat}(H:0<n)(d:l[k]? =some n):lR l n (k+1)=lR l n k++[k]:=by
 have e:au l k=n:=by simp[au,KV,d]
 rw[lR,lR,lQ (Jb l n),Xp (by rw[Ed H,e]),KW]
def qG(l:List Nat)(n:Nat):lR l n 0=low l n:=by simp[lR]
def GN(l:List Nat)(n:Nat):lR l n (I l)=lR l (n+1) 0:=by
 rw[qG,lR,Z8.2 λ x H=>by have:=km l x (Z3.1 H).1;simpa using this.1]
 conv=>rhs;rw[low,jz l n]
 rw[YF,YF,Z8.2,Z8.2,YD.2,Yr]
 ·intro x H;have:=(Z3.1 H).2;simp at this⊢;omega
 ·intro x H;have:=ni H;simp;omega
 ·intro x H;have:=(Z3.1 H).2;simp at this⊢;omega
def CS(l:List Nat):lR l 1 0=[]:=by
 rw[qG,low];exact YD.2 λ x H=>by have:=(km l x H).2;simp;omega
def GO{l:List Nat}(h:∀ i,au l i<=15):lR l 16 0=ba l:=by
 rw[qG,low];exact Z8.2 λ x _=>by have:=h x;simp;omega
def yi{l g:List Nat}{im d j i:Nat}(h0:im=0)(h1:d=0):ij l (im,d,j,g) i=(im+1,0,au l i,g.set i 0):=by subst h0 h1;rfl
def Am{l j:List Nat}{im d g i:Nat}(h:im≠0):ij l (im,d,g,j) i=(im+1,(d+1)%2^64*2^(au l i-g)%2^64,au l i,j.set i ((d+1)%2^64*2^(au l i-g)%2^64)):=by
 have p:0<im:=O
 simp only[ij,p,Z7]
end Go.Kw
namespace Go.Proofs.YtcgidfgdbhihbaaGreatDoor
open Go.RowKit Go.Kw
def CU(v:Value)(c:List Nat)(w:World)(g:RdL w v un c)(u:I c<=1024)(q:∀ x∈c,x<=4096):
  CallsV prog 203 [v,(.I (15:Nat))] w λ r W=>r= .I ((0:Nat):Int)/\Sat w [] W:=by
 refine cd func203 Y λ H=>.W Y<|.s<|.bM 13 ((15<1)\/(15<15)) ?_ ?_
 ·refine .M Y (by simp[])
 refine .ak Y (IN O)<|.p<|.h<|.ln 1 (g.E H.E) Y<|.Z Y<|.ak Y (IN O)<|.k<|.W Y<|.h<|.ln 1 (g.E H.E) Y<|.V Y<|.lq [1,17,18] Y (α:=Nat×Nat) (λ(k,p)=>[(5,(.I p)),(19,(.I k))]) (λ(k,p) W=>Sat w [] W/\(k<=I c)/\(p<=k)) (λ(k,p)=>I c-k) (0,0) ⟨H,KD _,KM _⟩ ?_;rintro⟨k,p⟩ A ⟨d,t,y⟩;refine .W Y<|.ab Y (λ j=>?_) λ j=>?_
 ·refine .q<|.s ?_;obtain⟨x,l⟩:=ut c k j;refine .r<|.ix 0 (g.E d.E) Y<|.le 0 (g.E d.E) l Y<|.W Y<|.s<|.bM 28 ((x<0)\/(4096<x)) ?_ ?_
  ·refine .z 3 Y<|.B 25 Y (λ i=>?_) λ i=>?_
   ·refine .M Y a0V
   refine .M Y a0V
  refine .ak Y (IN (by have:=q x (a8 l);omega))<|.k<|.Z Y<|.ab Y (λ o=>?_) λ o=>?_
  ·exact .U Y<|.U Y<|aP (k+1,(p+1)) ⟨d,O,O⟩
  exact .k<|.U Y<|aP (k+1,p) ⟨d,O,O⟩
 exact .aq<|.s<|.h<|.a 3 Y (.Mq (a:=1) (b:=15) Y Y O O)<|.Z Y<|.ak Y (IN O)<|.k<|.Z Y<|.ax Y Y ⟨Y,d⟩
def GP(v:Value)(l:List Nat)(w:World)(o:RdL w v un l)(E:I l<=1024):
  CallsV prog 247 [v] w λ r W=>r= .bool (ei l)/\Sat w [] W:=by
 refine cd func247 Y λ g=>.W Y<|.h<|.ln 1 (o.E g.E) Y<|.Z Y<|.ak Y (IN O)<|.k<|.W Y<|.h<|.ln 1 (o.E g.E) Y<|.V Y<|.lq [9,10] Y (α:=Nat×Nat) (λ(k,s)=>[(3,(.I s)),(11,(.I k))]) (λ(k,s) W=>Sat w [] W/\(k<=I l)/\(s=jK (J k l))/\(s<=k*2^14)/\(∀ x∈J k l,x<=15)) (λ(k,s)=>I l-k) (0,0) ⟨g,KD _,Y,KD _,bw⟩ ?_;rintro⟨k,s⟩ K ⟨j,D,d,y,H⟩;refine .W Y<|.ab Y (λ t=>?_) λ t=>?_
 ·refine .q<|.s ?_;obtain⟨x,i⟩:=ut l k t;refine .r<|.ix 0 (o.E j.E) Y<|.le 0 (o.E j.E) i Y<|.W Y<|.s<|.bM 20 ((x<0)\/(15<x)) ?_ ?_
  ·refine .z 3 Y<|.B 17 Y (λ q=>?_) λ q=>?_
   ·refine .M Y a2F
   refine .M Y a2F
  refine .ab Y (λ u=>?_) λ u=>?_
  ·exact .Z Y<|.ax Y Y ⟨by rw[uN (a8 i) O],j⟩
  refine .k<|.Z Y<|.ab Y (λ p=>?_) λ p=>?_
  ·have A:2^(15-x)<=2^14:=Y1 bl O;exact .r<|.a 4 Y (.Mq (a:=1) Y Y O O)<|.Z Y<|.U Y<|aP (k+1,(s+(1*2^(15-x)))) ⟨j,O,a1N,O,all_take H i O⟩
  exact .k<|.U Y<|aP (k+1,s) ⟨j,O,a1N,O,all_take H i O⟩
 refine .aq<|.Z Y<|.ax Y Y ?_;rw[show k=I l by omega,XH]at d H;exact⟨by rw[xH H,d],j⟩
def GQ(v:Value)(l:List Nat)(w:World)(hv:RdL w v un l)(hn:I l<=1024)(D:ei l=true):
  CallsV prog 205 [v] w λ r w'=>∃ v',r= .tuple #[v',.I ((0:Nat):Int)]/\Sat w [cL v' 102 t2 (dn l)] w':=by
 refine cd func205 Y λ a1=>.s<|have hb:=iQ D;.U Y<|.s<|.h<|.cp 1 a1 (GP _ l _ (hv.E a1.E) hn) Y λ _ s1=>.e Y (.cK Y)<|.j<|.ak Y (by rw[D]<;>rfl)<|.k<|.h<|.ln 1 (hv.E s1.E) Y<|.f Y (.df t2 0 Fx Y s1 Y Y O O O λ v1 _ s2 _=>.Z Y<|.W Y<|.V Y<|.lq [0,4] Y (α:=Nat×Nat×Nat×List Nat×Nat) (λ(n,g,j,o,q)=>[(5,(.int .u64 g)),(6,(.I j)),(7,(.I n))]) (λ(n,g,j,o,q) w'=>Sat w [cL v1 102 t2 o] w'/\(1<=n)/\(n<=16)/\(fz l (lR l n 0)=(q,g,j,o))/\(g<2^64)/\(I o=I l)/\(j<n)/\(j=0↔q=0)/\(q=0->g=0)) (λ(n,g,j,o,q)=>16-n) (1,0,0,List.replicate (I l) 0,0) ⟨s2,KM _,O,by rw[CS]<;>rfl,O,bw,O,O,λ _=>Y⟩ ?_);rintro⟨n,g,j,o,q⟩ a5 ⟨s3,N,a4,A,W,X,a3,Q,R⟩;refine .s<|.Z Y<|.ab Y (λ c1=>?_) λ c1=>?_
 ·refine .q<|.h<|.ln 1 (hv.E s3.E) Y<|.V Y<|.lq [0,4,7,20,21] Y (α:=Nat×Nat×Nat×List Nat×Nat) (λ(k,d,p,t,im)=>[(5,(.int .u64 d)),(6,(.I p)),(22,(.I k))]) (λ(k,d,p,t,im) w'=>Sat w [cL v1 102 t2 t] w'/\(k<=I l)/\(fz l (lR l n k)=(im,d,p,t))/\(d<2^64)/\(I t=I l)/\(p<=n)/\(p=0↔im=0)/\(im=0->d=0)) (λ(k,d,p,t,im)=>I l-k) (0,g,j,o,q) ⟨s3,KD _,A,W,X,O,Q,R⟩ ?_;rintro⟨k,d,p,t,im⟩ a6 ⟨E,hk,y,T,u,a2,H,K⟩;refine .W Y<|.ab Y (λ c2=>?_) λ c2=>?_
  ·refine .q<|.s ?_;obtain⟨x,hx⟩:=ut l k c2;refine .r<|.ix 1 (hv.E E.E) Y<|.le 0 (hv.E E.E) hx Y<|.W Y<|.Z Y<|.ab Y (λ c3=>?_) λ c3=>?_
   ·exact .aq<|.U Y<|aP (k+1,d,p,t,im) ⟨E,O,by rw[GM N hx (by simpa using c3)];exact y,T,u,a2,H,K⟩
   refine .p<|.s ?_;have P:x=n:=Yx λ h=>c3 h;have a0:au l k=n:=by simp[au,KV,hx,P]
   refine .U Y<|.ab Y (λ c4=>?_) λ c4=>?_
   ·exact .U Y<|.r<|.ix 4 (E.aj 0 Y) Y<|.f Y (.dJ (a:=0) 0 mD E Y Y Y Y O λ _ s5 _=>have s5:=s5.nn;.Z Y<|.U Y<|aP (k+1,0,n,t.set k 0,im+1) ⟨s5,O,by rw[wU N (by rw[hx,P]),eP,y,yi (H.1 c4) (K (H.1 c4)),a0],O,by simp only[Xt];exact u,KM _,O,O⟩)
   exact .r<|.a 1 Y (.PX (b:=1) Y Y Y)<|.Z Y<|.r<|.ix 4 (E.aj 0 Y) Y<|.f Y (.dJ (a:=(((d+1)%2^64)*2^(n-p)%2^64)) 0 mD E Y Y Y Y O λ _ s6 _=>have s6:=s6.nn;.Z Y<|.U Y<|aP (k+1,(((d+1)%2^64)*2^(n-p)%2^64),n,t.set k (((d+1)%2^64)*2^(n-p)%2^64),im+1) ⟨s6,O,by rw[wU N (by rw[hx,P]),eP,y,Am (λ h=>c4 (H.2 h)),a0],O,by simp only[Xt];exact u,KM _,O,O⟩)
  exact .aq<|.U Y<|aP (n+1,d,p,t,im) ⟨E,O,O,by rw[<-GN,<-y,show k=I l by omega],T,u,O,H,K⟩
 refine .aq<|.Z Y<|.bK Y Y Y ?_;have s8:=(s3.pk [0]).bp 0 Y (show o=dn l from by unfold dn;rw[<-GO (λ i=>xK hb i),show 16=n by omega,A]);exact⟨_,Y,s8⟩
def An(v u:Value)(l d:List Nat)(w:World)(p:RdL w v un l)(D:RdL w u un d)(hn:I l<=1024)(j:ei l=true)(a5:I d<=4096)(P:∀ s∈d,s<I l/\0<au l s):
  CallsV prog 156 [v,u] w λ r X=>∃ v',r= .tuple #[v',.I (I (cz l d):Int),.I ((0:Nat):Int)]/\Sat w [cL v' 5 t1 (aI (cz l d))] X:=by
 refine cd func156 Y λ A=>.s<|have o:=GoodLens.mH j;.U Y<|.h<|.c 1 (GQ _ l _ (p.E A.E) hn j) Y ?_;rintro _ _ ⟨a2,rfl,p1⟩;have R:=A.ay p1;refine .W Y<|.Z Y<|.ak Y (IN O)<|.p<|.h<|.ln 1 (D.E R.E) Y<|.Z Y<|.ak Y (IN O)<|.k<|.W Y<|.h<|.ln 1 (D.E R.E) Y<|.V Y<|have s2:=R.aC 4 jI;.lq [0,7,23,24] Y (α:=Nat×Value×List Bool) (λ(k,W,bits)=>[(9,W),(25,(.I k))]) (λ(k,W,bits) X=>Sat w (s2.U [(1,cL W 4 jI bits)]) X/\(k<=I d)/\(bits=cz l (J k d))/\(I bits<=15*k)) (λ(k,W,bits)=>I d-k) (0,.N,[]) ⟨s2,KD _,Y,KM _⟩ ?_;rintro⟨k,W,bits⟩ a6 ⟨i,hk,H,a3⟩;refine .W Y<|.ab Y (λ c1=>?_) λ c1=>?_
 ·refine .q<|.s ?_;obtain⟨x,Q⟩:=ut d k c1;refine .r<|.ix 0 (D.E i.E) Y<|.le 0 (D.E i.E) Q Y<|.W Y<|.s<|have g:=P x (a8 Q);have y:=mq g.1;have a0:=(nj o g.2).2;have t:=o.le x;have a1:2^au l x<=2^15:=Y1 bl t;have a4:=jL l;.r<|.z 3 Y<|.Gf 31 Y (IN O)<|.ln 2 (p.E i.E) Y<|.z 3 Y<|.Gf 37 Y (IN O)<|.ix 2 (p.E i.E) Y (hj:=g.1)<|.le 0 (p.E i.E) y Y<|.Z Y<|.ak Y (IN O)<|.k<|have N:=(i.aj (E:=jI) 1 Y).gY bl;.dk [0] i Y (pl [0,1,2,3,4,5,6,7,8,1009,1010,11] .fin) λ s4 q=>.ix 3 q (·.aj 0 Y) Y<|.le 0 q (·.aj 0 Y) (nj o g.2).1 Y<|.ix 2 q (p.E ·.E) Y (hj:=g.1)<|.le 0 q (p.E ·.E) y Y<|.c 0 q (oY (cP l x) (au l x) _ O O) Y λ r2 _ h2=>have T:=s4.ay h2;have S2:=T.pk [0];⟨S2,?_⟩;refine .f Y (.aD 1 rT T Y Y Y underlying152 (T.aj 2 Y) a0A a0A λ v1 _ s6 _=>have S3:=s6.pk [0];⟨S3,?_⟩);exact .Z S3 Y<|.U Y<|aP (k+1,v1,bits++aY (cP l x) (au l x)) ⟨s6.pk [0,1],O,by rw[ao Q,xL,H],a0A⟩
 refine .aq<|.h<|.c 1 (tE _ bits _ (i.aj 1 Y) O) Y λ r3 _ h3=>have s8:=i.ay h3;.ln 1 (s8.aj 1 Y) Y<|.Z Y<|.ret ?_;show aE _ _ _ _ _ _;refine js Y Y Y Y ?_;have K:bits=cz l d:=a4h
 subst K;exact⟨_,Y,s8.pk [2]⟩
end Go.Proofs.YtcgidfgdbhihbaaGreatDoor
namespace Go.Kw
open Go.RowKit
structure RI where
 w:Nat
 leaf:Bool
 sv:SV
 occ:List Nat
def bj:Enc RI:=⟨3,λ x=>[.I (x.w:Int),.bool x.leaf,x.sv.val],λ _=>Y,λ x u h=>by simp at h;rcases h with rfl|rfl|rfl<;>rfl⟩
def eU(ps:List RI):Chunk:=lF (ps.map λ p=>cL p.sv.val 3 un p.occ)
section
variable {w0 w:World} {cs:List Chunk}
def Sat.PR(h:Sat w0 cs w):Sat w0 (cs++[eU []]) w:=by
 have:Sat w0 (cs++lF []::[]) w:=Sat.iN.2 ra;exact this
def Sat.vI{A:List Chunk}{s:SV}{n:Nat}{b:Bool}{l:List Nat}{ps:List RI}(h:Sat w0 (A++[cL s.val 3 un l]) w)(i:Nat)(H:A[i]? =some (eU ps)):Sat w0 (A.set i (eU (ps++[⟨n,b,s,l⟩]))) w:=by
 have:=h.push i H;rw[eU,Y0];exact this
def Sat.jU(h:Sat w0 cs w)(i:Nat){ps:List RI}(H:cs[i]? =some (eU ps)):∀ p∈ps,RdL w p.sv.val un p.occ:=λ p d=>
 Rd.ry ((h.get H).1 (cL p.sv.val 3 un p.occ) (Ye d))
end
def UF(x y:RI):Bool:=decide (x.w<=y.w)
def iw(a b:List RI):List RI:=a.merge b UF
def lS{α:Type}{l:List α}{k:Nat}{x:α}(h:l[k]? =some x):ww k l=x::ww (k+1) l:=by
 obtain⟨H,rfl⟩:=KC.1 h;exact Yl H
def GR{a b:List RI}{i k:Nat}{x y:RI}(H:a[i]? =some x)(d:b[k]? =some y)(h:x.w<=y.w):iw (ww i a) (ww k b)=x::iw (ww (i+1) a) (ww k b):=by
 have e:UF x y=true:=LW h;rw[iw,iw,lS H,lS d,cons_merge_cons_pos (h:=e)]
def tF{a b:List RI}{i k:Nat}{y:RI}(d:b[k]? =some y)(h:∀ x,a[i]? =some x->¬ x.w<=y.w):iw (ww i a) (ww k b)=y::iw (ww i a) (ww (k+1) b):=by
 cases H:a[i]? with
 |none=>
  have:ww i a=[]:=Yo te;rw[this,lS d];simp[iw]
 |some x=>
  have e:¬ UF x y=true:=by have:=h x H;simp[UF];omega
  rw[iw,iw,lS H,lS d,cons_merge_cons_neg (h:=e)]
def Jc(a:List RI):iw a []=a:=by simp[iw]
def Jd{a b:List RI}{x:RI}:x∈iw a b↔x∈a\/x∈b:=by rw[iw,(merge_perm_append UF).mem_iff,XE]
end Go.Kw
namespace Go.Proofs.YtcgidfgdbhihbaaGreatDoor
open Go.RowKit Go.Kw
def GS(v u:Value)(a b:List RI)(w:World)(H:RdL w v bj a)(hu:RdL w u bj b)(hn:I a<=4096)(hm:I b<=4096):
  CallsV prog 204 [v,u] w λ r W=>Sat w [cL r 266 bj (iw a b)] W:=by
 refine cd func204 Y λ D=>.Z Y<|.Z Y<|.W Y<|.h<|.ln 1 (hu.E D.E) Y<|.V Y<|have s1:=D.aC 266 bj;.lq [0,9,10] Y (α:=Nat×Nat×Value×List RI) (λ(k,i,d,o)=>[(5,d),(6,(.I i)),(11,(.I k))]) (λ(k,i,d,o) W=>Sat w [cL d 266 bj o] W/\(k<=I b)/\(i<=I a)/\(o++iw (ww i a) (ww k b)=iw a b)/\(I o=i+k)) (λ(k,i,d,o)=>I b-k) (0,0,.N,[]) ⟨s1,KD _,KD _,Y,Y⟩ ?_;rintro⟨k,i,d,o⟩ w1 ⟨q,hk,P,t,A⟩;refine .W Y<|.ab Y (λ c1=>?_) λ c1=>?_
 ·refine .q<|.s ?_;obtain⟨x,Q⟩:=ut b k c1;refine .r<|.ix 0 (hu.E q.E) Y<|.lg 0 (hu.E q.E) Q Y<|.al 0 q Y λ b1 _ s3 _ _=>.sa 0 s3 1 Y ((bj).one _) λ _ s4 _=>.j<|.s<|.l<|.lq [0,8,9,10,11] Y (α:=Nat×Value×List RI) (λ(i,d,o)=>[(5,d),(6,(.I i))]) (λ(i,d,o) W=>Sat w (s4.U [(0,cL d 266 bj o)]) W/\(i<=I a)/\(o++iw (ww i a) (ww k b)=iw a b)/\(I o=i+k)) (λ(i,d,o)=>I a-i) (i,d,o) ⟨s4,P,t,A⟩ ?_;rintro⟨i,d,o⟩ a9 ⟨s5,P,t,A⟩;refine .s<|.s ?_;rcases XI i (I a) with hw|hw
  ·obtain⟨y,R⟩:=ut a i hw;refine .dk [0,1] s5 Y (pl [0,1,2,3,4,5,6,7,8,9,10,11,12,13] .fin) λ N l=>.ln 2 l (H.E ·.E) Y<|.z 2 l Y<|.Gt 19 Y (LW hw)<|.ix 2 l (H.E ·.E) Y<|.fl 0 l (H.E ·.E) Y<|.lf 0 l (H.E ·.E) R Y<|.ld 1 l 1 Y<|.Z l Y<|.ab Y (λ c2=>?_) λ c2=>?_
   ·exact .k<|.l<|.h<|.ix 3 (H.E N.E) Y<|.lg 0 (H.E N.E) R Y<|.f Y (.bO bj y eu bl bl N Y λ v1 _ X _=>have X:=X.nn;.ap 0 X 0 (X.aj 2 Y) Y (h1:=a0L) (h2:=a0L) λ v2 _ s8 _=>.Z Y<|.U Y<|have s9:=(s8.pk [0,1]).pk [0,1];aP (i+1,v2,o++[y]) ⟨s9,O,by rw[<-t,GR R Q c2];simp,cf⟩)
   refine .aq ?_;have p:∀ z,a[i]? =some z->¬ z.w<=x.w:=λ z T=>by rw[R]at T;cases T;exact c2
   exact .r<|.lo 1 N 1 Y<|.f Y (.bO bj x eu bl bl N Y λ v3 _ g _=>have g:=g.nn;.ap 0 g 0 (g.aj 2 Y) Y (h1:=a0L) (h2:=a0L) λ a6 _ a0 _=>.Z Y<|.U Y<|have a1:=(a0.pk [0,1]).pk [0];aP (k+1,i,a6,o++[x]) ⟨a1,O,P,by rw[<-t,tF Q p];simp,cf⟩)
  refine .dk [0,1] s5 Y (pl [0,1,2,3,4,5,6,7,8,9,10,11,12,13] .fin) λ K S2=>.ln 2 S2 (H.E ·.E) Y<|.z 2 S2 Y<|.Gf 19 Y (IN O)<|.Z S2 Y<|.ak Y Y<|.aq ?_;have p:∀ z,a[i]? =some z->¬ z.w<=x.w:=λ z T=>by have:=b8 T;omega
  exact .r<|.lo 1 K 1 Y<|.f Y (.bO bj x eu bl bl K Y λ v5 _ j _=>have j:=j.nn;.ap 0 j 0 (j.aj 2 Y) Y (h1:=a0L) (h2:=a0L) λ v6 _ a2 _=>.Z Y<|.U Y<|have a3:=(a2.pk [0,1]).pk [0];aP (k+1,i,v6,o++[x]) ⟨a3,O,P,by rw[<-t,tF Q p];simp,cf⟩)
 refine .aq<|.h<|.a 3 Y (.bg (E:=bj) (a:=i) (c:=I a) eu Y (H.E q.E) ⟨_,Y⟩ Y O (KM _))<|.ap 0 q 0 ((H.E q.E).sub (a:=i) (b:=I a) O (KM _)) Y λ v7 _ a4 _=>.Z Y<|.ax Y Y ?_;have a5:=(a4.pk [0]).bp 0 Y (show o++ww i (J (I a) a)=iw a b from by rw[<-t,show k=I b by omega,a00,Jc];simp);exact a5
