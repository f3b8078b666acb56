/-The walks of the functions of F22c,printed by our own program (kwgen.py) out of our descriptions (base.py). -/
import Derived.Test.YtcgidfgdbhihbaaGreatDoorKsc
import Derived.Test.YtcgidfgdbhihbaaGreatDoorM22
import Derived.Test.YtcgidfgdbhihbaaGreatDoorTab
open List renaming length→I,take→J
open ByteArray renaming empty→wt
set_option linter.all false
set_option maxRecDepth 100000
open List
open Go.Proofs.Tryz
namespace Go.Proofs.YtcgidfgdbhihbaaGreatDoor
open Go.RowKit Go.Kw
def Ru(v:Value)(l:List Cn)(f:FuncId)(cap:Array Value)(p:Nat->Bool)(w:World)(u:RdL w v aX l)(Q:I l<=1000000000)(t:Enters prog f)(K:∀ (i:Nat) x,l[i]? =some x->∀ W,Sat w [] W->t6 f ([aX.ag x]++cap.toList) W λ r A=>r= .bool (p i)/\Sat W [] A):
  t6 131 [v,(.func (.func f) #[] cap)] w λ r W=>∃ z:Int,r= .I z/\((∀ i,i<I l->p i=false)/\z= -1\/∃ i:Nat,z=(i:Int)/\i<I l/\p i=true/\∀ j,j<i->p j=false)/\Sat w [] W:=by
 refine cd func131 Y λ d=>.W Y<|.h<|.ln 1 (u.E d.E) Y<|.V Y<|.lq [0,1,7] Y (α:=Nat) (λ k=>[(8,(.I k))]) (λ k W=>Sat w [] W/\(k<=I l)/\(∀ i,i<k->p i=false)) (λ k=>I l-k) 0 ⟨d,KD _,λ i q=>absurd q (Zw i)⟩ ?_;rintro k R ⟨g,N,H⟩;refine .W Y<|.ab Y (λ D=>?_) λ D=>?_
 ·refine .q<|.W Y ?_;obtain⟨x,y⟩:=ut l k D;refine .r<|.ix 3 (u.E g.E) Y<|.lg 0 (u.E g.E) y Y<|.f Y (.kD t Y Y ((K _ _ y _ g).mono ?_));rintro _ _ ⟨rfl,P⟩;have E:=g.ay P;refine .j<|.cond Y (λ o=>?_) (λ o=>?_)
  ·exact .Z Y<|.ax Y Y ⟨_,Y,.inr ⟨k,Y,b8 y,o,H⟩,E⟩
  refine .k<|.U Y ?_;exact aP (k+1) ⟨E,O,λ i q=>by
   rcases XI i k with h|h
   ·exact H i h
   ·rw[show i=k by omega];exact o⟩
 exact .aq<|.Z Y<|.ax Y Y ⟨_,Y,.inl ⟨λ i q=>H i O,Y⟩,g⟩
def CF(v:Value)(l:List Cn)(f:FuncId)(cap:Array Value)(p:Nat->Bool)(w:World)(o:RdL w v aX l)(k:I l<=1000000000)(t:Enters prog f)(j:∀ (i:Nat) x,l[i]? =some x->∀ W,Sat w [] W->t6 f ([aX.ag x]++cap.toList) W λ r g=>r= .bool (p i)/\Sat W [] g):
  t6 76 [v,(.func (.func f) #[] cap)] w λ r W=>r= .bool (EP (I l) p)/\Sat w [] W:=by
 refine cd func76 Y λ H=>.Z Y<|.h<|.c 2 (Ru _ l f cap p _ (o.E H.E) k t (λ i x u w3 q=>j i x u w3 (H.ay q))) Y ?_;rintro _ _ ⟨y,rfl,d,P⟩;have A:=H.ay P;exact .e Y (.geq Y Y)<|.Z Y<|.ax Y Y ⟨If Value.bool (ER d),A⟩
def GA(n:Nat)(A:∀ (c:Cd) (x:Cn) (w:World),c.sz<n->GdC true c->RdCd w c x->t6 64 [aX.ag x] w λ r W=>r= .bool c.sm/\Sat w [] W)(c:Cd)(x:Cn)(w:World)(hn:c.sz=n)(t:GdC true c)(h:RdCd w c x):
  t6 64 [((aX).ag x)] w λ r W=>r= .bool c.sm/\Sat w [] W:=by
 obtain⟨ks,l,j,H⟩:=h.kids;have he:x.op=c.op:=a3S
 have D:=c.oI;have o:=Sat.start w;refine aa func64 Y Y<|.h<|.bx 0 o Y λ X _ d _ _=>.W Y<|.md [0,1] Y (λ K q W=>Weak ([(2,(.bool (decide (((x.op:Int)=(4:Int))\/((EP (I ks) (c.kp Cd.sm))=true)))))]++K) q/\Sat w d.L W) ?_ ?_
 ·refine .r<|.ld 1 d 0 Y<|.e Y (.eql Y Y)<|.z 1 Y<|.B 6 Y (λ g=>?_) λ g=>?_
  ·exact .Z Y ⟨⟨If some (If Value.bool a0G),Y,Y,trivial⟩,d⟩
  exact .ld 1 d 0 Y<|.cp 0 d (CF _ ks 64 #[] (c.kp Cd.sm) _ (l.E d.E) O VF (λ i y P w3 E=>by obtain⟨k,u,N,hz⟩:=H i y P;rw[Cd.My u];exact A k y w3 O (t.MM u) (N.E (d.ay E).E))) Y λ _ Q=>.Z Y ⟨⟨If some (If Value.bool a0G),Y,Y,trivial⟩,Q⟩
 rintro q T ⟨p,R⟩;exact .weaken _ p<|.ax Y Y ⟨If Value.bool (by rw[t.VZ,<-he,j,a0t];simp),R.pk []⟩
def yf(n:Nat)(K:∀ (c:Cd) (x:Cn) (a d:Nat) (w:World),c.sz<n->a+c.sz<=60->d+c.dp<=100->RdCd w c x->t6 63 [aX.ag x,.I (a:Int),.I (d:Int)] w λ r W=>∃ z:Nat,r= .tuple #[.I ((a+c.sz:Nat):Int),.I (z:Int)]/\z<=d+c.dp/\Sat w [] W)(c:Cd)(x:Cn)(a d:Nat)(w:World)(hn:c.sz=n)(ha:a+c.sz<=60)(hd:d+c.dp<=100)(h:RdCd w c x):
  t6 63 [((aX).ag x),(.I a),(.I d)] w λ r W=>∃ z:Nat,r= .tuple #[.I ((a+c.sz:Nat):Int),.I (z:Int)]/\z<=d+c.dp/\Sat w [] W:=by
 obtain⟨ks,H,T,l⟩:=h.kids;have R:=c.oI;have a1:=c.FJ;have o:=Sat.start w;refine aa func63 Y Y<|.h<|.bx 0 o Y λ b1 _ i _ _=>.Z Y<|.Z Y<|.W Y<|.h<|.ld 1 i 0 Y<|.ln 0 (H.E i.E) Y<|.V Y<|.lq [0,2,3,6,7,17,18] Y (α:=Nat×Nat×Nat) (λ(k,e,D)=>[(1,(.I e)),(8,(.I D)),(19,(.I k))]) (λ(k,e,D) W=>Sat w i.L W/\(e=a+1+((J k c.ks).map Cd.sz).sum)/\(D<=d+c.dp)/\(k<=I ks)) (λ(k,e,D)=>I ks-k) (0,a+1,d) ⟨i,bw,O,KD _⟩ ?_;rintro⟨k,e,D⟩ a2 ⟨j,P,N,hK⟩;refine .W Y<|.ab Y (λ t=>?_) λ t=>?_
 ·refine .q<|.s ?_;obtain⟨y,E⟩:=ut ks k t;refine .r<|.ix 0 (H.E j.E) Y<|.lg 0 (H.E j.E) E Y<|.al 0 j Y λ b2 _ s3 _ _=>.sa 0 s3 1 Y ((aX).one _) λ _ g _=>have g:=g.nn;.j<|.s<|.s ?_;obtain⟨q,A,X,hz⟩:=l k y E;have a0:=Cd.sum_take A;have Q:=Cd.TO A;refine .U Y<|.ak Y (IN O)<|.k<|.h<|.lo 0 g 1 Y<|.c 3 (K q y e (d+1) _ O O O (X.E g.E)) Y ?_;rintro _ _ ⟨p,rfl,u,p1⟩;have s5:=g.ay p1;exact .Z Y<|.r<|.a 3 Y (.HQ Y Y)<|.Z Y<|.U Y<|aP (k+1,(e+q.sz),(max D p)) ⟨s5.pk [0],O,O,O⟩
 exact .aq<|.Z Y<|.bK Y Y Y ⟨D,by rw[show a+c.sz=e by rw[P,Xx O];omega],N,j.pk []⟩
def Rv{c:Cd}{x:Cn}(w:World)(g:GdC true c)(h:RdCd w c x):t6 64 [aX.ag x] w λ r W=>r= .bool c.sm/\Sat w [] W:=by
 suffices H:∀ n (c:Cd) (x:Cn) (w:World),c.sz=n->GdC true c->RdCd w c x->t6 64 [aX.ag x] w λ r W=>r= .bool c.sm/\Sat w [] W from H _ c x w Y g h
 intro n;induction n using Nat.strongRecOn with
 |_ n j=>exact λ c x w d g h=>GA n (λ c x w i g h=>j c.sz i c x w Y g h) c x w d g h
def wQ{c:Cd}{x:Cn}(a d:Nat)(w:World)(g:a+c.sz<=60)(hd:d+c.dp<=100)(h:RdCd w c x):t6 63 [aX.ag x,.I (a:Int),.I (d:Int)] w λ r W=>∃ z:Nat,r= .tuple #[.I ((a+c.sz:Nat):Int),.I (z:Int)]/\z<=d+c.dp/\Sat w [] W:=by
 suffices H:∀ n (c:Cd) (x:Cn) (a d:Nat) (w:World),c.sz=n->a+c.sz<=60->d+c.dp<=100->RdCd w c x->t6 63 [aX.ag x,.I (a:Int),.I (d:Int)] w λ r W=>∃ z:Nat,r= .tuple #[.I ((a+c.sz:Nat):Int),.I (z:Int)]/\z<=d+c.dp/\Sat w [] W from H _ c x a d w Y g hd h
 intro n;induction n using Nat.strongRecOn with
 |_ n k=>exact λ c x a d w i g hd h=>yf n (λ c x a d w j g hd h=>k c.sz j c x a d w Y g hd h) c x a d w i g hd h
def NL(c:Cd)(x:Cn)(w:World)(l:c.sz<=60)(hd:c.dp<=50)(h:RdCd w c x):
  t6 25 [((aX).ag x)] w λ r W=>r= .bool false/\Sat w [] W:=by
 refine cd func25 Y λ H=>.h<|.bx 0 H Y λ k _ d _ _=>.Z Y<|.h<|.lo 0 d 0 Y<|.c 0 (wQ (c:=c) 0 1 _ O O (h.E d.E)) Y ?_;rintro _ _ ⟨i,rfl,g,p⟩;have j:=d.ay p;exact .Z Y<|.Z Y<|.ax Y Y ⟨If Value.bool (IN O),j.pk []⟩
def CG(n:Nat)(IH:∀ (c:Cd) (x:Cn) (w:World),c.sz<n->GdC true c->RdCd w c x->t6 26 [aX.ag x] w λ r P=>∃ (y:Cn) (d:List Nat),r=aX.ag y/\Sat w [fK d (λ W=>RdCd W c.ls y)] P)(c:Cd)(x:Cn)(w:World)(hn:c.sz=n)(hg:GdC true c)(h:RdCd w c x):
  t6 26 [((aX).ag x)] w λ r P=>∃ (y:Cn) (d:List Nat),r=aX.ag y/\Sat w [fK d (λ W=>RdCd W c.ls y)] P:=by
 obtain⟨ks,H,e2,a6⟩:=h.kids;have he:x.op=c.op:=a3S
 have e1:=c.oI;have a9:=Sat.start w;refine aa func26 Y Y<|.h<|.bx 0 a9 Y λ b1 _ s1 _ _=>.al 0 s1 Y λ b2 _ o _ _=>.j<|.s<|.s<|.md [0,1,2] Y (λ K L' P=>Weak ([(17,(.bool (decide (((x.op:Int)=(4:Int))\/(((x.op:Int)=(6:Int))/\(c.sm=true))))))]++K) L'/\Sat w o.L P) ?_ ?_
 ·refine .r<|.ld 1 o 0 Y<|.e Y (.eql Y Y)<|.z 1 Y<|.B 9 Y (λ g1=>?_) λ g1=>?_
  ·exact .Z Y ⟨⟨If some (If Value.bool sp),Y,Y,Y,trivial⟩,o⟩
  refine .ld 1 o 0 Y<|.a 0 Y (.eql Y Y)<|.z 1 Y<|.B 13 Y (λ g2=>?_) λ g2=>?_
  ·exact .lo 0 o 0 Y<|.cq 0 o (Rv _ hg (h.E o.E)) Y λ _ s3=>.Z Y ⟨⟨If some (If Value.bool a0X),Y,Y,Y,trivial⟩,s3⟩
  exact .Z Y ⟨⟨If some (If Value.bool a0X),Y,Y,Y,trivial⟩,o⟩
 rintro L' e4 ⟨b6,s4⟩;refine .weaken _ b6<|.ab Y (λ c1=>?_) λ c1=>?_
 ·refine .h<|.e Y (.build wq Y ⟨Y,trivial⟩ Y)<|.sa 0 s4 1 (vs:=[(.I (1:Nat)),(.string wt),(.string wt),(.string wt),(.string wt),(.bool false),.N]) Y t7 λ _ s5 _=>have s5:=s5.nn;.j<|.ret ?_;show aE _ _ _ _ _ _;exact cx (vs:=[(.I (1:Nat)),(.string wt),(.string wt),(.string wt),(.string wt),(.bool false),.N]) Y Y gW (λ j u hu=>s5.cell (i:=1) Y hu) ⟨(⟨1,wt,wt,wt,wt,false,⟨none,0,0⟩⟩:Cn),[],Y,(s5.pk []).qv λ W=>by rw[Cd.TZ (he▸c1) hg];exact⟨Y,RdL.nil _ _⟩⟩
 refine .k<|.h<|.lo 0 s4 0 Y<|.al 0 s4 Y λ b3 _ s7 _ _=>have s7:=s7.nn;.sa 0 s7 2 (vs:=[(.I x.op),(.string x.nm),(.string x.ar),(.string x.vl),(.string x.lb),(.bool x.fo),x.kv.val]) Y t7 λ _ s8 _=>.j<|.h<|.st 1 s8 2 Y λ _ s9 _=>.j<|.s<|.h<|.ld 1 s9 0 Y<|.ln 0 (H.E s9.E) Y<|.V Y<|have b7:=s9.aC 36 aX;have c0:=b7.qv (Q:=λ W=>LsC W c ([]) 0) (λ W=>LsC.nil W c);have a0:=(Sat.order [1,2,3,4,0] bl c0.tail).aH.pk [0,1,2,3,4];.lq [0,1,2,3,22,23] Y (α:=Nat×Value×List Cn×List Nat) (λ(k,t,L,d)=>[(24,(.I k))]) (λ(k,t,L,d) P=>Sat w (a0.U [(2,ai b3 36 [(.I x.op),(.string x.nm),(.string x.ar),(.string x.vl),(.string x.lb),(.bool x.fo),t]),(3,cL t 36 aX L),(4,fK d (λ W=>LsC W c L k))]) P/\(I L=k)/\(k<=I ks)) (λ(k,t,L,d)=>I ks-k) (0,.N,[],[]) ⟨a0,Y,KD _⟩ ?_;rintro⟨k,t,L,d⟩ w9 ⟨g,hL,hK⟩;refine .W Y<|.ab Y (λ c2=>?_) λ c2=>?_
 ·refine .q<|.s ?_;obtain⟨y,hy⟩:=ut ks k c2;obtain⟨q,hq,hr,hz⟩:=a6 k y hy;refine .r<|.ix 0 (H.E g.E) Y<|.lg 0 (H.E g.E) hy Y<|.al 0 g Y λ b4 _ c3 _ _=>.sa 0 c3 5 Y ((aX).one _) λ _ A _=>.j<|have b5:=(A.aj (E:=aX) 3 Y).gY bl;.gB [0,1,2,4,5] [0,1,3,4] A Y Y 7 (pl [0,1,2,1003,1004,1005,6] (.bar 7 .fin)) mixed F<|have D:=A.drew;have S1:=D.pk [0,1,2,4,5];.ld 1 S1 2 Y<|.e Y (λ _ s=>.dV gW Y s (i:=4) Y Y) S1<|.c 0 S1 (IH q y _ O (hg.MM hq) (hr.E D.E)) Y ?_;rintro _ _ ⟨p,e3,rfl,p2⟩;have a1:=(D.ay p2).nn;have S2:=a1.pk [0,1,2,4,5];refine⟨S2,?_⟩;refine .f Y (.bO aX p HN bl bl a1 Y λ v1 _ N _=>have S3:=N.pk [0,1,2,4,5];⟨S3,?_⟩);refine .f Y (.aD 3 HN N Y Y Y underlying34 (N.aj 7 Y) gv gv λ v2 _ l _=>have l:=l.pk [0,1,2,3,4,5,6];have S4:=l.pk [0,1,2,4,5];⟨S4,?_⟩);refine .z 1 S4 Y<|.bar Y Y Y (OpE.aG Vi l (i:=2) Y Y Y ((l.aj 3 Y).ae) Y λ _ a2 _=>have S5:=a2.pk [0,1,4,5];⟨S5,?_⟩);refine .fin<|.U Y ?_;have c4:=(Sat.order [4,6,0,1,2,3,5] bl a2.tail).aH.pk [0,1,2,3,4,5,6];obtain⟨a5,c5⟩:=c4.rW 2 (Q:=λ W=>LsC W c (L++[p]) (k+1)) (λ W R=>(R.bE 0 Y).snoc hq (R.bE 1 Y));have c6:=(Sat.order [1,2,3,4,0,5] bl c5.tail).aH.pk [0,1,2,3,4,5];exact aP (k+1,v2,L++[p],a5) ⟨c6.pk [0,1,2,3,4],a4e,O⟩
 refine .aq<|.h<|.lo 0 g 2 Y<|.sa 0 g 1 (vs:=[(.I x.op),(.string x.nm),(.string x.ar),(.string x.vl),(.string x.lb),(.bool x.fo),t]) Y (t8 ⟨Y,Y,Y,Y,Y,Y,(g.aj 3 Y).ae,trivial⟩) λ _ a3 _=>.j<|.ret ?_;show aE _ _ _ _ _ _;refine cx (vs:=[(.I x.op),(.string x.nm),(.string x.ar),(.string x.vl),(.string x.lb),(.bool x.fo),t]) Y Y gW (λ j u hu=>a3.cell (i:=1) Y hu) ?_;have a4:=a3.pk [3,4];obtain⟨c8,X,c9⟩:=(a4.aj 0 Y).sv;subst X;have T:k=I c.ks:=O
 obtain⟨e0,c7⟩:=(a4.pick [0,1] Y).rW 2 (Q:=λ W=>RdCd W c.ls (⟨x.op,x.nm,x.ar,x.vl,x.lb,x.fo,c8⟩:Cn)) (λ W R=>RdCd.ls hg (λ h4=>c1 (.inl (he.trans h4))) (λ h6=>c1 (.inr ⟨he.trans h6.1,h6.2⟩)) a3S (R.aj 0 Y) (hL.trans T) (R.bE 1 Y).all);exact⟨_,_,Y,c7⟩
def NM{c:Cd}{x:Cn}(w:World)(g:GdC true c)(h:RdCd w c x):t6 26 [aX.ag x] w λ r W=>∃ (y:Cn) (d:List Nat),r=aX.ag y/\Sat w [fK d (λ i=>RdCd i c.ls y)] W:=by
 suffices H:∀ n (c:Cd) (x:Cn) (w:World),c.sz=n->GdC true c->RdCd w c x->t6 26 [aX.ag x] w λ r W=>∃ (y:Cn) (d:List Nat),r=aX.ag y/\Sat w [fK d (λ i=>RdCd i c.ls y)] W from H _ c x w Y g h
 intro n;induction n using Nat.strongRecOn with
 |_ n l=>exact λ c x w j g h=>CG n (λ c x w k g h=>l c.sz k c x w Y g h) c x w j g h
def Af(c:Nat)(w:World):
  t6 221 [(.int .u8 c)] w λ r W=>r= .bool (wX c)/\Sat w [] W:=by
 refine cd func221 Y λ H=>.W Y<|.bM 2 ((((65<=c)/\(c<=90))\/((97<=c)/\(c<=122)))\/(c=95)) ?_ ?_
 ·refine .z 3 Y<|.B 5 Y (λ g=>?_) λ g=>?_
  ·refine .z 4 Y<|.B 9 Y (λ d=>?_) λ d=>?_
   ·refine .M Y (by simp[g,d])
   refine .z 3 Y<|.B 12 Y (λ i=>?_) λ i=>?_
   ·refine .z 5 Y<|.B 17 Y (λ k=>?_) λ k=>?_
    ·refine .M Y (by simp[g,d,i,k])
    refine .M Y (by simp[g,d,i,k])
   refine .M Y (by simp[g,d,i])
  refine .z 7 Y<|.B 12 Y (λ j=>?_) λ j=>?_
  ·refine .z 5 Y<|.B 17 Y (λ l=>?_) λ l=>?_
   ·refine .M Y (by simp[g,j,l])
   refine .M Y (by simp[g,j,l])
  refine .M Y (by simp[g,j])
 exact .ax Y Y ⟨If Value.bool a4v,H⟩
def IQ(c:Nat)(w:World):
  t6 222 [(.int .u8 c)] w λ r W=>r= .bool (HV c)/\Sat w [] W:=by
 refine cd func222 Y λ H=>.W Y<|.md [0] Y (λ K l W=>Weak ([(2,(.bool (decide ((((wX c)=true)\/((48<=c)/\(c<=57)))\/(c=45)))))]++K) l/\Sat w [] W) ?_ ?_
 ·refine .r<|.cp 1 H (Af c _) Y λ _ i=>.z 1 Y ?_;by_cases g:(wX c)=true
  ·exact .Gt 5 Y g<|.Z Y ⟨⟨If some (If Value.bool a0G),Y,trivial⟩,i⟩
  refine .Gf 5 Y a0N<|.z 3 Y<|.B 8 Y (λ d=>?_) λ d=>?_
  ·refine .z 5 Y<|.B 13 Y (λ j=>?_) λ j=>?_
   ·exact .Z Y ⟨⟨If some (If Value.bool a3D),Y,trivial⟩,i⟩
   exact .Z Y ⟨⟨If some (If Value.bool a3D),Y,trivial⟩,i⟩
  exact .Z Y ⟨⟨If some (If Value.bool (by simp[g,d])),Y,trivial⟩,i⟩
 rintro l p ⟨k,o⟩;exact .weaken _ k<|.ax Y Y ⟨If Value.bool a0E,o⟩
def Ag(c:Nat)(w:World):
  t6 147 [(.int .u8 c)] w λ r W=>r= .bool (wX c)/\Sat w [] W:=by
 refine cd func147 Y λ H=>.W Y<|.bM 2 (((c=95)\/((65<=c)/\(c<=90)))\/((97<=c)/\(c<=122))) ?_ ?_
 ·refine .z 3 Y<|.B 5 Y (λ g=>?_) λ g=>?_
  ·refine .M Y a0G
  refine .z 3 Y<|.B 8 Y (λ d=>?_) λ d=>?_
  ·refine .z 5 Y<|.B 13 Y (λ i=>?_) λ i=>?_
   ·refine .M Y (by simp[g,d,i])
   refine .z 3 Y<|.B 16 Y (λ j=>?_) λ j=>?_
   ·refine .M Y (by simp[g,d,i,j])
   refine .M Y (by simp[g,d,i,j])
  refine .z 8 Y<|.B 16 Y (λ k=>?_) λ k=>?_
  ·refine .M Y (by simp[g,d,k])
  refine .M Y (by simp[g,d,k])
 exact .ax Y Y ⟨If Value.bool a4v,H⟩
def NN(c:Nat)(w:World):
  t6 148 [(.int .u8 c)] w λ r W=>r= .bool (HV c)/\Sat w [] W:=by
 refine cd func148 Y λ H=>.W Y<|.md [0] Y (λ K l W=>Weak ([(2,(.bool (decide ((((wX c)=true)\/((48<=c)/\(c<=57)))\/(c=45)))))]++K) l/\Sat w [] W) ?_ ?_
 ·refine .r<|.cp 1 H (Ag c _) Y λ _ i=>.z 1 Y ?_;by_cases g:(wX c)=true
  ·exact .Gt 5 Y g<|.Z Y ⟨⟨If some (If Value.bool a0G),Y,trivial⟩,i⟩
  refine .Gf 5 Y a0N<|.z 3 Y<|.B 8 Y (λ d=>?_) λ d=>?_
  ·refine .z 5 Y<|.B 13 Y (λ j=>?_) λ j=>?_
   ·exact .Z Y ⟨⟨If some (If Value.bool a3D),Y,trivial⟩,i⟩
   exact .Z Y ⟨⟨If some (If Value.bool a3D),Y,trivial⟩,i⟩
  exact .Z Y ⟨⟨If some (If Value.bool (by simp[g,d])),Y,trivial⟩,i⟩
 rintro l p ⟨k,o⟩;exact .weaken _ k<|.ax Y Y ⟨If Value.bool a0E,o⟩
def dX(s:ByteArray)(w:World):
  t6 171 [(.string s)] w λ r W=>r= .bool (bF s)/\Sat w [] W:=by
 refine cd func171 Y λ o=>.W Y<|.s ?_;obtain⟨b0,j⟩:∃ b0,1<=s.size->s.data.toList[0]? =some b0:=by rcases XI s.size 1 with h|h;exact⟨0,λ g=>absurd g O⟩;exact⟨_,λ _=>py (show 0<I s.data.toList from h)⟩
 refine .md [0,2] Y (λ K R W=>Weak ([(17,(.bool (decide (((s.size<1)\/(32<s.size))\/((!(wX b0.toNat))=true)))))]++K) R/\Sat w [] W) ?_ ?_
 ·refine .r<|.a 1 Y (.br underlying9 Y)<|.z 2 Y<|.B 7 Y (λ u=>?_) λ u=>?_
  ·exact .Z Y ⟨⟨If some (If Value.bool a1H),Y,Y,trivial⟩,o⟩
  refine .a 1 Y (.br underlying9 Y)<|.z 3 Y<|.B 12 Y (λ D=>?_) λ D=>?_
  ·exact .Z Y ⟨⟨If some (If Value.bool a4j),Y,Y,trivial⟩,o⟩
  exact .a 1 Y (.eY underlying9 Y Y (j O))<|.cp 0 o (Af b0.toNat _) Y λ _ s1=>.a 0 Y (.cK Y)<|.Z Y ⟨⟨If some (If Value.bool a4j),Y,Y,trivial⟩,s1⟩
 rintro R a0 ⟨P,X⟩;refine .weaken _ P<|.ab Y (λ y=>?_) λ y=>?_
 ·refine .Z Y<|.ax Y Y ?_;have N:bF s=false:=by
   have g:=y;rcases XI s.size 1 with p|p
   ·exact wY p
   rcases XI 32 s.size with q|q
   ·exact tM q
   have h3:wX b0.toNat=false:=by
    rcases g with g|g
    ·omega
    simpa using g
   unfold bF;rw[rF (j p) h3,a06]
  exact⟨by rw[N],X⟩
 refine .p<|.s ?_;have H:1<=s.size/\s.size<=32/\wX b0.toNat=true:=by have g:=y;simp only[not_or]at g;exact⟨O,O,by simpa using g.2⟩
 have t:=j H.1;refine .r<|.a 1 Y (.br underlying9 Y)<|.V Y<|.lq [0,19] Y (α:=Nat) (λ k=>[(20,(.I k))]) (λ k W=>Sat w [] W/\(k<=s.size)/\(∀ (i:Nat) (d:UInt8),s.data.toList[i]? =some d->0<i->i<k->HV d.toNat=true)) (λ k=>s.size-k) 0 ⟨X,O,λ i d _ p q=>absurd q O⟩ ?_;rintro k a1 ⟨s3,hk,l⟩;refine .W Y<|.ab Y (λ T=>?_) λ T=>?_
 ·refine .q<|.W Y ?_;obtain⟨x,Q⟩:=ut s.data.toList k (show k<I s.data.toList from T);refine .r<|.a 2 Y (.eY underlying9 Y Y Q)<|.cp 0 s3 (IQ x.toNat _) Y λ _ s4=>.e Y (.cK Y)<|.j<|.cond Y (λ A=>?_) (λ A=>?_)
  ·exact .Z Y<|.ax Y Y ⟨by unfold bF;rw[wZ Q a3m,a06],s4⟩
  refine .k<|.U Y ?_;exact aP (k+1) ⟨s4,O,λ i d hd p q=>by
   by_cases E:i=k
   ·subst E;rw[Q]at hd;cases hd;simpa using A
   ·exact l i d hd p O⟩
 exact .aq<|.Z Y<|.ax Y Y ⟨by unfold bF;rw[tN t H.2.2 (λ i d hd hi=>l i d hd hi a2G),LW H.2.1]<;>rfl,s3⟩
def eI(s:ByteArray)(w:World):
  t6 87 [(.string s)] w λ r W=>r= .bool (bF s)/\Sat w [] W:=by
 refine cd func87 Y λ o=>.W Y<|.s ?_;obtain⟨b0,j⟩:∃ b0,1<=s.size->s.data.toList[0]? =some b0:=by rcases XI s.size 1 with h|h;exact⟨0,λ g=>absurd g O⟩;exact⟨_,λ _=>py (show 0<I s.data.toList from h)⟩
 refine .md [0,2] Y (λ K R W=>Weak ([(17,(.bool (decide (((s.size<1)\/(32<s.size))\/((!(wX b0.toNat))=true)))))]++K) R/\Sat w [] W) ?_ ?_
 ·refine .r<|.a 1 Y (.br underlying9 Y)<|.z 2 Y<|.B 7 Y (λ u=>?_) λ u=>?_
  ·exact .Z Y ⟨⟨If some (If Value.bool a1H),Y,Y,trivial⟩,o⟩
  refine .a 1 Y (.br underlying9 Y)<|.z 3 Y<|.B 12 Y (λ D=>?_) λ D=>?_
  ·exact .Z Y ⟨⟨If some (If Value.bool a4j),Y,Y,trivial⟩,o⟩
  exact .a 1 Y (.eY underlying9 Y Y (j O))<|.cp 0 o (Ag b0.toNat _) Y λ _ s1=>.a 0 Y (.cK Y)<|.Z Y ⟨⟨If some (If Value.bool a4j),Y,Y,trivial⟩,s1⟩
 rintro R a0 ⟨P,X⟩;refine .weaken _ P<|.ab Y (λ y=>?_) λ y=>?_
 ·refine .Z Y<|.ax Y Y ?_;have N:bF s=false:=by
   have g:=y;rcases XI s.size 1 with p|p
   ·exact wY p
   rcases XI 32 s.size with q|q
   ·exact tM q
   have h3:wX b0.toNat=false:=by
    rcases g with g|g
    ·omega
    simpa using g
   unfold bF;rw[rF (j p) h3,a06]
  exact⟨by rw[N],X⟩
 refine .p<|.s ?_;have H:1<=s.size/\s.size<=32/\wX b0.toNat=true:=by have g:=y;simp only[not_or]at g;exact⟨O,O,by simpa using g.2⟩
 have t:=j H.1;refine .U Y<|.l<|.lq [0] Y (α:=Nat) (λ k=>[(3,(.I k))]) (λ k W=>Sat w [] W/\(k<=s.size)/\(∀ (i:Nat) (d:UInt8),s.data.toList[i]? =some d->0<i->i<k->HV d.toNat=true)) (λ k=>s.size-k) 1 ⟨X,O,λ i d _ p q=>absurd q O⟩ ?_;rintro k a1 ⟨s3,hk,l⟩;refine .s<|.h<|.a 2 Y (.br underlying9 Y)<|.Z Y<|.ab Y (λ T=>?_) λ T=>?_
 ·refine .q<|.s ?_;obtain⟨x,Q⟩:=ut s.data.toList k (show k<I s.data.toList from T);refine .r<|.a 2 Y (.eY underlying9 Y Y Q)<|.cp 0 s3 (NN x.toNat _) Y λ _ s4=>.e Y (.cK Y)<|.j<|.cond Y (λ A=>?_) (λ A=>?_)
  ·exact .Z Y<|.ax Y Y ⟨by unfold bF;rw[wZ Q a3m,a06],s4⟩
  refine .k<|.U Y ?_;exact aP (k+1) ⟨s4,O,λ i d hd p q=>by
   by_cases E:i=k
   ·subst E;rw[Q]at hd;cases hd;simpa using A
   ·exact l i d hd p O⟩
 exact .aq<|.Z Y<|.ax Y Y ⟨by unfold bF;rw[tN t H.2.2 (λ i d hd hi=>l i d hd hi a2G),LW H.2.1]<;>rfl,s3⟩
