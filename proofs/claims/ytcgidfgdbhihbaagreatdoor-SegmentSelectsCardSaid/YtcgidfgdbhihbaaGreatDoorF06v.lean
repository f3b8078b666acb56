/-The walks of the functions of F06v,printed by our own program (kwgen.py) out of our descriptions (base.py). -/
import Derived.Test.YtcgidfgdbhihbaaGreatDoorF22c
import Derived.Test.YtcgidfgdbhihbaaGreatDoorF01
import Derived.Test.YtcgidfgdbhihbaaGreatDoorMst
open List renaming length→I,take→J,drop→ww
open ByteArray renaming empty→wt,mk→ws
set_option linter.all false
set_option maxRecDepth 100000
open List
open Go.Proofs.Tryz
namespace Go.Proofs.YtcgidfgdbhihbaaGreatDoor
open Go.RowKit Go.Kw
def sj{α:Type}{l:List α}{k:Nat}{x:α}(H:l[k]? =some x):∃ y,0<k->l[k-1]? =some y:=by
 have h:=(KC.1 H).1;exact⟨l[k-1]' O,λ _=>py _⟩
def ta{s:ByteArray}(h:jJ s=true):s.size<=120/\dA s=true/\(∀ u∈dh s.data.toList,31<u.r/\u.r≠127)/\∀ c∈s.data.toList,32<=c.toNat/\c.toNat≠127:=by
 unfold jJ at h;simp only[Xz,XS,Y6]at h;exact⟨h.1,h.2.1,h.2.2.1,h.2.2.2⟩
def fb(s:ByteArray)(w:World)(y:jJ s=true):
  t6 119 [(.string s)] w λ r W=>r= .I ((0:Nat):Int)/\Sat w [] W:=by
 obtain⟨N,l,d,-⟩:=ta y;have j:=Sat.start w;refine aa func119 Y Y<|.W Y<|.l<|.h<|.a 1 Y (.br underlying9 Y)<|.Z Y<|.ak Y (IN O)<|.h<|.cp 1 j (gI s _ O) Y λ _ A=>.e Y (.cK Y)<|.Z Y<|.ak Y a3I<|.p<|.h<|.b 1 Y (.mI underlying9 A Y λ o _ D=>.j<|.l<|.lq [0,14] Y (α:=Nat) (λ i=>[]) (λ i W=>Sat w [oh o s i] W/\(∀ u∈cv s.data.toList i,31<u.r/\u.r≠127)) (λ i=>s.size-i) 0 ⟨D,d⟩ ?_);rintro i E ⟨q,d⟩;refine .h<|.f Y (.qu (i:=0) q Y Y ?_ ?_)
 ·intro H;exact .W Y<|.ak Y Y<|.aq<|.Z Y<|.ax Y Y ⟨Y,q.pk []⟩
 intro K H p;have p:=p.nn;refine .W Y<|.cc Y Y<|.k<|.l<|.s ?_;have k:=d _ (by rw[iX H];exact Yp);dsimp only at k;refine .U Y<|.s<|.bM 23 (((dec (ww i s.data.toList)).1<=31)\/((dec (ww i s.data.toList)).1=127)) ?_ ?_
 ·refine .z 3 Y<|.B 20 Y (λ g=>?_) λ g=>?_
  ·refine .M Y a0G
  refine .M Y a0G
 exact .ak Y (IN O)<|.k ⟨i+(dec (ww i s.data.toList)).2,(wk Y),⟨p,λ u t=>d u (by rw[iX H];exact Ya _ t)⟩,(show(s.size-(i+(dec (ww i s.data.toList)).2))<(s.size-i)from a1E)⟩
def iT(s:ByteArray)(w:World)(u:jJ s=true):
  t6 150 [(.string s)] w λ r W=>r= .I ((0:Nat):Int)/\Sat w [] W:=by
 obtain⟨K,i,-,y⟩:=ta u;have H:=Sat.start w;refine aa func150 Y Y<|.W Y<|.h<|.a 1 Y (.br underlying9 Y)<|.Z Y<|.ak Y (IN O)<|.p<|.h<|.cp 1 H (oN s _ O) Y λ _ D=>.e Y (.cK Y)<|.j<|.ak Y a0V<|.p<|.h<|.b 1 Y (.iM underlying9 underlying58 underlying5 D Y O λ N _ j=>.ln 0 (j.qw 0 Y) Y<|.V Y<|.lq [0,12,13] Y (α:=Nat) (λ k=>[(14,(.I k))]) (λ k W=>Sat w j.L W) (λ k=>I (bL s)-k) 0 j ?_);rintro k E d;refine .W Y<|.ab Y (λ l=>?_) λ l=>?_
 ·refine .q<|.s ?_;obtain⟨x,o⟩:=ut (bL s) k l;obtain⟨c,p,q⟩:=Y7.1 (show x∈s.data.toList.map UInt8.toNat from a8 o);have A:=y c p;have t:=aB s;refine .r<|.ix 0 (d.qw 0 Y) Y<|.le 0 (d.qw 0 Y) o Y<|.W Y<|.bM 23 ((x<32)\/(x=127)) ?_ ?_
  ·refine .z 3 Y<|.B 20 Y (λ g=>?_) λ g=>?_
   ·refine .M Y a0G
   refine .M Y a0G
  exact .ak Y (IN O)<|.k<|.U Y<|aP (k+1) d
 exact .aq<|.Z Y<|.ax Y Y ⟨Y,d.pk []⟩
def Ii(s:ByteArray)(a b:Nat):(s.extract a b).data.toList=ww a (J b s.data.toList):=by
 rw[Lib.extract_data,drop_take]
def N7{s:ByteArray}(h:s.data.toList[0]? =some 124)(H:s.size<2):s=ws #[124]:=by
 have e:I s.data.toList=s.size:=rfl;cases s with
 |mk d=>
  cases d with
  |mk l=>
   match l,h,e with
   |[c],h,_=>simp at h;subst h;rfl
   |c::d::r,_,e=>simp at e;omega
def y4{s:List UInt8}{i:Nat}{b:UInt8}(d:s[i]? =some b)(h:b.toNat≠124):lL s (i+1)=lL s i:=by
 rw[lL,Xn];rintro⟨_,H⟩;rw[d]at H;cases H;exact h Y
def so{s:List UInt8}{i:Nat}{b:UInt8}(d:1<=i)(H:s[i]? =some b)(h:¬ b.toNat≠124):lL s (i+1)=(i+1,(lL s i).2++[(J i s).drop (lL s i).1]):=by
 have e:b=124:=a0u.1 (show b.toNat=(124:UInt8).toNat from Y3.1 h);rw[lL,Xp ⟨O,by rw[H,e]⟩]
def zG(s:ByteArray)(w:World)(t:uf s):
  t6 124 [(.string s)] w λ r W=>∃ (v:Value) (L:List ByteArray),r= .tuple #[v,.I ((0:Nat):Int)]/\L.map (·.data.toList)=(lL s.data.toList s.size).2/\I L<=120/\Sat w [cL v 9 aw L] W:=by
 have a0:=jE t.1;have p:1<=s.size:=(KC.1 t.2.1).1;have P:=Sat.start w;refine aa func124 Y Y<|.W Y<|.h<|.cp 1 P (fb s _ t.1) Y λ _ s1=>.Z Y<|.Z Y<|.ak Y Y<|.p<|.h<|.a 1 Y (.cN Y Y)<|.j<|.ab Y (λ A=>?_) λ A=>?_
 ·refine .Z Y<|.bK Y Y Y ?_;have Q:=A;subst Q;exact⟨_,[],Y,bl,KD _,(s1.pk []).aC 9 aw⟩
 refine .p<|.h<|.a 1 Y (.br underlying9 Y)<|.z 2 Y<|.Gf 19 Y (IN (λ h=>A (N7 t.2.1 h)))<|.a 1 Y (.eY underlying9 Y Y t.2.1)<|.z 3 Y<|.Gf 24 Y (IN (λ h=>h Y))<|.a 2 Y (.br underlying9 Y)<|.a 1 Y (.eY underlying9 Y Y t.2.2.1)<|.Z Y<|.ak Y (IN (λ h=>h Y))<|.k<|.W Y<|.V Y<|have s3:=s1.aC 9 aw;.lp [0,4] Y (α:=Nat×Value×List ByteArray) (λ(i,o,L)=>[(5,o),(6,(.I ((lL s.data.toList i).1:Nat))),(7,(.I i))]) (λ(i,o,L) W=>Sat w [cL o 9 aw L] W/\(1<=i)/\(L.map (·.data.toList)=(lL s.data.toList i).2)/\(i<=s.size)/\(I L<=i)) (λ(i,o,L)=>s.size-i) (1,.N,[]) ⟨Y,If some (If (Value.I) a4B),Y,Y,Y,trivial⟩ ⟨s3,KM _,a4B,p,KD _⟩ ?_;rintro⟨i,o,L⟩ a4 ⟨u,K,D,a3,a1⟩;refine .s<|.h<|.a 2 Y (.br underlying9 Y)<|.Z Y<|.ab Y (λ T=>?_) λ T=>?_
 ·refine .q<|.s<|.s ?_;obtain⟨b,g⟩:=ut s.data.toList i (show i<I s.data.toList from T);refine .r<|.a 2 Y (.eY underlying9 Y Y g)<|.Z Y<|.ab Y (λ d=>?_) λ d=>?_
  ·exact .aq<|.U Y ⟨(i+1,o,L),⟨Y,If (λ q:Nat×List (List UInt8)=>some (Value.I (q.1:Int))) (y4 g d).symm,Y,Y,Y,trivial⟩,⟨u,O,by rw[y4 g d];exact D,O,O⟩,wv⟩
  exact .p<|.s<|have a2:=De s.data.toList i;have E:=d;.U Y<|.ak Y (IN (λ h=>t.2.2.2.1 i K (by rw[g,show b=124 from a0u.1 (Y3.1 E)]) h.symm))<|.k<|.h<|.a 4 Y (.eF (l:=(lL s.data.toList i).1) (h:=i) underlying9 Y ⟨_,Y⟩ ⟨_,Y⟩ O O)<|.f Y (.bS aw (s.extract ((lL s.data.toList i).1) i) bI Y u Y λ v1 _ s5 _=>.ap 0 s5 0 (s5.aj 1 Y) Y λ v2 _ s6 _=>.Z Y<|.U Y<|.U Y ⟨(i+1,v2,L++[(s.extract ((lL s.data.toList i).1) i)]),⟨Y,If (λ q:Nat×List (List UInt8)=>some (Value.I (q.1:Int))) (so K g d).symm,Y,Y,Y,trivial⟩,⟨s6.pk [0],O,by rw[so K g d,Y0,D];exact If _ (If (λ q=>[q]) (Ii s _ i)),O,UC⟩,wv⟩)
 refine .aq<|.s<|.s ?_;have H:L.map (·.data.toList)=(lL s.data.toList s.size).2:=by rw[show s.size=i by omega];exact D
 refine .U Y<|.l<|.lq [0,4,5,6,7] Y (α:=Nat) (λ j=>[(8,(.I j))]) (λ j W=>Sat w u.L W/\(1<=j)) (λ j=>I L-j) 1 ⟨u,KM _⟩ ?_;rintro j w5 ⟨R,hj⟩;refine .s<|.h<|.ln 2 (R.aj 0 Y) Y<|.Z Y<|.ab Y (λ X=>?_) λ X=>?_
 ·refine .q<|.s ?_;obtain⟨y,hy⟩:=ut L (j-1) O;obtain⟨x,hx⟩:=ut L j X;have N:SLt y x:=t.2.2.2.2 (j-1) y.data.toList x.data.toList (by rw[<-H,XF,hy]<;>rfl) (by rw[<-H,XF,show j-1+1=j by omega,hx]<;>rfl);exact .dk [0] R Y (pl [0,1,2,3,4,5,6,7,8,9] .fin) λ s8 k=>.ix 3 k (·.aj 0 Y) Y<|.le 0 k (·.aj 0 Y) hy Y<|.ix 2 k (·.aj 0 Y) Y<|.le 0 k (·.aj 0 Y) hx Y<|.e Y (λ _ hS=>.vD Y Y) k<|.fin<|.ak Y (IN (λ h=>h N))<|.k<|.U Y<|aP (j+1) ⟨s8,O⟩
 exact .aq<|.Z Y<|.bK Y Y Y ⟨_,L,Y,H,O,R.pk [0]⟩
def Ci(s:ByteArray)(w:World)(t:uf s):
  t6 149 [(.string s)] w λ r W=>∃ v,r= .tuple #[v,.I ((0:Nat):Int)]/\Sat w [] W:=by
 have T:=jE t.1;have p:1<=s.size:=(KC.1 t.2.1).1;have N:=Sat.start w;refine aa func149 Y Y<|.W Y<|.h<|.cp 1 N (iT s _ t.1) Y λ _ s1=>.Z Y<|.Z Y<|.ak Y Y<|.k<|.h<|.a 1 Y (.br underlying9 Y)<|.W Y<|.h<|.z 3 Y<|.Gf 19 Y (IN O)<|.a 1 Y (.eY underlying9 Y Y t.2.1)<|.z 3 Y<|.Gf 24 Y (IN (λ h=>h Y))<|.a 3 Y (.eY underlying9 Y Y t.2.2.1)<|.Z Y<|.ak Y (IN (λ h=>h Y))<|.k<|.Z Y<|.W Y<|.V Y<|have s2:=s1.aC 9 aw;.lp [0,4,5] Y (α:=Nat×Value×List ByteArray) (λ(i,o,L)=>[(6,o),(7,(.I ((lL s.data.toList i).1:Nat))),(8,(.I i))]) (λ(i,o,L) W=>Sat w [cL o 9 aw L] W/\(1<=i)/\(L.map (·.data.toList)=(lL s.data.toList i).2)/\(i<=s.size)/\(I L<=i)) (λ(i,o,L)=>s.size-i) (1,.N,[]) ⟨Y,If some (If (Value.I) a4B),Y,Y,Y,Y,trivial⟩ ⟨s2,KM _,a4B,p,KD _⟩ ?_;rintro⟨i,o,L⟩ a3 ⟨u,E,A,a2,a0⟩;refine .s<|.Z Y<|.ab Y (λ Q=>?_) λ Q=>?_
 ·refine .q<|.s<|.s ?_;obtain⟨b,H⟩:=ut s.data.toList i (show i<I s.data.toList from Q);refine .r<|.a 2 Y (.eY underlying9 Y Y H)<|.Z Y<|.ab Y (λ d=>?_) λ d=>?_
  ·exact .aq<|.U Y ⟨(i+1,o,L),⟨Y,If (λ q:Nat×List (List UInt8)=>some (Value.I (q.1:Int))) (y4 H d).symm,Y,Y,Y,Y,trivial⟩,⟨u,O,by rw[y4 H d];exact A,O,O⟩,wv⟩
  exact .p<|.s<|have a1:=De s.data.toList i;have D:=d;.U Y<|.ak Y (IN (λ h=>t.2.2.2.1 i E (by rw[H,show b=124 from a0u.1 (Y3.1 D)]) h.symm))<|.k<|.h<|.a 4 Y (.eF (l:=(lL s.data.toList i).1) (h:=i) underlying9 Y ⟨_,Y⟩ ⟨_,Y⟩ O O)<|.f Y (.bS aw (s.extract ((lL s.data.toList i).1) i) bI Y u Y λ v1 _ s4 _=>.ap 0 s4 0 (s4.aj 1 Y) Y λ v2 _ s5 _=>.Z Y<|.U Y<|.U Y ⟨(i+1,v2,L++[(s.extract ((lL s.data.toList i).1) i)]),⟨Y,If (λ q:Nat×List (List UInt8)=>some (Value.I (q.1:Int))) (so E H d).symm,Y,Y,Y,Y,trivial⟩,⟨s5.pk [0],O,by rw[so E H d,Y0,A];exact If _ (If (λ q=>[q]) (Ii s _ i)),O,UC⟩,wv⟩)
 refine .aq<|.s<|.s ?_;have k:L.map (·.data.toList)=(lL s.data.toList s.size).2:=by rw[show s.size=i by omega];exact A
 refine .U Y<|.l<|.lq [0,4,5,6,7,8] Y (α:=Nat) (λ j=>[(9,(.I j))]) (λ j W=>Sat w u.L W/\(1<=j)) (λ j=>I L-j) 1 ⟨u,KM _⟩ ?_;rintro j w5 ⟨P,hj⟩;refine .s<|.h<|.ln 2 (P.aj 0 Y) Y<|.Z Y<|.ab Y (λ R=>?_) λ R=>?_
 ·refine .q<|.s ?_;obtain⟨y,hy⟩:=ut L (j-1) O;obtain⟨x,X⟩:=ut L j R;have K:SLt y x:=t.2.2.2.2 (j-1) y.data.toList x.data.toList (by rw[<-k,XF,hy]<;>rfl) (by rw[<-k,XF,show j-1+1=j by omega,X]<;>rfl);exact .dk [0] P Y (pl [0,1,2,3,4,5,6,7,8,9] .fin) λ s7 g=>.ix 3 g (·.aj 0 Y) Y<|.le 0 g (·.aj 0 Y) hy Y<|.ix 2 g (·.aj 0 Y) Y<|.le 0 g (·.aj 0 Y) X Y<|.e Y (λ _ hS=>.vD Y Y) g<|.fin<|.ak Y (IN (λ h=>h K))<|.k<|.U Y<|aP (j+1) ⟨s7,O⟩
 exact .aq<|.Z Y<|.bK Y Y Y ⟨_,Y,P.pk []⟩
def G8(a:ByteArray×Bool)(v:ByteArray)(w:World)(h:okV a v):
  t6 182 [((cj).ag a),(.string v)] w λ r W=>r= .I ((0:Nat):Int)/\Sat w [] W:=by
 refine cd func182 Y λ d=>.h<|.bx 0 d Y λ q _ g _ _=>.W Y<|.h<|.ld 1 g 0 Y<|.e Y (.cK Y)<|.j<|.cond Y (λ i=>?_) (λ i=>?_)
 ·exact .h<|.cp 1 g (fb v _ h.val) Y λ _ l=>.Z Y<|.ax Y Y ⟨Y,l.pk []⟩
 refine .k<|.h<|.c 1 (zG v _ (h.2 (by simpa using i))) Y ?_;rintro _ _ ⟨k,P,rfl,j,H,p⟩;have o:=g.ay p;exact .Z Y<|.Z Y<|.ax Y Y ⟨Y,o.pk []⟩
def Cj(a:ByteArray×Bool)(v:ByteArray)(w:World)(h:okV a v):
  t6 88 [((cj).ag a),(.string v)] w λ r W=>r= .I ((0:Nat):Int)/\Sat w [] W:=by
 refine cd func88 Y λ H=>.h<|.bx 0 H Y λ k _ d _ _=>.W Y<|.h<|.ld 1 d 0 Y<|.j<|.cond Y (λ g=>?_) (λ g=>?_)
 ·refine .h<|.c 1 (Ci v _ (h.2 a0N)) Y ?_;rintro _ _ ⟨P,rfl,p⟩;have i:=d.ay p;exact .Z Y<|.Z Y<|.ax Y Y ⟨Y,i.pk []⟩
 exact .k<|.h<|.cp 1 d (iT v _ h.val) Y λ _ j=>.Z Y<|.ax Y Y ⟨Y,j.pk []⟩
def rB(v:Value)(l:List Pr)(w:World)(g:RdL w v aV l)(h:okPs l):
  t6 184 [v] w λ r W=>r= .I ((0:Nat):Int)/\Sat w [] W:=by
 refine cd func184 Y λ H=>.W Y<|.s<|have R:=h.1;.r<|.ln 1 (g.E H.E) Y<|.Z Y<|.ak Y (IN (by have:=h.1;omega))<|.p<|.h<|.ln 1 (g.E H.E) Y<|.V Y<|.lq [0,9,10] Y (α:=Nat) (λ k=>[(11,(.I k))]) (λ k W=>Sat w [] W) (λ k=>I l-k) 0 H ?_;rintro k w1 j;refine .W Y<|.ab Y (λ u=>?_) λ u=>?_
 ·refine .q<|.s ?_;obtain⟨x,i⟩:=ut l k u;have o:=h.2.1 x (a8 i);refine .r<|.ix 1 (g.E j.E) Y<|.lg 0 (g.E j.E) i Y<|.al 0 j Y λ b1 _ T _ _=>.sa 1 T 0 Y ((aV).one _) λ _ E _=>.j<|.s<|.l<|.h<|.ld 1 E 0 Y<|.cq 0 E (dX x.1 _) Y λ _ N=>.e Y (.cK Y)<|.Z Y<|.ak Y (by simp[o.1])<|.s ?_;obtain⟨y,D⟩:=sj i;refine .md [0,3,4,9,10,11] Y (λ K t W=>Weak ([(21,(.bool (decide ((0<k)/\(¬ SLt y.1 x.1)))))]++K) t/\Sat w N.L W) ?_ ?_
  ·refine .dk [0] N Y (pl [0,1,2,3,4,5,6,7,8,9,10,11,12,13] .fin) λ P d=>.z 3 d Y<|.B 24 Y (λ p=>?_) λ p=>?_
   ·exact .ix 3 d (g.E ·.E) Y<|.fl 0 d (g.E ·.E) Y<|.lf 0 d (g.E ·.E) (D O) Y<|.ld 1 d 0 Y<|.a 0 d Y (λ _ s=>.vD Y Y)<|.Z d Y ⟨⟨If some (If Value.bool a0P),Y,Y,Y,Y,Y,Y,trivial⟩,P⟩
   exact .Z d Y ⟨⟨If some (If Value.bool a0P),Y,Y,Y,Y,Y,Y,trivial⟩,P⟩
  rintro t w5 ⟨q,Q⟩;exact .weaken _ q<|.ak Y (IN (λ A=>A.2 (h.2.2 (k-1) y x (D A.1) a4f)))<|.k<|.h<|.ld 1 Q 0 Y<|.cp 0 Q (fb x.2 _ o.2) Y λ _ X=>.Z Y<|.Z Y<|.ak Y Y<|.k<|.U Y<|aP (k+1) (X.pk [])
 exact .aq<|.Z Y<|.ax Y Y ⟨Y,j.pk []⟩
def wC(v:Value)(l:List Pr)(w:World)(g:RdL w v aV l)(h:okPs l):
  t6 89 [v] w λ r W=>r= .I ((0:Nat):Int)/\Sat w [] W:=by
 refine cd func89 Y λ H=>.W Y<|.s<|have R:=h.1;.r<|.ln 1 (g.E H.E) Y<|.Z Y<|.ak Y (IN (by have:=h.1;omega))<|.p<|.h<|.ln 1 (g.E H.E) Y<|.V Y<|.lq [0,9,10] Y (α:=Nat) (λ k=>[(11,(.I k))]) (λ k W=>Sat w [] W) (λ k=>I l-k) 0 H ?_;rintro k w1 j;refine .W Y<|.ab Y (λ u=>?_) λ u=>?_
 ·refine .q<|.s ?_;obtain⟨x,i⟩:=ut l k u;have o:=h.2.1 x (a8 i);refine .r<|.ix 1 (g.E j.E) Y<|.lg 0 (g.E j.E) i Y<|.al 0 j Y λ b1 _ T _ _=>.sa 1 T 0 Y ((aV).one _) λ _ E _=>.j<|.s<|.l<|.h<|.ld 1 E 0 Y<|.cq 0 E (eI x.1 _) Y λ _ N=>.e Y (.cK Y)<|.Z Y<|.ak Y (by simp[o.1])<|.s ?_;obtain⟨y,D⟩:=sj i;refine .md [0,3,4,9,10,11] Y (λ K t W=>Weak ([(21,(.bool (decide ((0<k)/\(¬ SLt y.1 x.1)))))]++K) t/\Sat w N.L W) ?_ ?_
  ·refine .dk [0] N Y (pl [0,1,2,3,4,5,6,7,8,9,10,11,12,13] .fin) λ P d=>.z 3 d Y<|.B 24 Y (λ p=>?_) λ p=>?_
   ·exact .ix 3 d (g.E ·.E) Y<|.fl 0 d (g.E ·.E) Y<|.lf 0 d (g.E ·.E) (D O) Y<|.ld 1 d 0 Y<|.a 0 d Y (λ _ s=>.vD Y Y)<|.Z d Y ⟨⟨If some (If Value.bool a0P),Y,Y,Y,Y,Y,Y,trivial⟩,P⟩
   exact .Z d Y ⟨⟨If some (If Value.bool a0P),Y,Y,Y,Y,Y,Y,trivial⟩,P⟩
  rintro t w5 ⟨q,Q⟩;exact .weaken _ q<|.ak Y (IN (λ A=>A.2 (h.2.2 (k-1) y x (D A.1) a4f)))<|.k<|.h<|.ld 1 Q 0 Y<|.cp 0 Q (iT x.2 _ o.2) Y λ _ X=>.Z Y<|.Z Y<|.ak Y Y<|.k<|.U Y<|aP (k+1) (X.pk [])
 exact .aq<|.Z Y<|.ax Y Y ⟨Y,j.pk []⟩
def iO{a b:List Pr}{k:Nat}{p q:Pr}(g:a[k]? =some p)(i:b[k]? =some q):kW (ww k a) (ww k b)=if fw p.1 q.1≠0 then fw p.1 q.1 else if fw p.2 q.2≠0 then fw p.2 q.2 else kW (ww (k+1) a) (ww (k+1) b):=by
 obtain⟨H,rfl⟩:=KC.1 g;obtain⟨d,rfl⟩:=KC.1 i;rw[Yl H,Yl d,kW]
def tc{a b:List Pr}{k:Nat}(h1:k<=I a)(h2:k<=I b)(h:¬ (k<I a/\k<I b)):kW (ww k a) (ww k b)=eM (I a:Int) (I b:Int):=by
 unfold eM;rcases XI k (I a) with q|q
 ·have e:k=I b:=O
  rw[Yl q,show ww k b=[]from Yo O,kW,Xn O,Xp O]
 rw[Yo q];rcases XI k (I b) with Q|Q
 ·rw[Yl Q,kW,Xp O]
 rw[Yo Q,kW,Xn O,Xn O]
def y5{a b:ByteArray}(h:a≠b):fw a b≠0:=λ H=>h (Hl H)
def y6(a b:Int)(w:World):
  t6 233 [(.I a),(.I b)] w λ r W=>r= .I (eM a b)/\Sat w [] W:=by
 refine cd func233 Y λ H=>.W Y<|.l<|.h<|.a 2 Y (.lss Y Y)<|.Z Y<|.ab Y (λ d=>?_) λ d=>?_
 ·exact .Z Y<|.ax Y Y ⟨by unfold eM;rw[Xp d],H.pk []⟩
 refine .h<|.a 2 Y (.gtr Y Y)<|.Z Y<|.ab Y (λ g=>?_) λ g=>?_
 ·exact .Z Y<|.ax Y Y ⟨by unfold eM;rw[Xn d,Xp g]<;>rfl,H.pk []⟩
 exact .k<|.Z Y<|.ax Y Y ⟨by unfold eM;rw[Xn d,Xn g]<;>rfl,H.pk []⟩
def y7(a b:ByteArray)(w:World):
  t6 234 [(.string a),(.string b)] w λ r W=>r= .I (fw a b)/\Sat w [] W:=by
 refine cd func234 Y λ H=>.W Y<|.l<|.h<|.a 2 Y (.zp Y Y)<|.Z Y<|.ab Y (λ d=>?_) λ d=>?_
 ·exact .Z Y<|.ax Y Y ⟨by unfold fw;rw[Xp d],H.pk []⟩
 refine .h<|.a 2 Y (.Mw Y Y)<|.Z Y<|.ab Y (λ g=>?_) λ g=>?_
 ·exact .Z Y<|.ax Y Y ⟨a4G,H.pk []⟩
 exact .k<|.Z Y<|.ax Y Y ⟨a4H,H.pk []⟩
def td(a b:ByteArray)(w:World):
  t6 146 [(.string a),(.string b)] w λ r W=>r= .I (fw a b)/\Sat w [] W:=by
 refine cd func146 Y λ H=>.W Y<|.l<|.h<|.a 2 Y (.zp Y Y)<|.Z Y<|.ab Y (λ d=>?_) λ d=>?_
 ·exact .Z Y<|.ax Y Y ⟨by unfold fw;rw[Xp d],H.pk []⟩
 refine .h<|.a 2 Y (.Mw Y Y)<|.Z Y<|.ab Y (λ g=>?_) λ g=>?_
 ·exact .Z Y<|.ax Y Y ⟨a4G,H.pk []⟩
 exact .k<|.Z Y<|.ax Y Y ⟨a4H,H.pk []⟩
def N8(X vb:Value)(a b:List Pr)(w:World)(H:RdL w X aV a)(d:RdL w vb aV b)(a0:I a<=1000)(a1:I b<=1000):
  t6 235 [X,vb] w λ r W=>r= .I (kW a b)/\Sat w [] W:=by
 refine cd func235 Y λ N=>.W Y<|.V Y<|.lq [0,1] Y (α:=Nat) (λ k=>[(5,(.I k))]) (λ k W=>Sat w [] W/\(k<=I a)/\(k<=I b)/\(kW a b=kW (ww k a) (ww k b))) (λ k=>I a-k) 0 ⟨N,KD _,KD _,Y⟩ ?_;rintro k w1 ⟨j,E,K,y⟩;refine .s<|.s<|.bM 17 ((k<I a)/\(k<I b)) ?_ ?_
 ·refine .ln 2 (H.E j.E) Y<|.z 2 Y<|.B 12 Y (λ D=>?_) λ D=>?_
  ·refine .ln 2 (d.E j.E) Y<|.M Y a3K
  refine .M Y a3K
 refine .ab Y (λ t=>?_) λ t=>?_
 ·refine .q<|.s<|.s ?_;obtain⟨p,l⟩:=ut a k t.1;obtain⟨q,o⟩:=ut b k t.2;refine .dk [] j Y (pl [0,1,2,3,4,5,6,7,8,9,1010,11] .fin) λ s2 g=>.ix 2 g (H.E ·.E) Y<|.fl 0 g (H.E ·.E) Y<|.lf 0 g (H.E ·.E) l Y<|.ix 2 g (d.E ·.E) Y<|.fl 0 g (d.E ·.E) Y<|.lf 0 g (d.E ·.E) o Y<|.c 0 g (y7 p.1 q.1 _) Y ?_;rintro _ _ ⟨rfl,p1⟩;have P:=s2.ay p1;have R:=P.pk [];refine⟨R,?_⟩;refine .Z R Y<|.h<|.a 1 Y (.neq Y Y)<|.j<|.ab Y (λ u=>?_) λ u=>?_
  ·exact .Z Y<|.ax Y Y ⟨by rw[y,iO l o,Xp u],P.pk []⟩
  refine .p<|.dk [] P Y (pl [0,1,2,3,4,5,6,7,8,9,1010,11] .fin) λ s5 i=>.ix 2 i (H.E ·.E) Y<|.fl 0 i (H.E ·.E) Y<|.lf 0 i (H.E ·.E) l Y<|.ix 2 i (d.E ·.E) Y<|.fl 0 i (d.E ·.E) Y<|.lf 0 i (d.E ·.E) o Y<|.c 0 i (y7 p.2 q.2 _) Y ?_;rintro _ _ ⟨rfl,p2⟩;have Q:=s5.ay p2;have T:=Q.pk [];refine⟨T,?_⟩;refine .Z T Y<|.h<|.a 1 Y (.neq Y Y)<|.j<|.ab Y (λ A=>?_) λ A=>?_
  ·exact .Z Y<|.ax Y Y ⟨by rw[y,iO l o,Xn u,Xp A],Q.pk []⟩
  exact .k<|.U Y<|aP (k+1) ⟨Q,O,O,by rw[y,iO l o,Xn u,Xn A]⟩
 exact .aq<|.h<|.ln 1 (H.E j.E) Y<|.ln 1 (d.E j.E) Y<|.cp 0 j (y6 ((I a:Nat):Int) ((I b:Nat):Int) _) Y λ _ s8=>.Z Y<|.ax Y Y ⟨by rw[y,tc E K t],s8.pk []⟩
def N9(x y:Iv)(w:World)(q:RdL w x.sv.val aV x.ps)(t:RdL w y.sv.val aV y.ps)(H:I x.ps<=1000)(o:I y.ps<=1000):
  t6 186 [((aL).ag x),((aL).ag y)] w λ r W=>r= .I (fk x y)/\Sat w [] W:=by
 have p:=Sat.start w;refine aa func186 Y Y<|.h<|.bx 0 p Y λ E _ A _ _=>.bx 0 A Y λ K _ u _ _=>.W Y<|.h<|.ld 1 u 0 Y<|.ld 1 u 1 Y<|.cq 0 u (y6 x.b y.b _) Y λ _ j=>.Z Y<|.h<|.a 1 Y (.neq Y Y)<|.j<|.ab Y (λ g=>?_) λ g=>?_
 ·exact .Z Y<|.ax Y Y ⟨by unfold fk;rw[Xp g],j.pk []⟩
 refine .p<|.h<|.ld 1 j 1 Y<|.ld 1 j 0 Y<|.cp 0 j (y6 y.e x.e _) Y λ _ k=>.Z Y<|.h<|.a 1 Y (.neq Y Y)<|.j<|.ab Y (λ i=>?_) λ i=>?_
 ·exact .Z Y<|.ax Y Y ⟨by unfold fk;rw[Xn g,Xp i],k.pk []⟩
 refine .p<|.h<|.ld 1 k 0 Y<|.ld 1 k 1 Y<|.cp 0 k (y7 x.nm y.nm _) Y λ _ d=>.Z Y<|.h<|.a 1 Y (.neq Y Y)<|.j<|.ab Y (λ l=>?_) λ l=>?_
 ·exact .Z Y<|.ax Y Y ⟨by unfold fk;rw[Xn g,Xn i,Xp l],d.pk []⟩
 exact .k<|.h<|.ld 1 d 0 Y<|.ld 1 d 1 Y<|.cq 0 d (N8 _ _ x.ps y.ps _ (q.E d.E) (t.E d.E) H o) Y λ _ D=>.Z Y<|.ax Y Y ⟨by unfold fk;rw[Xn g,Xn i,Xn l],D.pk []⟩
def tf(b:Bool)(w:World):
  t6 145 [(.bool b)] w λ r W=>r= .I (if b then-1 else 1)/\Sat w [] W:=by
 refine cd func145 Y λ H=>.W Y<|.Z Y<|.cond Y (λ d=>?_) (λ d=>?_)
 ·exact .Z Y<|.ax Y Y ⟨by rw[d]<;>rfl,H.pk []⟩
 exact .k<|.Z Y<|.ax Y Y ⟨by rw[d]<;>rfl,H.pk []⟩
def zH(x y:Iv)(w:World)(H:RdL w x.sv.val aV x.ps)(d:RdL w y.sv.val aV y.ps)(a4:I x.ps<=1000)(a5:I y.ps<=1000):
  t6 86 [((aL).ag x),((aL).ag y)] w λ r w'=>r= .I (fk x y)/\Sat w [] w':=by
 have a0:=Sat.start w;refine aa func86 Y Y<|.h<|.bx 0 a0 Y λ b1 _ s1 _ _=>.bx 0 s1 Y λ b2 _ g _ _=>.W Y<|.l<|.h<|.ld 1 g 0 Y<|.ld 1 g 1 Y<|.e Y (.neq Y Y)<|.Z Y<|.ab Y (λ c1=>?_) λ c1=>?_
 ·exact .h<|.ld 1 g 0 Y<|.ld 1 g 1 Y<|.e Y (.lss Y Y)<|.cq 0 g (tf (decide ((x.b:Int)<(y.b:Int))) _) Y λ _ s3=>.Z Y<|.ax Y Y ⟨by unfold fk;rw[Xp (show eM x.b y.b≠0 by unfold eM;omega)];unfold eM;simp only[XS];split;rfl;rw[Xp O],s3.pk []⟩
 refine .h<|.ld 1 g 0 Y<|.ld 1 g 1 Y<|.e Y (.neq Y Y)<|.Z Y<|.ab Y (λ c2=>?_) λ c2=>?_
 ·exact .h<|.ld 1 g 0 Y<|.ld 1 g 1 Y<|.e Y (.gtr Y Y)<|.cq 0 g (tf (decide ((y.e:Int)<(x.e:Int))) _) Y λ _ s5=>.Z Y<|.ax Y Y ⟨by unfold fk;rw[Xn (show¬ eM x.b y.b≠0 by unfold eM;omega),Xp (show eM y.e x.e≠0 by unfold eM;omega)];unfold eM;simp only[XS];split;rfl;rw[Xp O],s5.pk []⟩
 refine .s ?_;have A:fk x y=if fw x.nm y.nm≠0 then fw x.nm y.nm else kW x.ps y.ps:=by unfold fk;rw[Xn (show¬ eM x.b y.b≠0 by unfold eM;omega),Xn (show¬ eM y.e x.e≠0 by unfold eM;omega)]
 refine .r<|.ld 1 g 0 Y<|.ld 1 g 1 Y<|.e Y (.ej Y Y)<|.Z Y<|.ab Y (λ c3=>?_) λ c3=>?_
 ·exact .h<|.ld 1 g 0 Y<|.ld 1 g 1 Y<|.cq 0 g (td x.nm y.nm _) Y λ _ s7=>.Z Y<|.ax Y Y ⟨by rw[A,Xp (y5 c3)],s7.pk []⟩
 refine .p<|.s ?_;have j:fk x y=kW x.ps y.ps:=by rw[A,Xn (by rw[show x.nm=y.nm by simpa using c3,mZ];simp)]
 refine .U Y<|.l<|.lq [0,1,2,3] Y (α:=Nat) (λ k=>[(5,(.I k))]) (λ k w'=>Sat w g.L w'/\(k<=I x.ps)/\(k<=I y.ps)/\(kW x.ps y.ps=kW (ww k x.ps) (ww k y.ps))) (λ k=>I x.ps-k) 0 ⟨g,KD _,KD _,Y⟩ ?_;rintro k w6 ⟨i,P,Q,N⟩;refine .s<|.s<|.bM 52 ((k<I x.ps)/\(k<I y.ps)) ?_ ?_
 ·refine .ld 2 i 0 Y<|.ln 0 (H.E i.E) Y<|.z 2 Y<|.B 46 Y (λ g1=>?_) λ g1=>?_
  ·refine .ld 2 i 1 Y<|.ln 0 (d.E i.E) Y<|.M Y sp
  refine .M Y sp
 refine .ab Y (λ K=>?_) λ K=>?_
 ·refine .q<|.s<|.s ?_;obtain⟨p,D⟩:=ut x.ps k K.1;obtain⟨q,E⟩:=ut y.ps k K.2;refine .dk [0,1] i Y (pl [0,1,2,3,4,5,6,7,8,9,10,11,12] .fin) λ R l=>.ld 1 l 0 Y<|.ix 1 l (H.E ·.E) Y<|.fl 0 l (H.E ·.E) Y<|.lf 0 l (H.E ·.E) D Y<|.ld 1 l 1 Y<|.ix 1 l (d.E ·.E) Y<|.fl 0 l (d.E ·.E) Y<|.lf 0 l (d.E ·.E) E Y<|.e Y (λ _ s=>.ej Y Y) l<|.fin<|.ab Y (λ c5=>?_) λ c5=>?_
  ·refine .s<|.dk [0,1] R Y (pl [0,1,2,3,4,5,6,7,8,9,10,11,1012,13] .fin) λ a1 o=>.ld 1 o 0 Y<|.ix 1 o (H.E ·.E) Y<|.fl 0 o (H.E ·.E) Y<|.lf 0 o (H.E ·.E) D Y<|.ld 1 o 1 Y<|.ix 1 o (d.E ·.E) Y<|.fl 0 o (d.E ·.E) Y<|.lf 0 o (d.E ·.E) E Y<|.c 0 o (td p.1 q.1 _) Y ?_;rintro _ _ ⟨rfl,p4⟩;have T:=(a1.ay p4).nn;have S3:=T.pk [0,1];refine⟨S3,?_⟩;exact .Z S3 Y<|.ax Y Y ⟨by rw[j,N,iO D E,Xp (y5 c5)],T.pk []⟩
  refine .p<|.dk [0,1] R Y (pl [0,1,2,3,4,5,6,7,8,9,10,11,12] .fin) λ W t=>.ld 1 t 0 Y<|.ix 1 t (H.E ·.E) Y<|.fl 0 t (H.E ·.E) Y<|.lf 0 t (H.E ·.E) D Y<|.ld 1 t 1 Y<|.ix 1 t (d.E ·.E) Y<|.fl 0 t (d.E ·.E) Y<|.lf 0 t (d.E ·.E) E Y<|.e Y (λ _ s=>.ej Y Y) t<|.fin<|.ab Y (λ c6=>?_) λ c6=>?_
  ·refine .s<|.dk [0,1] W Y (pl [0,1,2,3,4,5,6,7,8,9,10,11,1012,13] .fin) λ a2 u=>.ld 1 u 0 Y<|.ix 1 u (H.E ·.E) Y<|.fl 0 u (H.E ·.E) Y<|.lf 0 u (H.E ·.E) D Y<|.ld 1 u 1 Y<|.ix 1 u (d.E ·.E) Y<|.fl 0 u (d.E ·.E) Y<|.lf 0 u (d.E ·.E) E Y<|.c 0 u (td p.2 q.2 _) Y ?_;rintro _ _ ⟨rfl,p5⟩;have X:=(a2.ay p5).nn;have S6:=X.pk [0,1];refine⟨S6,?_⟩;exact .Z S6 Y<|.ax Y Y ⟨by rw[j,N,iO D E,Xn a3u,Xp (y5 c6)],X.pk []⟩
  exact .k<|.U Y<|aP (k+1) ⟨W,O,O,by rw[N,iO D E,Xn a3u,Xn (by rw[show p.2=q.2 by simpa using c6,mZ];simp)]⟩
 refine .aq<|.s<|.h<|.ld 1 i 0 Y<|.ln 0 (H.E i.E) Y<|.ld 1 i 1 Y<|.ln 0 (d.E i.E) Y<|.Z Y<|.ab Y (λ c7=>?_) λ c7=>?_
 ·exact .h<|.ld 1 i 0 Y<|.ln 0 (H.E i.E) Y<|.ld 1 i 1 Y<|.ln 0 (d.E i.E) Y<|.cq 1 i (tf (decide (I x.ps<I y.ps)) _) Y λ _ a3=>.Z Y<|.ax Y Y ⟨by rw[j,N,tc P Q K];unfold eM;simp only[XS];split;rw[Xp O];rw[Xn O,Xp O],a3.pk []⟩
 exact .k<|.Z Y<|.ax Y Y ⟨by rw[j,N,tc P Q K];unfold eM;rw[Xn O,Xn O]<;>rfl,i.pk []⟩
def Rl(v:Value)(l:List (ByteArray×Bool))(f:FuncId)(cap:Array Value)(p:Nat->Bool)(w:World)(u:RdL w v cj l)(Q:I l<=1000000000)(t:Enters prog f)(K:∀ (i:Nat) x,l[i]? =some x->∀ W,Sat w [] W->t6 f ([cj.ag x]++cap.toList) W λ r A=>r= .bool (p i)/\Sat W [] A):
  t6 126 [v,(.func (.func f) #[] cap)] w λ r W=>∃ z:Int,r= .I z/\((∀ i,i<I l->p i=false)/\z= -1\/∃ i:Nat,z=(i:Int)/\i<I l/\p i=true/\∀ j,j<i->p j=false)/\Sat w [] W:=by
 refine cd func126 Y λ d=>.W Y<|.h<|.ln 1 (u.E d.E) Y<|.V Y<|.lq [0,1,7] Y (α:=Nat) (λ k=>[(8,(.I k))]) (λ k W=>Sat w [] W/\(k<=I l)/\(∀ i,i<k->p i=false)) (λ k=>I l-k) 0 ⟨d,KD _,λ i q=>absurd q (Zw i)⟩ ?_;rintro k R ⟨g,N,H⟩;refine .W Y<|.ab Y (λ D=>?_) λ D=>?_
 ·refine .q<|.W Y ?_;obtain⟨x,y⟩:=ut l k D;refine .r<|.ix 3 (u.E g.E) Y<|.lg 0 (u.E g.E) y Y<|.f Y (.kD t Y Y ((K _ _ y _ g).mono ?_));rintro _ _ ⟨rfl,P⟩;have E:=g.ay P;refine .j<|.cond Y (λ o=>?_) (λ o=>?_)
  ·exact .Z Y<|.ax Y Y ⟨_,Y,.inr ⟨k,Y,b8 y,o,H⟩,E⟩
  refine .k<|.U Y ?_;exact aP (k+1) ⟨E,O,λ i q=>by
   rcases XI i k with h|h
   ·exact H i h
   ·rw[show i=k by omega];exact o⟩
 exact .aq<|.Z Y<|.ax Y Y ⟨_,Y,.inl ⟨λ i q=>H i O,Y⟩,g⟩
def Rm{nm:ByteArray}{z:Int}(H:nm∈Bo)(h:(∀ i,i<I cR->Ds cR (λ x=>decide (x.1=nm)) i=false)/\z= -1\/∃ i:Nat,z=(i:Int)/\i<I cR/\Ds cR (λ x=>decide (x.1=nm)) i=true/\∀ j,j<i->Ds cR (λ x=>decide (x.1=nm)) j=false):z=((C7 nm:Nat):Int):=by
 have k:∀ nm∈Bo,Ds cR (λ x=>decide (x.1=nm)) (C7 nm)=true/\C7 nm<3/\∀ i<3,Ds cR (λ x=>decide (x.1=nm)) i=true->i=C7 nm:=bl
 obtain⟨K,d,g⟩:=k nm H;rcases h with⟨h,_⟩|⟨i,rfl,hi,hp,_⟩
 ·rw[h _ d]at K;cases K
 rw[g i hi hp]
def Na(x:ByteArray×Bool)(b:Nat)(nm:ByteArray)(w:World)(g:w.cell? ⟨b,0,none⟩=some (.string nm)):
  t6 127 [((cj).ag x),(.P b)] w λ r W=>r= .bool (decide (x.1=nm))/\Sat w [] W:=cd func127 Y λ H=>.h<|.bx 0 H Y λ i _ d _ _=>.Z Y<|.h<|.ld 1 d 0 Y<|.e Y (.load qo Y (d.E _ _ g))<|.e Y (.cN Y Y)<|.Z Y<|.ax Y Y ⟨Y,d.pk []⟩
def y8(v:Value)(l:List (ByteArray×Bool))(nm:ByteArray)(w:World)(u:RdL w v cj l)(o:l=cR)(q:nm∈Bo):
  t6 73 [v,(.string nm)] w λ r W=>r= .I ((C7 nm:Nat):Int)/\Sat w [] W:=by
 have p:I l=3:=by rw[o]<;>rfl
 have d:=Sat.start w;refine aa func73 Y Y<|.h<|.bx 0 d Y λ k _ g _ _=>.Z Y<|.h<|.a 1 Y (.kE Y)<|.c 0 (Rl _ l 127 #[(.P k)] (Ds l (λ x=>decide (x.1=nm))) _ (u.E g.E) O Tr (λ i x y w3 t=>by rw[uC y];exact Na x k nm w3 (t.E _ _ (g.cell (i:=0) (j:=0) Y Y)))) Y ?_;rintro _ _ ⟨A,rfl,H,P⟩;have D:=g.ay P;exact .Z Y<|.ax Y Y ⟨If (Value.I) (Rm q (o▸H)),D.pk []⟩
def DV(v:Value)(l:List (ByteArray×Bool))(nm:ByteArray)(w:World)(i:RdL w v cj l)(g:l=cR)(k:nm=wt\/nm∈Bo):
  t6 71 [v,(.string nm)] w λ r W=>r= .I ((C7 nm:Nat):Int)/\Sat w [] W:=by
 have j:I l=3:=by rw[g]<;>rfl
 have H:=Sat.start w;refine aa func71 Y Y<|.W Y<|.h<|.a 1 Y (.cN Y Y)<|.j<|.ab Y (λ d=>?_) λ d=>?_
 ·refine .h<|.ln 1 (i.E H.E) Y<|.a 1 Y (.C0 (a:=0) Y Y)<|.Z Y<|.ax Y Y ?_;rw[d];exact⟨If (Value.I) (by rw[show C7 (ws #[])=0 from bl];omega),H.pk []⟩
 exact .k<|.h<|.cp 2 H (y8 _ l nm _ (i.E H.E) g (k.resolve_left d)) Y λ _ o=>.Z Y<|.ax Y Y ⟨Y,o.pk []⟩
def Nb(c:Cd)(x:Cn)(w:World)(hg:GdC false c)(h:RdCd w c x):
  t6 115 [((aX).ag x)] w λ r w'=>r= .bool true/\Sat w [] w':=by
 obtain⟨ks,H,X,e1⟩:=h.kids;obtain⟨D,o,E,fl,p,f5,a0⟩:=ShX.of hg h;rw[<-X]at a0;have a1:=Sat.start w;refine aa func115 Y Y<|.h<|.bx 0 a1 Y λ j _ s1 _ _=>.Z Y<|.Z Y<|.h<|.ld 1 s1 0 Y<|.e Y (.build wq Y ⟨Y,trivial⟩ Y)<|.al 0 s1 Y λ g _ s2 _ _=>.sa 0 s2 1 (vs:=[(.I x.op),(.string wt),(.string wt),(.string wt),(.string wt),(.bool false),.N]) Y t7 λ W l _=>have l:=l.nn;.j<|.jn [0,1,2,5] Y (λ K L' w'=>∃ (kd:Nat) (ms:Nat),Weak ([(3,(.I kd)),(4,(.I ms))]++K) L'/\Sat w (l.U [(1,ai g 36 [(.I x.op),(.string x.nm),(.string x.ar),(.string x.vl),(.string x.lb),(.bool x.fo),.N])]) w'/\(kd<=I ks)/\(I ks<=ms)) ?_ ?_
 ·refine .h<|.ld 1 l 0 Y<|.j<|.l<|.s<|.l<|.s<|.l<|.s<|.l<|.s<|.l<|.s<|.l<|.s<|.l<|.s<|.l<|.s<|.l<|.s<|.s<|.h<|.e Y (.eql Y Y)<|.Z Y<|.ab Y (λ c1=>?_) λ c1=>?_
  ·refine .aq<|.exit (lookE.S Y (lookE.S Y (lookE.S Y (lookE.S Y (lookE.S Y (lookE.S Y (lookE.S Y (lookE.Z ?_))))))));have s4:Sat w [ai j 36 [(.I x.op),(.string x.nm),(.string x.ar),(.string x.vl),(.string x.lb),(.bool x.fo),x.kv.val],ai g 36 [(.I x.op),(.string x.nm),(.string x.ar),(.string x.vl),(.string x.lb),(.bool x.fo),.N]] W:=by simpa only[D O,o O,E O,fl,p O]using(show Sat w [ai j 36 [(.I x.op),(.string x.nm),(.string x.ar),(.string x.vl),(.string x.lb),(.bool x.fo),x.kv.val],ai g 36 [(.I x.op),(.string wt),(.string wt),(.string wt),(.string wt),(.bool false),.N]] _ from l)
   exact⟨0,0,(wk Y),s4,O,O⟩
  refine .p<|.h<|.e Y (.eql Y Y)<|.Z Y<|.ab Y (λ c2=>?_) λ c2=>?_
  ·refine .vF Y<|.r<|.ld 1 l 0 Y<|.st 1 l 1 Y λ _ s5 _=>.j<|.s<|.dk [0] s5 Y (pl [0,1,2,3,4,1005,6,1007] .fin) λ s6 P=>.ld 1 P 0 Y<|.ld 1 P 0 Y<|.z 1 P Y<|.f Y (.aG mC s6 (i:=1) Y Y Y Y Y λ _ s7 _=>have S2:=s7.pk [0];⟨S2,?_⟩);refine .z 1 S2 Y<|.f Y (.aG mC s7 (i:=1) Y Y Y Y Y λ w6 N _=>have N:=N.nn;have S3:=N.pk [0];⟨S3,?_⟩);refine .fin<|.Mo Y Y Y Y Y ?_;have s9:Sat w [ai j 36 [(.I x.op),(.string x.nm),(.string x.ar),(.string x.vl),(.string x.lb),(.bool x.fo),x.kv.val],ai g 36 [(.I x.op),(.string x.nm),(.string x.ar),(.string x.vl),(.string x.lb),(.bool x.fo),.N]] w6:=by simpa only[o O,fl]using(show Sat w [ai j 36 [(.I x.op),(.string x.nm),(.string x.ar),(.string x.vl),(.string x.lb),(.bool x.fo),x.kv.val],ai g 36 [(.I x.op),(.string x.nm),(.string wt),(.string x.vl),(.string wt),(.bool x.fo),.N]] _ from N)
   exact⟨0,0,(wk Y),s9,O,O⟩
  refine .p<|.h<|.e Y (.eql Y Y)<|.Z Y<|.ab Y (λ c3=>?_) λ c3=>?_
  ·refine .QT Y Y<|.s<|.dk [0] l Y (pl [0,1,2,3,4,1005,6,1007] .fin) λ a3 R=>.ld 1 R 0 Y<|.ld 1 R 0 Y<|.z 1 R Y<|.f Y (.aG mC a3 (i:=1) Y Y Y Y Y λ _ q _=>have S5:=q.pk [0];⟨S5,?_⟩);refine .z 1 S5 Y<|.f Y (.aG mC q (i:=1) Y Y Y Y Y λ b6 t _=>have S6:=t.pk [0];⟨S6,?_⟩);refine .fin<|.Mo Y Y Y Y Y ?_;have a4:Sat w [ai j 36 [(.I x.op),(.string x.nm),(.string x.ar),(.string x.vl),(.string x.lb),(.bool x.fo),x.kv.val],ai g 36 [(.I x.op),(.string x.nm),(.string x.ar),(.string x.vl),(.string x.lb),(.bool x.fo),.N]] b6:=by simpa only[o O,fl,p O]using(show Sat w [ai j 36 [(.I x.op),(.string x.nm),(.string x.ar),(.string x.vl),(.string x.lb),(.bool x.fo),x.kv.val],ai g 36 [(.I x.op),(.string x.nm),(.string wt),(.string x.vl),(.string wt),(.bool false),.N]] _ from t)
   exact⟨0,0,(wk Y),a4,O,O⟩
  refine .p<|.h<|.e Y (.eql Y Y)<|.Z Y<|.ab Y (λ c4=>?_) λ c4=>?_
  ·refine .QS Y Y Y<|.s ?_;omega
  refine .p<|.h<|.e Y (.eql Y Y)<|.Z Y<|.ab Y (λ c5=>?_) λ c5=>?_
  ·refine .VK Y Y Y Y<|.s<|.s<|.dk [0] l Y (pl [0,1,2,3,4,5,6,1007,8,1009,10,1011] .fin) λ a5 A=>.ld 1 A 0 Y<|.ld 1 A 0 Y<|.ld 1 A 0 Y<|.z 1 A Y<|.f Y (.aG mC a5 (i:=1) Y Y Y Y Y λ _ u _=>have S8:=u.pk [0];⟨S8,?_⟩);refine .z 1 S8 Y<|.f Y (.aG mC u (i:=1) Y Y Y Y Y λ _ y _=>have S9:=y.pk [0];⟨S9,?_⟩);refine .z 1 S9 Y<|.f Y (.aG mC y (i:=1) Y Y Y Y Y λ b5 k _=>have k:=k.nn;have Q:=k.pk [0];⟨Q,?_⟩);refine .fin<|.s<|.bM 60 ((x.ar=(ws #[]))/\(x.vl≠(ws #[]))) ?_ ?_
   ·refine .ld 1 k 0 Y<|.e Y (.cN Y Y)<|.z 1 Y<|.B 56 Y (λ T=>?_) λ T=>?_
    ·refine .ld 1 k 0 Y<|.a 0 Y (.ej Y Y)<|.M Y a3i
    refine .M Y a3i
   refine .ak Y (IN (λ h9=>h9.2 (f5 O h9.1)))<|.k<|.QS Y Y Y ?_;have a6:Sat w [ai j 36 [(.I x.op),(.string x.nm),(.string x.ar),(.string x.vl),(.string x.lb),(.bool x.fo),x.kv.val],ai g 36 [(.I x.op),(.string x.nm),(.string x.ar),(.string x.vl),(.string x.lb),(.bool x.fo),.N]] b5:=by simpa only[fl,p O]using(show Sat w [ai j 36 [(.I x.op),(.string x.nm),(.string x.ar),(.string x.vl),(.string x.lb),(.bool x.fo),x.kv.val],ai g 36 [(.I x.op),(.string x.nm),(.string x.ar),(.string x.vl),(.string wt),(.bool false),.N]] _ from k)
   exact⟨0,0,(wk Y),a6,O,O⟩
  refine .p<|.h<|.e Y (.eql Y Y)<|.Z Y<|.ab Y (λ c6=>?_) λ c6=>?_
  ·refine .Mo Y Y Y Y Y<|.Z Y<|.QT Y Y ?_;have a9:Sat w [ai j 36 [(.I x.op),(.string x.nm),(.string x.ar),(.string x.vl),(.string x.lb),(.bool x.fo),x.kv.val],ai g 36 [(.I x.op),(.string x.nm),(.string x.ar),(.string x.vl),(.string x.lb),(.bool x.fo),.N]] W:=by simpa only[D O,o O,E O,fl,p O]using(show Sat w [ai j 36 [(.I x.op),(.string x.nm),(.string x.ar),(.string x.vl),(.string x.lb),(.bool x.fo),x.kv.val],ai g 36 [(.I x.op),(.string wt),(.string wt),(.string wt),(.string wt),(.bool false),.N]] _ from l)
   exact⟨1,1,(wk Y),a9,O,O⟩
  refine .p<|.h<|.e Y (.eql Y Y)<|.Z Y<|.ab Y (λ c7=>?_) λ c7=>?_
  ·refine .k<|.ab Y (λ c8=>?_) λ c8=>?_
   ·refine .exit (lookE.S Y (lookE.S Y (lookE.S Y (lookE.S Y (lookE.S Y (lookE.S Y (lookE.Z<|.Z Y<|.vF Y ?_)))))));have b3:Sat w [ai j 36 [(.I x.op),(.string x.nm),(.string x.ar),(.string x.vl),(.string x.lb),(.bool x.fo),x.kv.val],ai g 36 [(.I x.op),(.string x.nm),(.string x.ar),(.string x.vl),(.string x.lb),(.bool x.fo),.N]] W:=by simpa only[D O,o O,E O,fl,p O]using(show Sat w [ai j 36 [(.I x.op),(.string x.nm),(.string x.ar),(.string x.vl),(.string x.lb),(.bool x.fo),x.kv.val],ai g 36 [(.I x.op),(.string wt),(.string wt),(.string wt),(.string wt),(.bool false),.N]] _ from l)
    exact⟨2,60,(wk Y),b3,O,O⟩
   refine .k<|.exit (lookE.S Y (lookE.S Y (lookE.S Y (lookE.S Y (lookE.S Y (lookE.S Y (lookE.S Y (lookE.Z<|.s<|.s ?_))))))));omega
  refine .r<|.e Y (.eql Y Y)<|.Z Y<|.ab Y (λ c9=>?_) λ c9=>?_
  ·refine .exit (lookE.S Y (lookE.S Y (lookE.S Y (lookE.S Y (lookE.S Y (lookE.S Y (lookE.Z<|.Z Y<|.vF Y ?_)))))));have b4:Sat w [ai j 36 [(.I x.op),(.string x.nm),(.string x.ar),(.string x.vl),(.string x.lb),(.bool x.fo),x.kv.val],ai g 36 [(.I x.op),(.string x.nm),(.string x.ar),(.string x.vl),(.string x.lb),(.bool x.fo),.N]] W:=by simpa only[D O,o O,E O,fl,p O]using(show Sat w [ai j 36 [(.I x.op),(.string x.nm),(.string x.ar),(.string x.vl),(.string x.lb),(.bool x.fo),x.kv.val],ai g 36 [(.I x.op),(.string wt),(.string wt),(.string wt),(.string wt),(.bool false),.N]] _ from l)
   exact⟨2,60,(wk Y),b4,O,O⟩
  refine .k<|.exit (lookE.S Y (lookE.S Y (lookE.S Y (lookE.S Y (lookE.S Y (lookE.S Y (lookE.S Y (lookE.Z<|.s<|.s ?_))))))));omega
 rintro L' b7 ⟨kd,ms,a2,d,c0,e0⟩;exact .weaken _ a2<|.h<|.ld 1 d 0 Y<|.ln 0 (H.E d.E) Y<|.z 3 Y<|.Gt 66 Y (LW O)<|.ld 1 d 0 Y<|.ln 0 (H.E d.E) Y<|.z 4 Y<|.Gt 73 Y (LW O)<|.ld 1 d 0 Y<|.ld 1 d 1 Y<|.a 0 Y (.cN Y Y)<|.z 2 Y<|.Gt 80 Y (LW Y)<|.ld 1 d 0 Y<|.ld 1 d 1 Y<|.a 0 Y (.cN Y Y)<|.z 2 Y<|.Gt 87 Y (LW Y)<|.ld 1 d 0 Y<|.ld 1 d 1 Y<|.a 0 Y (.cN Y Y)<|.z 2 Y<|.Gt 94 Y (LW Y)<|.ld 1 d 0 Y<|.ld 1 d 1 Y<|.a 0 Y (.cN Y Y)<|.z 2 Y<|.Gt 101 Y (LW Y)<|.ld 1 d 0 Y<|.ld 1 d 1 Y<|.a 0 Y (.WQ underlying4 Y Y)<|.Z Y<|.ax Y Y ⟨If Value.bool (beq_self_eq_true _),d.pk []⟩
def X0{s:ByteArray}(w:World)(h:bF s=true):t6 171 [.string s] w λ r W=>r= .bool true/\Sat w [] W:=h▸dX s w
def Nc(c:Cd)(x:Cn)(w:World)(u:GdC false c)(h:RdCd w c x)(v:Value)(l:List (ByteArray×Bool))(k:RdL w v cj l)(j:l=cR):
  t6 116 [((aX).ag x),v] w λ r W=>r= .bool true/\Sat w [] W:=by
 obtain⟨y,A,N,Q⟩:=NmX.of u h;have H:=Sat.start w;refine aa func116 Y Y<|.h<|.bx 0 H Y λ P _ d _ _=>.W Y<|.h<|.ld 1 d 0 Y<|.j<|.l<|.h<|.e Y (.eql Y Y)<|.Z Y<|.ab Y (λ o=>?_) λ o=>?_
 ·exact .h<|.ld 2 d 0 Y<|.cp 0 d (DV _ l x.nm _ (k.E d.E) j (y O)) Y λ _ D=>.Z Y<|.ax Y Y ⟨Y,D.pk []⟩
 refine .h<|.e Y (.eql Y Y)<|.Z Y<|.ab Y (λ p=>?_) λ p=>?_
 ·exact .h<|.ld 2 d 0 Y<|.cp 0 d (y8 _ l x.nm _ (k.E d.E) j (A O)) Y λ _ E=>.Z Y<|.ax Y Y ⟨Y,E.pk []⟩
 refine .h<|.e Y (.eql Y Y)<|.Z Y<|.ab Y (λ q=>?_) λ q=>?_
 ·refine .s ?_;omega
 refine .h<|.e Y (.eql Y Y)<|.Z Y<|.ab Y (λ t=>?_) λ t=>?_
 ·refine .h<|.ld 1 d 0 Y<|.cp 0 d (X0 _ ((N O).1)) Y λ _ g=>.ld 2 g 0 Y<|.a 0 Y (.cN Y Y)<|.z 1 Y<|.B 44 Y (λ i=>?_) λ i=>?_
  ·exact .Z Y<|.ax Y Y ⟨Y,g.pk []⟩
  exact .ld 1 g 0 Y<|.cq 0 g (X0 _ ((N O).2.resolve_left i)) Y λ _ K=>.Z Y<|.ax Y Y ⟨Y,K.pk []⟩
 exact .k<|.Z Y<|.ax Y Y ⟨Y,d.pk []⟩
def G9(f:FuncId)(cap:Array Value)(t:Enters prog f)(n:Nat)(K:∀ (c:Cd) (x:Cn) (w:World),c.sz<n->GdC false c->RdCd w c x->(∀ (q:Cd) (z:Cn) (w':World),GdC false q->RdCd w' q z->Sat w [] w'->t6 f ([aX.ag z]++cap.toList) w' λ r W=>r= .I ((0:Nat):Int)/\Sat w' [] W)->t6 65 [aX.ag x,.func (.func f) #[] cap] w λ r w'=>r= .I ((0:Nat):Int)/\Sat w [] w')(c:Cd)(x:Cn)(w:World)(hn:c.sz=n)(D:GdC false c)(h:RdCd w c x)(A:(∀ (q:Cd) (z:Cn) (w':World),GdC false q->RdCd w' q z->Sat w [] w'->t6 f ([aX.ag z]++cap.toList) w' λ r W=>r= .I ((0:Nat):Int)/\Sat w' [] W)):
  t6 65 [((aX).ag x),(.func (.func f) #[] cap)] w λ r w'=>r= .I ((0:Nat):Int)/\Sat w [] w':=by
 obtain⟨ks,H,T,l⟩:=h.kids;have he:x.op=c.op:=a3S
 have R:=c.oI;have o:=Sat.start w;refine aa func65 Y Y<|.h<|.bx 0 o Y λ b1 _ d _ _=>.W Y<|.h<|.lo 1 d 0 Y<|.f Y (.kD t Y Y ((A c x _ D (h.E d.E) (d.pick [] Y)).mono ?_));rintro _ _ ⟨rfl,p1⟩;have g:=d.ay p1;refine .Z Y<|.Z Y<|.ak Y Y<|.p<|.h<|.ld 1 g 0 Y<|.ln 0 (H.E g.E) Y<|.V Y<|.lq [0,1,2,5,16,17] Y (α:=Nat) (λ k=>[(18,(.I k))]) (λ k w'=>Sat w g.L w') (λ k=>I ks-k) 0 g ?_;rintro k a0 i;refine .W Y<|.ab Y (λ u=>?_) λ u=>?_
 ·refine .q<|.s ?_;obtain⟨y,E⟩:=ut ks k u;obtain⟨q,X,hr,hz⟩:=l k y E;exact .r<|.ix 0 (H.E i.E) Y<|.lg 0 (H.E i.E) E Y<|.al 0 i Y λ b2 _ p _ _=>have p:=p.nn;.sa 0 p 1 Y ((aX).one _) λ _ j _=>.j<|.h<|.lo 0 j 1 Y<|.cp 1 j (K q y _ O (D.MM X) (hr.E j.E) (λ q z w3 N P Q=>A q z w3 N P ((j.pick [] Y).ay Q))) Y λ _ s6=>.Z Y<|.Z Y<|.ak Y Y<|.k<|.U Y<|aP (k+1) (s6.pk [0])
 exact .aq<|.Z Y<|.ax Y Y ⟨Y,i.pk []⟩
def Ro{f:FuncId}{cap:Array Value}(t:Enters prog f){c:Cd}{x:Cn}(w:World)(g:GdC false c)(h:RdCd w c x)(d:(∀ (q:Cd) (z:Cn) (w':World),GdC false q->RdCd w' q z->Sat w [] w'->t6 f ([aX.ag z]++cap.toList) w' λ r W=>r= .I ((0:Nat):Int)/\Sat w' [] W)):t6 65 [aX.ag x,.func (.func f) #[] cap] w λ r w'=>r= .I ((0:Nat):Int)/\Sat w [] w':=by
 suffices H:∀ n (c:Cd) (x:Cn) (w:World),c.sz=n->GdC false c->RdCd w c x->(∀ (q:Cd) (z:Cn) (w':World),GdC false q->RdCd w' q z->Sat w [] w'->t6 f ([aX.ag z]++cap.toList) w' λ r W=>r= .I ((0:Nat):Int)/\Sat w' [] W)->t6 65 [aX.ag x,.func (.func f) #[] cap] w λ r w'=>r= .I ((0:Nat):Int)/\Sat w [] w' from H _ c x w Y g h d
 intro n;induction n using Nat.strongRecOn with
 |_ n k=>exact λ c x w i g h d=>G9 f cap t n (λ c x w j g h d=>k c.sz j c x w Y g h d) c x w i g h d
