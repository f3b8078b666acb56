/-The walks of the functions of F13,printed by our own program (kwgen.py) out of our descriptions (base.py). -/
import Derived.Test.YtcgidfgdbhihbaaGreatDoorKd
import Derived.Test.YtcgidfgdbhihbaaGreatDoorF01
import Derived.Test.YtcgidfgdbhihbaaGreatDoorF15
open List renaming length→I,take→J,drop→ww
open ByteArray renaming empty→wt,mk→ws
set_option linter.all false
set_option maxRecDepth 100000
open List
open Go.Proofs.Tryz
namespace Go.Proofs.YtcgidfgdbhihbaaGreatDoor
open Go.RowKit Go.Kw
def Ij(u w:World)(cs:List Chunk)(i:Nat)(v:Value)(l:List ByteArray)(j:Sat u cs w)(t:cs[i]? =some (cL v 9 aw l))(Q:I l<4611686018427387904):
  t6 192 [v] w λ r W=>r= .tuple #[]/\Sat u (cs.set i (cL v 9 aw (jY l))) W:=by
 have d:cs[i]? =some (rI v 9 1 (I l) ((l.map λ s=>s.data.toList).map Go.Proofs.encStr)):=by rw[<-As];exact t
 rcases j.Fz d with⟨D,rfl⟩|⟨g,cap,rfl⟩
 ·have P:l=[]:=XM D;subst P;refine YS (Go.Proofs.Any.slices_Sort_string_none Tryz.lays190 none 0 w) ?_;rintro e W ⟨rfl,rfl⟩;have E:cs.set i (cL .N 9 aw (jY []))=cs:=by
   obtain⟨o,k⟩:=KC.1 t;have:jY []=[]:=by simp[jY]
   rw[this,<-k];exact ZO o
  exact⟨_,Y,Y,by rw[E];exact j⟩
 have H:I (l.map λ s=>s.data.toList)=I l:=Xu ..;obtain⟨K,N⟩:=j.Mn H d;have q:=Tryz.slices_Sort_string g 0 cap (l.map λ s=>s.data.toList) w K N (by rw[H];exact Q);rw[H]at q;refine YS q ?_;rintro e W ⟨rfl,n,R,rfl⟩;have p:=j.Mr H d ((l.map λ s=>s.data.toList).mergeSort λ x y=>decide (x<=y)) bw n R;have A:rI (.slice (some ⟨g,0,none⟩) (I l) cap) 9 1 (I l) (((l.map λ s=>s.data.toList).mergeSort λ x y=>decide (x<=y)).map Go.Proofs.encStr)=cL (.slice (some ⟨g,0,none⟩) (I l) cap) 9 aw (jY l):=by
  unfold cL;rw[As,pz];have:(jY l).map (λ s=>s.data.toList)=(l.map λ s=>s.data.toList).mergeSort λ x y=>decide (x<=y):=by
   unfold jY;rw[ZT];exact map_id' _
  rw[this]<;>rfl
 rw[A]at p;exact⟨_,Y,Y,p⟩
def Ik(w0 w:World)(cs:List Chunk)(i m:Nat)(v:Value)(l:List Nat)(g:FuncId)(cap:Array Value)(R:Nat->Nat->Prop)[DecidableRel R](P:Sat w0 cs w)(hi:cs[i]? =some (cL v 3 un l))(hn:I l<4611686018427387904)
  (hm:∀ x∈l,x<m) (a2:Enters prog g) (T:Nat->Nat->Int) (d:∀ x y,T x y<0↔R x y) (irr:∀ a,¬ R a a) (tr:∀ {a b c},R a b->R b c->R a c) (a9:∀ {a b c},¬ R a b->¬ R b c->¬ R a c)
  (a0:∀ x y Q W,x<m->y<m->I Q=I l->Sat w0 (cs.set i (cL v 3 un Q)) W->CallsV prog g ([.I (x:Int),.I (y:Int)]++cap.toList) W λ r W'=>r= .I (T x y)/\Sat W [] W'/\W.drawn<=W'.drawn):
  CallsV prog 211 [v,.func (.func g) #[] cap] w λ r w'=>r= .tuple #[]/\∃ Q,Q.Perm l/\Q.Pairwise (λ a b=>¬ R b a)/\Sat w0 (cs.set i (cL v 3 un Q)) w':=by
 have j:cs[i]? =some (rI v 3 1 (I l) (l.map λ(x:Nat)=>Value.I (x:Int))):=by rw[<-Au];exact hi
 obtain⟨a3,X⟩:=KC.1 hi;rcases P.Fz j with⟨h0,rfl⟩|⟨b,c,rfl⟩
 ·have hl:l=[]:=XM h0;subst hl;refine YS (Tryz.slices_SortFunc_none (α:=Nat) none 0 _ w) ?_;rintro e w' ⟨rfl,rfl⟩;exact⟨_,Y,Y,[],List.Perm.refl _,List.Pairwise.nil,by rw[<-X,ZO a3];exact P⟩
 by_cases h0:l=[]
 ·subst h0;refine YS (Tryz.slices_SortFunc_none (α:=Nat) _ c _ w) ?_;rintro e w' ⟨rfl,rfl⟩;exact⟨_,Y,Y,[],List.Perm.refl _,List.Pairwise.nil,by rw[<-X,ZO a3];exact P⟩
 have a5:0<m:=by
  cases l with
  |nil=>exact absurd Y h0
  |cons x r=>have:=hm x (Yp ..);omega
 haveI:Inhabited (Fin m):=⟨⟨0,a5⟩⟩
 obtain⟨o,N⟩:∃ o:List (Fin m),o.map Fin.val=l:=⟨l.pmap (λ x hx=>(⟨x,hx⟩:Fin m)) hm,by rw[map_pmap];simp⟩;have H:I o=I l:=by rw[<-N,Xu]
 have a1:l.map (λ(x:Nat)=>Value.I (x:Int))=o.map (λ x:Fin m=>Value.I ((x.val:Nat):Int)):=by rw[<-N,ZT]<;>rfl
 rw[a1]at j;obtain⟨hH,hg⟩:=P.Mn H j;have eL:∀ ts:List (Fin m),I ts=I l->rI (.slice (some ⟨b,0,none⟩) (I l) c) 3 1 (I l) (ts.map (λ x:Fin m=>Value.I ((x.val:Nat):Int)))=cL (.slice (some ⟨b,0,none⟩) (I l) c) 3 un (ts.map Fin.val):=λ ts ht=>by
  unfold cL;rw[Au,Xu,ZT,ht]<;>rfl
 have a4:Go.Proofs.CmpLays1 prog g cap (λ x:Fin m=>Value.I ((x.val:Nat):Int)) (λ x y=>T x.val y.val) b 0 o.toArray.size w:=by
  intro k os dk hk x y;have K:I dk.toList=I l:=by rw[YL,hk];simpa using H
  have t:=P.Mr H j dk.toList K k os;rw[eL _ K]at t;have A:=a0 x.val y.val (dk.toList.map Fin.val) _ x.isLt y.isLt (by rw[Xu,K]) t;rw[show dk.toList.toArray=dk by simp]at A;have e3:([Value.I ((x.val:Nat):Int),Value.I ((y.val:Nat):Int)]++cap.toList).toArray= #[Value.I ((x.val:Nat):Int),Value.I ((y.val:Nat):Int)]++cap:=bw
  unfold CallsV at A;rw[e3]at A;refine YS A ?_;rintro e w' ⟨r,rfl,rfl,hS,hd⟩;exact⟨Y,Go.Kw.Below.grown_of hS.old hd⟩
 have hO:Go.Sort.SWO (Go.Proofs.ltOf λ x y:Fin m=>T x.val y.val):=by
  refine⟨λ x=>IN λ h=>irr _ ((d _ _).1 h),λ x y z h1 t=>LW ((d _ _).2 (tr ((d _ _).1 (XR h1)) ((d _ _).1 (XR t)))),λ x y z h1 t=>IN λ h=>?_⟩;exact a9 (λ h'=>YY h1 ((d _ _).2 h')) (λ h'=>YY t ((d _ _).2 h')) ((d _ _).1 h)
 have A:=Tryz.slices_SortFunc (λ x:Fin m=>Value.I ((x.val:Nat):Int)) (λ _=>Y) (λ x y:Fin m=>T x.val y.val) hO g cap b 0 c o.toArray w a2 a4 hH hg (by simpa[H]using hn);have u:o.toArray.size=I l:=te
 rw[u]at A;refine YS A ?_;rintro e w' ⟨rfl,D,n,os,hP,hS,rfl⟩;have E:I D.toList=I l:=by rw[YL,hP.1,u]
 have t:=P.Mr H j D.toList E n os;rw[eL _ E,show D.toList.toArray=D by simp]at t;refine⟨_,Y,Y,D.toList.map Fin.val,?_,?_,t⟩
 ·rw[<-N];refine List.Perm.map _ ?_;have h3:=hP.2.2;rw[show D.extract 0 (I l)=D by rw[show I l=D.size by rw[hP.1,u]];simp,show o.toArray.extract 0 (I l)=o.toArray by rw[show I l=o.toArray.size by rw[u]];simp]at h3;exact h3
 rw[a1y,YJ];intro p q hp hq a6 hR;have h4:=hS p q (KD _) a6 (by rw[<-E];exact hq);have e5:∀ k (hk:k<I D.toList),D[k]! =D.toList[k]:=λ k hk=>by
  rw[getElem!_pos D k (by simpa using hk)]<;>rfl
 rw[e5 p hp,e5 q hq]at h4;exact YY h4 ((d _ _).2 hR)
def Ck(a b:ByteArray)(w:World):t6 213 [.string a,.string b] w λ r W=>r= .I (Lib.compareBytes a.data.toList b.data.toList)/\W=w:=by
 refine YS (Tryz.strings_Compare a b w) ?_;rintro e W ⟨rfl,rfl⟩;exact⟨_,Y,Y,Y⟩
def Ga(f:FuncId)(cap:Array Value)(n:Nat)(p:Nat->Bool)(w:World)(t:Enters prog f)(N:n<4611686018427387904)
  (R:∀ i W,i<n->Sat w [] W->t6 f ([.I (i:Int)]++cap.toList) W λ r D=>r= .bool (p i)/\Sat W [] D) (o:∀ a b,a<=b->b<n->p a=true->p b=true):
  t6 238 [(.I n),(.func (.func f) #[] cap)] w λ r W=>∃ k,r= .I ((k:Nat):Int)/\k<=n/\(∀ i,i<k->p i=false)/\(∀ i,k<=i->i<n->p i=true)/\Sat w [] W:=by
 refine cd func238 Y λ y=>.Z Y<|.W Y<|.l<|.lq [1] Y (α:=Nat×Nat) (λ(i,j)=>[(5,(.I i)),(6,(.I j))]) (λ(i,j) W=>Sat w [] W/\(i<=j)/\(j<=n)/\(∀ q,q<i->p q=false)/\(∀ q,j<=q->q<n->p q=true)) (λ(i,j)=>j-i) (0,n) ⟨y,KD _,KM _,λ q d=>absurd d (Zw q),λ q d N=>absurd N O⟩ ?_;rintro⟨i,j⟩ w1 ⟨A,T,X,E,K⟩;refine .s<|.Z Y<|.ab Y (λ Q=>?_) λ Q=>?_
 ·refine .k<|.l<|.Z Y<|.h<|.b 2 Y (.kD t Y Y ((R ((i+j)/2^1) _ O A).mono ?_));rintro _ _ ⟨rfl,p1⟩;have P:=A.ay p1;refine .e Y (.cK Y)<|.j<|.cond Y (λ g=>?_) (λ g=>?_)
  ·refine .U Y ?_;exact aP ((((i+j)/2^1)+1),j) ⟨P,O,O,λ q d=>by
   rcases YC (p q)with l|l
   ·have:=o q _ (show q<=(i+j)/2^1 by omega) O l;rw[this]at g;simp at g
   ·exact l,K⟩
  exact .U Y<|aP (i,((i+j)/2^1)) ⟨P,O,O,E,λ q d u=>o _ q d u a0N⟩
 refine .aq<|.Z Y<|.ax Y Y ?_;have H:i=j:=O
 subst H;exact⟨i,Y,O,E,K,A⟩
def Cl(j k:Nat)(g:Nat)(y t u:Value)(W:List ByteArray)(C o:List Nat)(s:ByteArray)(i:Nat)(w:World)(h1:w.cell? ⟨j,0,none⟩=some (.P g))(h2:w.cell? ⟨k,0,none⟩=some (.string s))(h:LexAt w g y t u W C o)(D:i<I W):
  t6 239 [(.I i),(.P j),(.P k)] w λ r A=>r= .bool (decide (¬ SLt (W.getD i wt) s))/\Sat w [] A:=by
 refine cd func239 Y λ H=>.W Y ?_;obtain⟨x,l⟩:=ut W i O;refine .dk [] H Y (pl [0,1,2,3,4,5,6,7,8,9] .fin) λ p d=>.e Y (λ _ q=>.load Pv Y (q.E _ _ h1)) d<|.z 2 d Y<|.e Y (λ _ q=>.load fB Y (q.E _ _ h.c0)) d<|.ix 1 d (h.hW.E ·.E) Y<|.le 0 d (h.hW.E ·.E) l Y<|.e Y (λ _ q=>.load qo Y (q.E _ _ h2)) d<|.e Y (λ _ q=>.vD Y Y) d<|.Z d Y<|.ax Y Y ?_;rw[cZ l];exact⟨Y,p⟩
def DW(g:Nat)(j d i:Value)(W:List ByteArray)(C o:List Nat)(w:World)(h:LexAt w g j d i W C o):
  t6 112 [(.P g)] w λ r k=>r= .I ((I W:Nat):Int)/\Sat w [] k:=cd func112 Y λ H=>.Z Y<|.h<|.a 3 Y (.load fB Y (H.E _ _ h.c0))<|.ln 0 (h.hW.E H.E) Y<|.Z Y<|.ax Y Y ⟨Y,H⟩
def Nf(g:Nat)(p k l:Value)(W:List ByteArray)(C o:List Nat)(n:Int)(w:World)(h:LexAt w g p k l W C o):
  t6 111 [(.P g),(.I n)] w λ r t=>r= .tuple #[.string (kO W n).1,.bool (kO W n).2]/\Sat w [] t:=by
 refine cd func111 Y λ H=>.W Y<|.s<|.bM 16 (((n:Int)<(0:Int))\/(((I W:Nat):Int)<=(n:Int))) ?_ ?_
 ·refine .a 1 Y (.lss Y Y)<|.z 1 Y<|.B 8 Y (λ d=>?_) λ d=>?_
  ·refine .M Y a1P
  refine .a 4 Y (.load fB Y (H.E _ _ h.c0))<|.ln 0 (h.hW.E H.E) Y<|.a 0 Y (.geq Y Y)<|.M Y a1P
 refine .ab Y (λ j=>?_) λ j=>?_
 ·refine .Z Y<|.bK Y Y Y ?_;have q:kO W n=(wt,false):=by unfold kO;rw[Xn O]
  rw[q];exact⟨Y,H⟩
 refine .p ?_;obtain⟨m,rfl⟩:∃ m:Nat,n=m:=⟨n.toNat,O⟩;obtain⟨x,i⟩:=ut W m O;refine .r<|.a 3 Y (.load fB Y (H.E _ _ h.c0))<|.ix 1 (h.hW.E H.E) Y<|.le 0 (h.hW.E H.E) i Y<|.Z Y<|.bK Y Y Y ?_;have q:kO W (m:Int)=(x,true):=by unfold kO;rw[Xp O,Zi,cZ i]
 rw[q];exact⟨Y,H⟩
def Gb(g:Nat)(vw X vo:Value)(W:List ByteArray)(C o:List Nat)(s:ByteArray)(w:World)(h:LexAt w g vw X vo W C o)(H:Asc W)(hn:I W<4611686018427387904):
  t6 193 [(.P g),(.string s)] w λ r w'=>r= .tuple #[.I (((MH W s).1:Nat):Int),.bool (MH W s).2]/\Sat w [] w':=by
 refine cd func193 Y λ K=>.h<|.bx 0 K Y λ b1 _ s1 _ _=>.bx 0 s1 Y λ b2 _ k _ _=>.Z Y<|.h<|.ld 0 k 0 Y<|.a 2 Y (.load fB Y (k.E _ _ h.c0))<|.ln 0 (h.hW.E k.E) Y<|.e Y (.nw Y Y)<|.c 0 (Ga 239 #[(.P b1),(.P b2)] (I W) (λ i=>decide (¬ SLt (W.getD i wt) s)) _ TF O (λ i w3 hi E=>Cl _ _ g vw X vo W C o s i w3 (E.E _ _ (k.cell (i:=0) (j:=0) Y Y)) (E.E _ _ (k.cell (i:=1) (j:=0) Y Y)) ((h.E k.E).E E.E) hi) (λ a b A hb hp=>Jr H s A hb hp)) Y ?_;rintro _ _ ⟨P,rfl,p,t,u,p1⟩;have Q:=(k.ay p1).nn;obtain rfl:P=dL W s:=H4 p t u;refine .W Y<|.s ?_;rcases XI (dL W s) (I W) with D|hge
 ·obtain⟨x,N⟩:=ut W (dL W s) D;refine .dk [0,1] Q Y (pl [0,1,2,3,4,5,6,7,8,9,10,11,12,13,14,15,16,17] .fin) λ T d=>.ld 1 d 0 Y<|.z 2 d Y<|.e Y (λ _ q=>.load fB Y (q.E _ _ h.c0)) d<|.ln 0 d (h.hW.E ·.E) Y<|.z 2 d Y<|.Gf 21 Y (IN O)<|.ld 0 d 0 Y<|.a 2 d Y (λ _ q=>.load fB Y (q.E _ _ h.c0))<|.ix 1 d (h.hW.E ·.E) Y<|.le 0 d (h.hW.E ·.E) N Y<|.ld 0 d 1 Y<|.a 0 d Y (λ _ q=>.ej Y Y)<|.Z d Y<|.ab Y (λ y=>?_) λ y=>?_
  ·refine .Z Y<|.bK Y Y Y ?_;rw[Ej N,Xn a1M];exact⟨Y,T.pk []⟩
  refine .k<|.Z Y<|.bK Y Y Y ?_;rw[Ej N,Xp a1M];exact⟨Y,T.pk []⟩
 refine .dk [0,1] Q Y (pl [0,1,2,3,4,5,6,7,8,9,10,11,12,13,14,15,16,17] .fin) λ s7 l=>.ld 1 l 0 Y<|.z 2 l Y<|.e Y (λ _ q=>.load fB Y (q.E _ _ h.c0)) l<|.ln 0 l (h.hW.E ·.E) Y<|.z 2 l Y<|.Gt 21 Y (LW (by have:=Db (R:=SLt) W s;omega))<|.Z l Y<|.cc Y Y<|.Z Y<|.bK Y Y Y ?_;rw[Js hge];exact⟨Y,s7.pk []⟩
def Ng(j:Nat)(q:Value)(R:List ByteArray)(x y:Nat)(w:World)(o:w.cell? ⟨j,0,none⟩=some q)(H:RdL w q aw R)(t:x<I R)(u:y<I R):
  t6 212 [(.I x),(.I y),(.P j)] w λ r W=>r= .I (Lib.compareBytes (R.getD x wt).data.toList (R.getD y wt).data.toList)/\Sat w [] W/\w.drawn<=W.drawn:=by
 refine cd func212 Y λ g=>.W Y ?_;obtain⟨a,k⟩:=ut R x t;obtain⟨b,l⟩:=ut R y u;refine .dk [] g Y (pl [0,1,2,3,4,5,6,7,1008,9] .fin) λ p d=>.e Y (λ _ s=>.load fB Y (s.E _ _ o)) d<|.ix 1 d (H.E ·.E) Y<|.le 0 d (H.E ·.E) k Y<|.e Y (λ _ s=>.load fB Y (s.E _ _ o)) d<|.ix 1 d (H.E ·.E) Y<|.le 0 d (H.E ·.E) l Y<|.c 0 d (Ck a b _) Y ?_;rintro _ _ ⟨rfl,rfl⟩;have i:=p.pk [];refine⟨i,?_⟩;refine .Z i Y<|.ax Y Y ?_;rw[cZ k,cZ l];exact⟨Y,p,Nat.le_succ _⟩
def wD(A w:World)(cs:List Chunk)(g:Nat)(d u:Value)(W:List ByteArray)(hs:Sat A ([ai g 221 [d,u,.N],cL d 9 aw W]++cs) w)(a6:okW W)(b3:∀ x∈W,x.size<=1000000)(hn:I W<=1000000)(c7:u.oneCell'=true):
  t6 166 [(.P g)] w λ r w'=>r= .tuple #[]/\∃ o,Sat A ([ai g 221 [d,u,o],cL d 9 aw W,cL o 3 un (ordN W)]++cs) w':=by
 refine aa func166 Y Y<|.h<|.ld 3 hs 0 Y<|.ln 0 (hs.aj 1 Y) Y<|.f Y (.df aw wt bI Y hs Y Y O O O λ l _ s1 _=>have c4:=s1.mn;.al 0 c4 Y λ P _ s2 _ _=>have a2:=s2.mn;.st 0 a2 3 Y (h1:=(a2.aj 2 Y).ae) λ a3 s3 _=>have N:=s3.sn;.j<|.s<|.h<|.ld 3 N 0 Y<|.ln 0 (N.aj 1 Y) Y<|.V Y ?_);have s4:=(N.aC 3 un).mn;have s5:Sat A ([ai g 221 [d,u,.N],cL d 9 aw W,cL l 9 aw ((List.range 0).map (sE W)++List.replicate (I W-0) wt),ai P 28 [l],cL Value.N 3 un ([])]++cs) a3:=by
  have T:List.replicate (I W) wt=(List.range 0).map (sE W)++List.replicate (I W-0) wt:=bw
  rw[<-T];exact s4
 have s6:Sat A ([ai g 221 [d,u,.N],cL d 9 aw W,cL l 9 aw ((List.range 0).map (sE W)++List.replicate (I W-0) wt),ai P 28 [l],cL Value.N 3 un (List.range 0)]++cs) a3:=by
  have T:[]=List.range 0:=rfl;rw[<-T];exact s5
 refine .lq [0,2,14,15] Y (α:=Nat×Value) (λ(k,o)=>[(16,(.I k))]) (λ(k,o) w'=>Sat A (s6.V [(0,ai g 221 [d,u,o]),(2,cL l 9 aw ((List.range k).map (sE W)++List.replicate (I W-k) wt)),(4,cL o 3 un (List.range k))]++cs) w'/\(k<=I W)) (λ(k,o)=>I W-k) (0,.N) ⟨s6,KD _⟩ ?_;rintro⟨k,o⟩ c9 ⟨s7,hk⟩;refine .W Y<|.ab Y (λ c1=>?_) λ c1=>?_
 ·refine .q<|.s ?_;obtain⟨x,K⟩:=ut W k c1;refine .r<|.ix 1 (s7.aj 1 Y) Y<|.le 0 (s7.aj 1 Y) K Y<|.W Y<|have c8:=b3 x (dK K);have D:=(s7.aj (E:=aw) 2 Y).gY bl;.dt [0,1,3,4] s7 Y (pl [0,1,2,1003,4,1005] .fin) λ s8 S1=>.ld 0 S1 2 Y<|.c 2 S1 (C9 x _ O) Y ?_;rintro _ _ ⟨rfl,p1⟩;have s9:=(s8.ay p1).mn;have S2:=s9.pt [0,1,3,4];refine⟨S2,?_⟩;refine .e Y (λ _ s=>.lK bI Y Y D cf) S2<|.f Y (.dJ (a:=(yr x)) 2 mC s9 Y Y Y Y cf λ w6 b4 _=>have p:=b4.sn;have S3:=p.pt [0,1,3,4];⟨S3,?_⟩);refine .fin ?_;have X:Sat A ([ai g 221 [d,u,o],cL d 9 aw W,cL l 9 aw ((List.range (k+1)).map (sE W)++List.replicate (I W-(k+1)) wt),ai P 28 [l],cL o 3 un (List.range k)]++cs) w6:=by
   have T:((List.range k).map (sE W)++List.replicate (I W-k) wt).set k (yr x)=(List.range (k+1)).map (sE W)++List.replicate (I W-(k+1)) wt:=Jt K;rw[<-T];exact p
  exact .r<|.ld 4 X 0 Y<|.b 1 Y (.bS un k bc Y X Y λ v2 _ b5 _=>have q:=b5.mn;.ap 0 q 4 (q.aj 5 Y) Y λ v3 _ b6 _=>have t:=(b6.sn).pt [0,1,2,3,4];.st 2 t 0 Y (h1:=(t.aj 4 Y).ae) λ _ b7 _=>have a0:=b7.sn;.j<|.U Y<|have c0:=(a0.bp 4 Y (show List.range k++[k]=List.range (k+1)from YK.symm)).sn;aP (k+1,v3) ⟨c0,O⟩)
 refine .aq ?_;have R:k=I W:=O
 have c2:=(s7.bp 2 Y (show(List.range k).map (sE W)++List.replicate (I W-k) wt=(List.range (I W)).map (sE W)from by rw[R];simp)).sn;have a1:=(c2.bp 4 Y (show List.range k=List.range (I W) from by rw[R])).sn;refine .r<|.ld 3 a1 0 Y<|.e Y (.kE Y) ?_;have H:=Ik A _ _ 4 (I W) _ (List.range (I W)) 212 #[.P P] (MI W) a1 Y cf (λ x K=>Zt.1 K) TE (λ x y=>Lib.compareBytes (sE W x).data.toList (sE W y).data.toList) (λ x y=>tO _ _) (λ a=>SLt.vJ _) (λ h1 h2=>SLt.tr h1 h2) (λ h1 h2=>SLt.WY h1 h2)
  (λ x y l2 W2 K hy hl hS=>by
   have c6:I ((List.range (I W)).map (sE W))=I W:=bw
   have hc:=Ng P l ((List.range (I W)).map (sE W)) x y W2 (hS.cell (i:=3) (j:=0) Y Y) (hS.aj 2 Y) O O;rw[Ek K,Ek hy]at hc;exact hc)
 refine .c 0 H Y ?_;rintro _ _ ⟨rfl,c5,a9,b2,Q⟩;have a5:c5=ordN W:=AS a6 a9 b2;subst a5;have a4:Sat A ([ai g 221 [d,u,o],cL d 9 aw W,cL l 9 aw ((List.range (I W)).map (sE W)),ai P 28 [l],cL o 3 un (ordN W)]++cs) _:=Q;refine .j ?_;show aE _ _ _ _ _ _;exact cr Y<|have c3:=a4.pt [0,1,4];⟨Y,_,c3⟩
def Gc(v:Value)(vs:List ByteArray)(w:World)(hv:RdL w v aw vs):
  t6 139 [v] w λ r W=>(dW vs≠0/\r= .tuple #[.pointer none,.N,.I ((dW vs:Nat):Int)]/\Sat w [] W)\/(dW vs=0/\∃ g u vc vo vn,r= .tuple #[.P g,vn,.I 0]/\Sat w [ai g 221 [u,vc,vo],cL u 9 aw (ah vs),cL vc 3 un (aJ vs),cL vo 3 un (ordN (ah vs)),cL vn 3 un (vs.map (dL (ah vs)))] W):=by
 refine cd func139 Y λ a3=>.W Y<|.h<|.ln 1 (hv.E a3.E) Y<|.Z Y<|.ab Y (λ c1=>?_) λ c1=>?_
 ·refine .Z Y<|.ret ?_;show aE _ _ _ _ _ _;refine js Y Y Y Y ?_;have N:dW vs=2:=by
   unfold dW;rw[Xp c1]
  rw[N];exact .inl ⟨bl,Y,a3.pk []⟩
 refine .k<|.h<|.f Y (.makeMap a3 λ P _ s2=>?_);refine .W Y<|.h<|.ln 1 (hv.E s2.E) Y<|.V Y<|.lq [0,5,19,20] Y (α:=Nat×dD) (λ(k,m)=>[(21,(.I k))]) (λ(k,m) W=>Sat w [rX P m] W/\(k<=I vs)/\(∀ t,t∈bJ m↔t∈J k vs)/\(∀ t,jd m t=im (J k vs) t)/\(I m<=k)/\(fX vs=fX (ww k vs))) (λ(k,m)=>I vs-k) (0,[]) ⟨s2,KD _,λ t=>by simp[bJ],λ t=>by simp[jd,im],KM _,Y⟩ ?_;rintro⟨k,m⟩ i1 ⟨s3,hk,d,j,h4,H⟩;refine .W Y<|.ab Y (λ c2=>?_) λ c2=>?_
 ·refine .q<|.s ?_;obtain⟨x,l⟩:=ut vs k c2;refine .r<|.ix 0 (hv.E s3.E) Y<|.le 0 (hv.E s3.E) l Y<|.W Y<|.l<|.h<|.a 1 Y (.br underlying9 Y)<|.Z Y<|.ab Y (λ c3=>?_) λ c3=>?_
  ·refine .Z Y<|.ret ?_;show aE _ _ _ _ _ _;refine js Y Y Y Y ?_;have N:dW vs=2:=by
    unfold dW;have h9:fX vs=2:=by rw[H,eo l,fX,Xp c3]
    rw[Xn c1,h9]<;>rfl
   rw[N];exact .inl ⟨bl,Y,s3.pk []⟩
  refine .h<|.cp 1 s3 (gI x _ O) Y λ _ s5=>.e Y (.cK Y)<|.Z Y<|.cond Y (λ c4=>?_) (λ c4=>?_)
  ·refine .Z Y<|.ret ?_;show aE _ _ _ _ _ _;refine js Y Y Y Y ?_;have N:dW vs=7:=by
    unfold dW;have h9:fX vs=7:=by rw[H,eo l,fX,Xn O,Xp a1F]
    rw[Xn c1,h9]<;>rfl
   rw[N];exact .inl ⟨bl,Y,s5.pk []⟩
  refine .k<|.r<|.a 2 Y (.lookup (i:=0) underlying248 underlying9 Tryz.zeroValue3 s5 Y Y Y)<|.e Y (.Me (b:=1) Y Y (by have h1:=j x;have h2:=JU (J k vs) x;have h3:=a1f k vs;omega))<|.f Y (.mapUpdate (i:=0) (c:=((jd m x)+1)) underlying248 underlying9 s5 Y Y Y Y λ _ s7=>?_);have s7:=s7.nn;refine .j<|.U Y ?_;exact aP (k+1,rY m x ((jd m x)+1)) ⟨s7,O,λ t=>by rw[GY,d,cF l,XE,XJ];exact Or.comm,λ t=>by rw[Ji,cF l,lZ,j,j];by_cases e:t=x<;>simp[e,eq_comm];(first|done|(intro h;exact absurd h.symm e)|skip),XL (Aq _ _ _) O,by rw[H,eo l,fX,Xn O,Xn a1F]⟩
 refine .aq<|.s<|.s ?_;have a9:k=I vs:=O
 rw[a9,XH]at d j;rw[a9,a00]at H;have b2:=s3.MA 0 Y;have a2:I m=I (ah vs):=by rw[<-iA];exact H5 b2 d
 have y:=El H;have e8:∀ x∈ah vs,x.size<=120:=λ x l=>(yo H x (cT.1 l)).1;have h5:=bZ vs;refine .r<|.a 1 Y (.U1 (i:=0) underlying248 s3 Y Y)<|.Z Y<|.ab Y (λ c5=>?_) λ c5=>?_
 ·refine .Z Y<|.ret ?_;show aE _ _ _ _ _ _;refine js Y Y Y Y ?_;have N:dW vs=2:=by
   unfold dW;have h9:fX vs=0:=H;rw[Xn c1,Xn a3k,Xp O]
  rw[N];exact .inl ⟨bl,Y,s3.pk []⟩
 refine .k<|.h<|.e Y (.build QL Y trivial Y)<|.bx 0 s3 Y λ b1 _ s9 _ _=>.W Y<|.h<|.b 1 Y (.rangeMap (i:=0) underlying248 s9 Y Y λ g0 _ a4=>?_);have a4:=a4.nn;refine .j<|.l ?_;have g1:=a4.aC 9 aw;have g2:=g1.bp 2 Y (show[]=bJ []from Y);refine .lq [0,5,8,44] Y (α:=dD×Value) (λ(done,u)=>[]) (λ(done,u) W=>Sat w [CV P g0 m done,ai b1 221 [u,.N,.N],cL u 9 aw (bJ done)] W) (λ(done,u)=>I m-I done) ([],.N) g2 ?_;rintro⟨done,u⟩ w7 b3;refine .h<|.f Y (.PY (i:=0) b3 Y Y ?_ ?_)
 ·intro a0;refine .W Y<|.ak Y Y<|.aq<|.s ?_;have a1:(bJ done).Perm (bJ m):=D1 a0;have h0:I (bJ done)=I (ah vs):=by rw[a1.length_eq,iA,a2]
  have e7:jY (bJ done)=ah vs:=rG (a1.nodup_iff.2 b2) (λ x=>by rw[a1.mem_iff];exact d x);have b4:Sat w [rX P m,ai b1 221 [u,.N,.N],cL u 9 aw (bJ done)] w7:=b3.PZ 0 Y;refine .r<|.ld 3 b4 1 Y<|.c 0 (Ij w _ _ 2 _ _ b4 Y O) Y λ r2 _ e3=>?_;obtain⟨rfl,a6⟩:=e3;have e2:Sat w [rX P m,ai b1 221 [u,.N,.N],cL u 9 aw (jY (bJ done))] _:=a6;refine .j<|.s<|.s ?_;have a5:=e2.bp 2 Y (show jY (bJ done)=ah vs from e7);refine .r<|.ld 3 a5 1 Y<|.ln 0 (a5.aj 2 Y) Y<|.V Y ?_;have g3:=a5.aC 3 un;have b5:=g3.bp 3 Y (show[]=(J 0 (ah vs)).map (im vs)from Y);refine .lq [0,5,8,67,68] Y (α:=Nat×Value) (λ(k,vc)=>[(69,(.I k))]) (λ(k,vc) W=>Sat w (b5.U [(1,ai b1 221 [u,vc,.N]),(3,cL vc 3 un ((J k (ah vs)).map (im vs)))]) W/\(k<=I (ah vs))) (λ(k,vc)=>I (ah vs)-k) (0,.N) ⟨b5,KD _⟩ ?_;rintro⟨k,vc⟩ h8 ⟨p,hk⟩;refine .W Y<|.ab Y (λ c6=>?_) λ c6=>?_
  ·refine .q<|.s ?_;obtain⟨x,l⟩:=ut (ah vs) k c6;refine .r<|.ix 0 (p.aj 2 Y) Y<|.le 0 (p.aj 2 Y) l Y<|.Z Y ?_;have e6:=(p.aj (E:=a7 .i64) 3 Y).gY bl;refine .gB [0,1,2] [0,2] p Y Y 12 (pl [0,1,2,3,4,5,6,7,1008,1009] (.loose 10 (pl [11] (.bar 12 .fin)))) mixed F ?_;have b6:=p.drew;have S1:=b6.pk [0,1,2];refine .ld 4 S1 1 Y<|.z 2 S1 Y<|.e Y (λ _ q=>.lookup (i:=0) underlying248 underlying9 Tryz.zeroValue3 q Y Y Y) S1<|.f Y (.bS un (jd m x) bc Y b6 Y λ v1 _ A _=>?_);have A:=A.nn;have S2:=A.pk [0,1,2];refine⟨S2,?_⟩;refine .f Y (.aD 3 bc A Y Y Y underlying22 (A.aj 4 Y) a4R a4R λ v2 _ D _=>?_);have D:=D.pk [0,1,2,3];have S3:=D.pk [0,1,2];refine⟨S3,?_⟩;refine .loose Y Y Y (λ _ q=>.nilCheck Y) S3<|.z 1 S3 Y<|.bar Y Y Y (OpE.aG qp D (i:=1) Y Y Y ((D.aj 3 Y).ae) Y λ _ b7 _=>?_);have S4:=b7.pk [0,2];refine⟨S4,?_⟩;refine .fin<|.U Y ?_;have g4:=b7.bp 3 Y (show(J k (ah vs)).map (im vs)++[(jd m x)]=(J (k+1) (ah vs)).map (im vs)from by rw[cF l,Y0];simp[j]);exact aP (k+1,v2) ⟨g4,O⟩
  refine .aq<|.s ?_;have c0:=p.bp 3 Y (show(J k (ah vs)).map (im vs)=aJ vs from by rw[show k=I (ah vs) by omega,XH]<;>rfl);refine .r<|.z 1 Y ?_;have A1:=c0.tail.oc [1,2,0,3] 2;refine .c 0 (wD _ _ _ _ _ _ (ah vs) A1 y (λ x l=>XL (e8 x l) bl) O ((c0.aj 3 Y).ae)) Y λ r3 _ e4=>?_;obtain⟨rfl,h7,p2⟩:=e4;have c8:=(Sat.order [3,0,1,4,2] bl p2.join).aH.nn;refine .j<|.h<|.ln 1 (hv.E c8.E) Y<|.f Y (.df un 0 bc Y c8 Y Y O O O λ v3 _ c9 _=>?_);refine .W Y<|.h<|.ln 1 (hv.E c9.E) Y<|.V Y ?_;have e0:=c9.bp 5 Y (show List.replicate (I vs) 0=((J 0 vs).map (dL (ah vs))++List.replicate (I vs-0) 0)from bw);refine .lq [8,12,91,92] Y (α:=Nat) (λ k=>[(93,(.I k))]) (λ k W=>Sat w (e0.U [(5,cL v3 3 un ((J k vs).map (dL (ah vs))++List.replicate (I vs-k) 0))]) W/\(k<=I vs)) (λ k=>I vs-k) 0 ⟨e0,KD _⟩ ?_;rintro k i0 ⟨K,hk⟩;refine .W Y<|.ab Y (λ c7=>?_) λ c7=>?_
  ·refine .q<|.s ?_;obtain⟨x,l⟩:=ut vs k c7;refine .r<|.ix 1 (hv.E K.E) Y<|.le 0 (hv.E K.E) l Y<|.Z Y<|.r<|.cq 4 K (Gb _ _ _ _ _ _ _ x _ (K.xW 1 2 3 4 Y Y Y Y) y.1 O) Y λ _ e1=>.ix 3 (e1.aj 5 Y) Y (hj:=cf)<|.f Y (.dJ (a:=(MH (ah vs) x).1) 5 dB e1 Y Y Y Y cf λ _ g5 _=>?_);refine .j<|.U Y ?_;have g6:=g5.bp 5 Y (show((J k vs).map (dL (ah vs))++List.replicate (I vs-k) 0).set k ((MH (ah vs) x).1)=((J (k+1) vs).map (dL (ah vs))++List.replicate (I vs-(k+1)) 0)from H6 l (by rw[O5 y.1 (cT.2 (dK l))]));exact aP (k+1) ⟨g6,O⟩
  refine .aq<|.Z Y<|.ret ?_;show aE _ _ _ _ _ _;refine js Y Y Y Y ?_;have g7:=K.bp 5 Y (show((J k vs).map (dL (ah vs))++List.replicate (I vs-k) 0)=vs.map (dL (ah vs))from by rw[show k=I vs by omega,XH,Y4];simp);have N:dW vs=0:=by
   unfold dW;have h9:fX vs=0:=H;rw[Xn c1,Xn a3k,Xn O]
  exact .inr ⟨N,_,_,_,_,_,Y,g7.pk [1,2,3,4,5]⟩
 intro o Q i2 a0 R;refine .W Y<|.cc Y Y<|.k<|.l<|.s ?_;have e5:=R.TQ 0 Y;refine .r<|.e Y (.entry (i:=0) (done:=done) (s:=o) (c:=Q) R Y Y)<|.Z Y<|.r<|.ld 4 R 1 Y<|.b 1 Y (.bS aw o bI Y R Y λ h6 _ T _=>?_);have T:=T.nn;refine .ap 0 T 2 (T.aj 3 Y) Y (h1:=a4S) (h2:=a4S) λ v5 _ X _=>?_;have X:=X.pk [0,1,2];refine .st 2 X 1 Y (h1:=(X.aj 2 Y).ae) λ _ g8 _=>.j ?_;have g9:=g8.bp 2 Y (show bJ done++[o]=bJ (done++[(o,Q)])from(D2 _ _ _).symm);exact⟨(done++[(o,Q)],v5),(wk Y),g9,(show(I m-I (done++[(o,Q)]))<(I m-I done)from by rw[AT,KP]at e5⊢;omega)⟩
def Cm{W:List ByteArray}{k:Nat}{x:ByteArray}(h:W[k]? =some x):kO W (k:Int)=(x,true):=by
 have:=(KC.1 h).1;unfold kO;rw[Xp O,Zi,cZ h]
def zI{v:Value}{vs:List ByteArray}{w:World}(k:RdL w v aw vs)(h:dW vs=0):t6 139 [v] w λ r W=>∃ g j d o i,r= .tuple #[.P g,i,.I 0]/\Sat w [ai g 221 [j,d,o],cL j 9 aw (ah vs),cL d 3 un (aJ vs),cL o 3 un (ordN (ah vs)),cL i 3 un (vs.map (dL (ah vs)))] W:=
 (Gc v vs w k).mono λ r W q=>by rcases q with⟨H,_⟩|⟨_,h1⟩;exact absurd h H;exact h1
def Il{vs:List ByteArray}(h:dW vs=0):I vs<=4096:=by
 unfold dW at h;split at h
 ·cases h
 omega
def nL{l:List ByteArray}{i c:Nat}(h:(aJ l)[i]? =some c):1<=c:=by
 unfold aJ at h;rw[XF]at h;obtain⟨y,H,rfl⟩:=Yz.1 h;exact Og (cT.1 (Xs H))
def Nh{l:List Nat}{i c:Nat}(h:l[i]? =some c):(l.set i (c+1)).sum=l.sum+1:=by
 induction l generalizing i with
 |nil=>simp at h
 |cons x r d=>
  cases i with
  |zero=>simp at h;subst h;simp;omega
  |succ i=>simp at h;simp[d h];omega
def Cp(vs:List ByteArray):(aJ vs).sum=I vs:=by
 induction vs using u3 with
 |h0=>rfl
 |h1 vs v i=>
  rcases a0y ((ah vs)[dL (ah vs) v]? =some v)with h|h
  ·obtain⟨c,h1,H⟩:=pI h;rw[H,Nh h1,i];simp
  rw[u4 h,a1z,a02,AT,<-i];have:=If List.sum (XV (dL (ah vs) v) (aJ vs));rw[a1z]at this;simp;omega
def zJ(l:List Nat)(k:Nat):(J k l).sum<=l.sum:=by
 have:=If List.sum (XV k l);rw[a1z]at this;omega
def jG{l:List Nat}{k c:Nat}(h:l[k]? =some c):(J (k+1) l).sum=(J k l).sum+c:=by
 rw[cF h,a1z];simp
def DX{vs:List ByteArray}(h:dW vs=0):fX vs=0:=by
 unfold dW at h;split at h
 ·cases h
 split at h
 ·rename_i h1 h2;exact absurd h h2
 rename_i h1 h2;exact Y3.1 h2
def fM:List UInt8->List UInt8->Nat
 |x::a,y::b=>if x=y then fM a b+1 else 0
 |_,_=>0
def bu(a b:ByteArray):Nat:=fM a.data.toList b.data.toList
def DY:∀ (a b:List UInt8),fM a b<=I b
 |x::a,y::b=>by
  have:=DY a b;unfold fM;split
  ·simp;omega
  omega
 |[],_=>by simp[fM]
 |_::_,[]=>by simp[fM]
def y9(a b:ByteArray):bu a b<=b.size:=by have:=DY a.data.toList b.data.toList;rw[tK]at this;exact this
def Im{a b:List UInt8}{k c:Nat}{x y:UInt8}(H:a[k]? =some x)(d:b[k]? =some y)(h:c=k+fM (ww k a) (ww k b))(e:x.toNat=y.toNat):c=k+1+fM (ww (k+1) a) (ww (k+1) b):=by
 have E:x=y:=a0u.1 e;rw[eo H,eo d,fM,Xp E]at h;omega
def Io{a b:List UInt8}{k c:Nat}{x y:UInt8}(H:a[k]? =some x)(d:b[k]? =some y)(h:c=k+fM (ww k a) (ww k b))(e:¬ x.toNat=y.toNat):c=k:=by
 rw[eo H,eo d,fM,Xn λ E=>e (by rw[E])]at h;exact h
def zK{a b:List UInt8}{k c:Nat}(H:I a<=k)(h:c=k+fM (ww k a) (ww k b)):c=k:=by
 rw[Yo H]at h;simpa[fM]using h
def zL{a b:List UInt8}{k c:Nat}(H:I b<=k)(h:c=k+fM (ww k a) (ww k b)):c=k:=by
 rw[Yo H]at h;cases hd:ww k a with
 |nil=>rw[hd]at h;simpa[fM]using h
 |cons x r=>rw[hd]at h;simpa[fM]using h
def eS(W:List ByteArray)(k:Nat):ByteArray:=if k=0 then ws #[]else W.getD (k-1) wt
def yb(p x:ByteArray)(c:Nat):List Nat:=uv (bu p x)++uv (x.size-bu p x)++bL (x.extract (bu p x) x.size)++uv (c-1)
def dy(W:List ByteArray)(C:List Nat):Nat->List Nat
 |0=>uv (I W)
 |k+1=>dy W C k++yb (eS W k) (W.getD k wt) (C.getD k 0)
def rC(p x:ByteArray)(c:Nat):I (yb p x c)<=x.size+30:=by
 have H:=aF (bu p x);have d:=aF (x.size-bu p x);have g:=aF (c-1);unfold yb;simp only[AT,aB,XB];omega
def ir(W:List ByteArray)(C:List Nat):∀ k,∀ x∈dy W C k,x<256
 |0,x,h=>dG _ x h
 |k+1,x,h=>by
  simp only[dy,yb,XE]at h;rcases h with h|(((h|h)|h)|h)
  ·exact ir W C k x h
  ·exact dG _ x h
  ·exact dG _ x h
  ·exact mR _ x h
  exact dG _ x h
def ez{W:List ByteArray}(C:List Nat)(h:∀ x∈W,x.size<=120):∀ k,k<=I W->I (dy W C k)<=10+k*150
 |0,_=>by have:=aF (I W);simp only[dy];omega
 |k+1,hk=>by
  have i:=ez C h k O;have H:W[k]? =some W[k]:=py O;have g:=h _ (Xs H);have d:=rC (eS W k) (W.getD k wt) (C.getD k 0);rw[cZ H]at d;simp only[dy,AT,cZ H];omega
def qC{W:List ByteArray}{C:List Nat}{k c:Nat}{p x:ByteArray}(g:W[k]? =some x)(H:C[k]? =some c)(d:p=eS W k):dy W C k++uv (bu p x)++uv (x.size-bu p x)++bL (x.extract (bu p x) x.size)++uv (c-1)=dy W C (k+1):=by
 simp only[dy,yb,cZ g,cZ H,<-d,KW]
def Gd(a b:ByteArray)(w:World)(K:a.size<=1000000):
  t6 194 [(.string a),(.string b)] w λ r W=>r= .I ((bu a b:Nat):Int)/\Sat w [] W:=by
 refine cd func194 Y λ o=>.Z Y<|.W Y<|.l<|.lq [0,1] Y (α:=Nat) (λ k=>[(5,(.I k))]) (λ k W=>Sat w [] W/\(k<=a.size)/\(bu a b=k+fM (ww k a.data.toList) (ww k b.data.toList))) (λ k=>a.size-k) 0 ⟨o,KD _,by rw[YR,YR,XU]<;>rfl⟩ ?_;rintro k P ⟨u,N,d⟩;refine .s<|.s ?_;rcases(show¬ k<a.size\/(k<a.size/\¬ k<b.size)\/(k<a.size/\k<b.size) by omega)with H|H|H
 ·refine .dk [] u Y (pl [0,1,2,3,4,5,6,7,8,9,10,11,12,13,14,15,16,17,18] .fin) λ D j=>.z 2 j Y<|.e Y (λ _ s=>.br underlying9 Y) j<|.z 2 j Y<|.Gf 10 Y (IN H)<|.Z j Y<|.ak Y Y<|.aq<|.Z Y<|.ax Y Y ?_;have q:bu a b=k:=zK a0Z d;rw[q];exact⟨Y,D⟩
 ·refine .dk [] u Y (pl [0,1,2,3,4,5,6,7,8,9,10,11,12,13,14,15,16,17,18] .fin) λ E i=>.z 2 i Y<|.e Y (λ _ s=>.br underlying9 Y) i<|.z 2 i Y<|.Gt 10 Y (LW H.1)<|.a 2 i Y (λ _ s=>.br underlying9 Y)<|.z 3 i Y<|.Gf 16 Y (IN H.2)<|.Z i Y<|.ak Y Y<|.aq<|.Z Y<|.ax Y Y ?_;have q:bu a b=k:=zL a0Z d;rw[q];exact⟨Y,E⟩
 obtain⟨x,p⟩:=ut a.data.toList k a0Z;obtain⟨y,t⟩:=ut b.data.toList k a0Z;refine .dk [] u Y (pl [0,1,2,3,4,5,6,7,8,9,10,11,12,13,14,15,16,17,18] .fin) λ A g=>.z 2 g Y<|.e Y (λ _ s=>.br underlying9 Y) g<|.z 2 g Y<|.Gt 10 Y (LW H.1)<|.a 2 g Y (λ _ s=>.br underlying9 Y)<|.z 3 g Y<|.Gt 16 Y (LW H.2)<|.a 2 g Y (λ _ s=>.eY underlying9 Y Y p)<|.a 2 g Y (λ _ s=>.eY underlying9 Y Y t)<|.Z g Y<|.ab Y (λ l=>?_) λ l=>?_
 ·exact .k<|.l<|.U Y<|aP (k+1) ⟨A,O,Im p t d l⟩
 refine .aq<|.Z Y<|.ax Y Y ?_;have q:bu a b=k:=Io p t d l;rw[q];exact⟨Y,A⟩
def wE(g:Nat)(vw vc vo:Value)(W:List ByteArray)(C o:List Nat)(w:World)(h:LexAt w g vw vc vo W C o)(a0:I C=I W)(i:∀ x∈W,x.size<=120)(hC:∀ c∈C,1<=c/\c<=1000000)(hn:I W<=10000):
  t6 140 [(.P g)] w λ r N=>Sat w [cL r 5 t1 (aQ (dy W C (I W)))] N:=by
 refine cd func140 Y λ d=>.Z Y<|.h<|.a 3 Y (.load fB Y (d.E _ _ h.c0))<|.ln 0 (h.hW.E d.E) Y<|.c 1 (dM Value.N ([]) (I W) _ (RdL.nil _ _) (KD _) O) Y λ r1 _ R=>have s1:=d.ay R;.Z Y<|.W Y<|.s<|have K:=s1.bp 0 Y (show uv (I W)=dy W C 0 from Y);.r<|.a 3 Y (.load fB Y (K.E _ _ h.c0))<|.ln 0 (h.hW.E K.E) Y<|.V Y<|.lq [0,18,19] Y (α:=Nat×ByteArray×Value) (λ(k,p,v)=>[(3,v),(4,(.string p)),(20,(.I k))]) (λ(k,p,v) N=>Sat w [cL v 5 t1 (dy W C k)] N/\(k<=I W)/\(p=eS W k)/\(p.size<=120)) (λ(k,p,v)=>I W-k) (0,(ws #[]),r1) ⟨K,KD _,Y,KD _⟩ ?_;rintro⟨k,p,v⟩ a9 ⟨y,hk,hp,a3⟩;refine .W Y<|.ab Y (λ j=>?_) λ j=>?_
 ·refine .q<|.s ?_;obtain⟨x,u⟩:=ut W k j;obtain⟨c,H⟩:=ut C k O;have D:=i x (Xs u);have a1:=hC c (Xs H);have a2:=y9 p x;have A:=ez C i k O;have a4:=aF (bu p x);have a5:=aF (x.size-bu p x);have a6:=aF (c-1);exact .r<|.ix 1 (h.hW.E y.E) Y<|.le 0 (h.hW.E y.E) u Y<|.Z Y<|.h<|.cq 2 y (Gd p x _ O) Y λ _ P=>.Z Y<|.h<|.c 3 (dM v (dy W C k) (bu p x) _ (P.aj 0 Y) fr O) Y λ r3 _ T=>have Q:=P.ay T;.Z Y<|.h<|.a 2 Y (.br underlying9 Y)<|.c 3 (dM r3 (dy W C k++uv (bu p x)) (x.size-(bu p x)) _ (Q.aj 1 Y) fr O) Y λ r4 _ X=>have s6:=Q.ay X;.Z Y<|.h<|.a 3 Y (.eF (l:=(bu p x)) (h:=x.size) underlying9 Y ⟨_,Y⟩ Y O O)<|.f Y (.fJ 2 cy s6 Y Y Y (lU underlying9 _) a0J a0J λ v1 _ t _=>.Z Y<|.h<|.a 4 Y (.load gy Y (t.E _ _ h.c1))<|.ix 1 (h.hC.E t.E) Y<|.le 0 (h.hC.E t.E) H Y<|.c 2 (dM v1 (dy W C k++uv (bu p x)++uv (x.size-(bu p x))++bL (x.extract (bu p x) x.size)) (c-1) _ (t.aj 2 Y) fr O) Y λ r5 _ h5=>have s8:=(t.ay h5).nn;.Z Y<|.trim [0,3,4,5,6,7,18,19,20] Y<|.U Y<|.U Y<|have s9:=s8.bp 3 Y (show dy W C k++uv (bu p x)++uv (x.size-(bu p x))++bL (x.extract (bu p x) x.size)++uv (c-1)=dy W C (k+1)from qC u H hp);aP (k+1,x,r5) ⟨s9.pk [3],O,by unfold eS;rw[Xn O,Yh,cZ u],D⟩)
 exact .aq<|.s<|have q:=y.bp 0 Y (show dy W C k=dy W C (I W) from a4T);have A:=ez C i (I W) (KM _);.r<|.c 1 (sq _ (dy W C (I W)) _ (q.aj 0 Y) (ir W C _) O) Y λ r6 _ h6=>have E:=(q.ay h6).nn;.Z Y<|.ax Y Y<|E.pk [1]
