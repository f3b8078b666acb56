/-The walks of the functions of F01,printed by our own program (kwgen.py) out of our descriptions (base.py). -/
import Derived.Test.YtcgidfgdbhihbaaGreatDoorKc
import Derived.Test.YtcgidfgdbhihbaaGreatDoorShelf
import Derived.Test.YtcgidfgdbhihbaaGreatDoorTab
open List renaming length→I,take→J,drop→ww
set_option linter.all false
set_option maxRecDepth 100000
open List
open Go.Proofs.Tryz
namespace Go.Proofs.YtcgidfgdbhihbaaGreatDoor
open Go.RowKit Go.Kw
def oM(s:ByteArray)(w:World):
  t6 208 [(.string s)] w λ r W=>∃ b,r= .func (.func 249) #[] #[.P b]/\Sat w [ai b 9 [.string s]] W:=cd func208 Y λ H=>.h<|.bx 0 H Y λ g _ d _ _=>.Z Y<|.h<|.e Y (.kE Y)<|.Z Y<|.ax Y Y ⟨_,Y,d⟩
def FN(W w:World)(s:ByteArray)(bs:Nat)(hn:s.size<=1000000){G:Type}(l:Nat)(C X:List Un->G->List Chunk)(ds:List Chunk)(g0:G)(a1:Sat W ([ai bs 9 [.string s]]++(C [] g0++ds)) w)
  (hr:∀ d u R w2 es g,dh s.data.toList=d++u::R->Sat W (C d g++es) w2->YieldV prog l [gJ.ag u] w2 λ b w3=>(b=true/\∃ g',Sat W (C (d++[u]) g'++es) w3)\/(b=false/\∃ g',Sat W (X (d++[u]) g'++es) w3)):
  t6 249 [(.func (.yield l) #[] #[]),(.P bs)] w λ _ w'=>(∃ g,Sat W ([ai bs 9 [.string s]]++(C (dh s.data.toList) g++ds)) w')\/∃ d u R g,dh s.data.toList=d++u::R/\Sat W ([ai bs 9 [.string s]]++(X (d++[u]) g++ds)) w':=by
 obtain⟨t,H⟩:∃ t,t=C [] g0++ds:=⟨_,Y⟩;rw[<-H]at a1;refine aa func249 Y Y<|.h<|.e Y (.build M7 Y ⟨Y,trivial⟩ Y)<|.al 0 a1 Y λ P _ s1 _ _=>have c1:=s1.mn;.sa 0 c1 1 (vs:=[(.int .i32 (0:Nat)),(.I (-1)),(.I (0:Nat))]) Y t7 λ _ s2 _=>have a4:=s2.sn;.j<|.s<|.h<|.ld 0 a4 0 Y<|.f Y (.mI underlying9 a4 Y λ p _ s3=>have a5:=s3.mn;.j<|.l<|.lq [0,1,3,8] Y (α:=Nat×Nat×Int×Int×List Un×G×List Chunk) (λ(i,r,a,z,d,D,t)=>[]) (λ(i,r,a,z,d,D,t) w'=>Sat W (a5.V [(1,ai P 276 [(.int .i32 r),(.I a),(.I z)]),(2,oh p s i)]++t) w'/\(i<=s.size)/\(t=C d D++ds)/\((a= -1/\i=0/\d=[])\/(∃ k:Nat,a=(k:Int)/\k<i/\dh s.data.toList=d++⟨r,k,i-k⟩::cv s.data.toList i))) (λ(i,r,a,z,d,D,t)=>s.size-i) (0,0,(-1),0,[],g0,t) ⟨a5,KD _,H,.inl ⟨Y,Y,Y⟩⟩ ?_);rintro⟨i,r,a,z,d,D,t⟩ c4 ⟨s4,hi,H,hp⟩;refine .h<|.f Y (.qu (i:=2) s4 Y Y ?_ ?_)
 ·intro o;refine .W Y<|.ak Y Y<|.aq<|.s ?_;rcases hp with⟨rfl,a0,Q⟩|⟨k,rfl,ha',hu⟩
  ·refine .r<|.ld 0 s4 0 Y<|.e Y (.br underlying9 Y)<|.ld 1 s4 1 Y<|.e Y (.sub Y Y en)<|.st 1 s4 1 Y λ _ s6 _=>have a6:=s6.sn;.j<|.h<|.ld 1 a6 1 Y<|.e Y (.geq Y Y)<|.j<|.ak Y (IN O)<|.k ?_;show aE _ _ _ _ _ _;refine cr Y ?_;have b3:dh s.data.toList=[]:=by have:=sA (s:=s) (i:=0) O;exact this
   rw[Q]at H;subst H;rw[b3];exact .inl ⟨D,a6.sub (.cons_cons _ (.cons _ (.cons _ (.refl _))))⟩
  have b2:i=s.size:=O
  rw[b2,sA (KM _)]at hu;refine .r<|.ld 0 s4 0 Y<|.e Y (.br underlying9 Y)<|.ld 1 s4 1 Y<|.st 2 s4 1 Y λ w7 s7 _=>have K:=s7.sn;.j<|.h<|.ld 1 K 1 Y<|.Z Y<|.cc Y (LW O)<|.zq<|RTI.ev Y Y (Ev.move Y)<|RTI.ev Y Y (Ev.dV mF Y K (i:=1) Y Y) ?_;have b4:Sat W (C d D++([ai bs 9 [(.string s)],ai P 276 [(.int .i32 r),(.I k),(.I ((s.size-k):Nat))],oh p s i]++ds)) w7:=by rw[H]at K;exact Sat.swap (A:=[ai bs 9 [(.string s)],ai P 276 [(.int .i32 r),(.I k),(.I ((s.size-k):Nat))],oh p s i]) K
  refine RTI.yield Y Y Y Y (YieldV.mono (hr d ⟨r,k,(s.size-k)⟩ [] _ ([ai bs 9 [(.string s)],ai P 276 [(.int .i32 r),(.I k),(.I ((s.size-k):Nat))],oh p s i]++ds) D hu b4) ?_);rintro c6 c5 (⟨rfl,g1,s8⟩|⟨rfl,g1,s8⟩)
  ·have N:=s8.swap;obtain⟨t,H⟩:∃ t,t=C (d++[⟨r,k,(s.size-k)⟩]) g1++ds:=⟨_,Y⟩;rw[<-H]at N;refine RTI.nil ?_;show aE _ _ _ _ _ _;refine cr Y ?_;subst H;rw[hu];exact .inl ⟨g1,N.sub (.cons_cons _ (.cons _ (.cons _ (.refl _))))⟩
  have N:=s8.swap;refine RTI.nil ?_;show aE _ _ _ _ _ _;exact cr Y<|.inr ⟨d,⟨r,k,(s.size-k)⟩,_,g1,hu,N.sub (.cons_cons _ (.cons _ (.cons _ (.refl _))))⟩
 intro w5 o s5;have E:=s5.sn;refine .W Y<|.cc Y Y<|.k<|.l<|.W Y ?_;rcases hp with⟨rfl,a0,Q⟩|⟨k,rfl,ha',hu⟩
 ·exact .r<|.ld 2 E 1 Y<|.e Y (.sub Y Y en)<|.st 1 E 1 Y λ _ s9 _=>have a9:=s9.sn;.j<|.s<|.s<|.zq<|RTI.ev Y Y (Ev.fieldAddr mE Y Y)<|RTI.ev Y Y (Ev.load ca Y (a9.cell (i:=1) (j:=1) Y Y))<|RTI.ev Y Y (Ev.geq Y Y)<|RTI.ev Y Y (Ev.move Y)<|RTI.no Y Y Y (IN O) Y<|RTI.no Y Y Y (IN O) Y<|RTI.no Y Y Y (IN O) Y<|RTI.no Y Y Y (IN O) Y<|RTI.ev Y Y (Ev.VN Y (IN O) Y)<|RTI.nil<|.ak Y Y<|.k<|.r<|.a 2 Y (.build M7 Y ⟨Y,Y,trivial⟩ Y)<|.sa 0 a9 1 (vs:=[(.int .i32 ((dec (ww i s.data.toList)).1:Nat)),(.I i),(.I (0:Nat))]) Y t7 λ _ b6 _=>have a2:=b6.sn;.j ⟨(i+(dec (ww i s.data.toList)).2,(dec (ww i s.data.toList)).1,((i:Nat):Int),0,d,D,t),(wk Y),⟨a2,ee o,H,.inr ⟨i,Y,a0U,by subst Q;subst a0;exact iX o⟩⟩,(show(s.size-(i+(dec (ww i s.data.toList)).2))<(s.size-i)from a3g)⟩
 refine .r<|.ld 2 E 1 Y<|.st 2 E 1 Y λ c2 b7 _=>have q:=b7.sn;.j<|.s<|.s<|.zq<|RTI.ev Y Y (Ev.fieldAddr mE Y Y)<|RTI.ev Y Y (Ev.load ca Y (q.cell (i:=1) (j:=1) Y Y))<|RTI.ev Y Y (Ev.W6 (b:=0) Y Y)<|RTI.ev Y Y (Ev.move Y)<|RTI.yes Y Y Y (LW O)<|RTI.ev Y Y (Ev.move Y)<|RTI.yes Y Y Y (LW O)<|RTI.ev Y Y (Ev.dV mF Y q (i:=1) Y Y)<|RTI.yes Y Y Y (LW O) ?_;have b5:Sat W (C d D++([ai bs 9 [(.string s)],ai P 276 [(.int .i32 r),(.I k),(.I ((i-k):Nat))],oh p s (i+(dec (ww i s.data.toList)).2)]++ds)) c2:=by rw[H]at q;exact Sat.swap (A:=[ai bs 9 [(.string s)],ai P 276 [(.int .i32 r),(.I k),(.I ((i-k):Nat))],oh p s (i+(dec (ww i s.data.toList)).2)]) q
 refine RTI.yield Y Y Y Y (YieldV.mono (hr d ⟨r,k,(i-k)⟩ _ _ ([ai bs 9 [(.string s)],ai P 276 [(.int .i32 r),(.I k),(.I ((i-k):Nat))],oh p s (i+(dec (ww i s.data.toList)).2)]++ds) D hu b5) ?_);rintro c7 c3 (⟨rfl,g2,T⟩|⟨rfl,g2,T⟩)
 ·have y:=T.swap;obtain⟨t,H⟩:∃ t,t=C (d++[⟨r,k,(i-k)⟩]) g2++ds:=⟨_,Y⟩;rw[<-H]at y;exact RTI.yes Y Y Y (LW O)<|RTI.ev Y Y (Ev.cK Y)<|RTI.ev Y Y (Ev.QU Y (LW O) Y)<|RTI.nil<|.ak Y Y<|.k<|.r<|.a 2 Y (.build M7 Y ⟨Y,Y,trivial⟩ Y)<|.sa 0 y 1 (vs:=[(.int .i32 ((dec (ww i s.data.toList)).1:Nat)),(.I i),(.I (0:Nat))]) Y t7 λ _ c0 _=>have a3:=c0.sn;.j ⟨(i+(dec (ww i s.data.toList)).2,(dec (ww i s.data.toList)).1,((i:Nat):Int),0,d++[⟨r,k,(i-k)⟩],g2,t),(wk Y),⟨a3,ee o,H,.inr ⟨i,Y,a0U,by rw[hu,iX o];simp⟩⟩,(show(s.size-(i+(dec (ww i s.data.toList)).2))<(s.size-i)from a3g)⟩
 have y:=T.swap;refine RTI.yes Y Y Y (LW O)<|RTI.ev Y Y (Ev.cK Y)<|RTI.ev Y Y (Ev.QU Y (LW O) Y)<|RTI.nil<|.cc Y Y<|.ret ?_;show aE _ _ _ _ _ _;exact cr Y<|.inr ⟨d,⟨r,k,(i-k)⟩,_,g2,hu,y.sub (.cons_cons _ (.cons _ (.cons _ (.refl _))))⟩
def kH(W:World)(s:ByteArray)(bs:Nat)(H:s.size<=1000000):Jj prog 249 [.P bs] (λ u=>[gJ.ag u]) (dh s.data.toList) [ai bs 9 [.string s]] W:=
 λ _ l C X d w g i r=>FN W w s bs H l C X d g i r
def FO(u:Un)(w:World):
  t6 209 [((gJ).ag u)] w λ r W=>r= .bool u.ok/\Sat w [] W:=by
 refine cd func209 Y λ H=>.h<|.bx 0 H Y λ k _ d _ _=>.W Y<|.bM 2 ((u.r≠65533)\/(u.size=3)) ?_ ?_
 ·refine .ld 1 d 0 Y<|.z 2 Y<|.B 6 Y (λ g=>?_) λ g=>?_
  ·refine .M Y a0G
  refine .ld 1 d 0 Y<|.M Y a0G
 refine .ax Y Y ?_;have q:u.ok=decide ((u.r≠65533)\/(u.size=3)):=by by_cases i:u.r=65533<;>by_cases j:u.size=3<;>simp[Un.ok,i,j]
 rw[q];exact⟨Y,d.pk []⟩
def MO(s:ByteArray)(w:World)(W:s.size<=1000000):
  t6 250 [(.string s)] w λ r w'=>Sat w [cL r 276 gJ (dh s.data.toList)] w':=by
 have E:=Sat.start w;refine iz func250 Y Y<|CT.seq<|.U Y<|CT.seq<|.r<|.al 0 E Y λ k _ s1 _ _=>.j<|CT.PU<|have s2:=s1.aC 276 gJ;.r<|.c 1 (oM s _) Y ?_;rintro _ _ ⟨d,rfl,X⟩;have s3:=s2.ay X;refine .j ?_;refine pq (own:=[ai d 9 [(.string s)]]) (cs:=[]) (enc:=λ u=>gJ.ag u) (us:=dh s.data.toList) (λ done (g:Value)=>[ai k 317 [g],cL g 276 gJ done]) (λ done (g:Value)=>[fC False])
  (λ u b=>[(3,(.P k)),(4,(.P b))]) (λ done (g:Value) u b=>[ai k 317 [g],cL g 276 gJ done,ai b 276 [(.int .i32 u.r),(.I u.at_),(.I u.size)]]) Value.N Y Y zi s3 (kH _ _ _ W) ?_ ?_ ?_ ?_
 ·intro lp done u t w2 T g q H;refine CWR.weaken [(3,(.P k)),(7,((gJ).ag u))] ⟨Y,Y,trivial⟩ ?_;refine CWR.region a0M ?_;refine .f Y (.alloc H qt λ R _ s4 _ _=>?_);have N:=s4.mn;refine .f Y (.bo (vs:=(gJ).enc u) mF N (i:=2) Y Y Y Y ((gJ).one _) λ _ s5 _=>?_);have P:=s5.sn;refine .j ?_;exact⟨R,⟨Y,Y,trivial⟩,P⟩
 ·intro lp done u t b w2 T g q H;refine CWR.block ?_;refine CWR.region a0M ?_;refine .e Y (.load PH Y (H.cell (i:=0) (j:=0) Y Y))<|.e Y (.dV mF Y H (i:=2) Y Y)<|.f Y (.bO gJ u M9 bl bl H Y λ v1 _ s6 _=>?_);have o:=s6.mn;refine .f Y (.aD 1 M9 o Y Y Y underlying317 (o.aj 3 Y) (by have y:=gp s.data.toList;have A:=If List.length q;rw[tK]at y;simp only[AT,No,Xv]at A⊢;omega) (by have y:=gp s.data.toList;have A:=If List.length q;rw[tK]at y;simp only[AT,No,Xv]at A⊢;omega) λ v2 _ s7 _=>?_);have p:=(s7.sn).pt [0,1,2];refine .f Y (.aG To p (i:=0) Y Y Y ((p.aj 1 Y).ae) Y λ _ s8 _=>?_);have Q:=s8.sn;refine .j ?_;have s9:=Q.pt [0,1];exact⟨_,s9⟩
 ·intro D w2 g H;have l:Sat w [ai k 317 [g],cL g 276 gJ (dh s.data.toList),ai d 9 [(.string s)],iy D (some [])] w2:=H;refine .ld 0 l 0 Y<|.Z Y ⟨[ai k 317 [g],cL g 276 gJ (dh s.data.toList),ai d 9 [(.string s)]],l,λ w3 K=>?_⟩;exact JK Y Y (K.sub (.cons _ (.cons_cons _ (.cons _ (.cons _ .slnil)))))
 intro done u t D w2 g q H;exact H.lz.elim
def gI(s:ByteArray)(w:World)(hn:s.size<=1000000):
  t6 164 [(.string s)] w λ r w'=>r= .bool (dA s)/\Sat w [] w':=by
 have Q:=Sat.start w;refine iz func164 Y Y<|CT.seq<|.r<|.al 0 Q Y λ g _ s1 _ _=>.j<|CT.PU<|have s2:Sat w [fC (∀ u∈([]:List Un),u.ok=true),ai g 4 [(.bool false)]] _:=s1.pure (p:=∀ u∈([]:List Un),u.ok=true) bw;.r<|.c 1 (oM s _) Y ?_;rintro _ _ ⟨y,rfl,p1⟩;have s3:=s2.ay p1;refine .j ?_;refine pq (own:=[ai y 9 [(.string s)]]) (cs:=[]) (enc:=λ u=>gJ.ag u) (us:=dh s.data.toList) (λ d (A:Unit)=>[fC (∀ u∈d,u.ok=true),ai g 4 [(.bool false)]]) (λ d (A:Unit)=>[fC (∃ u∈d,u.ok=false),ai g 4 [(.bool false)]])
  (λ u b=>[(2,(.P g)),(3,(.P b))]) (λ d (A:Unit) u b=>[fC (∀ u∈d,u.ok=true),ai g 4 [(.bool false)],ai b 276 [(.int .i32 u.r),(.I u.at_),(.I u.size)]]) () Y Y zi s3 (kH _ _ _ hn) ?_ ?_ ?_ ?_
 ·intro lp d u t w2 ds A R H;refine CWR.weaken [(2,(.P g)),(6,((gJ).ag u))] ⟨Y,Y,trivial⟩ ?_;refine CWR.region a0M ?_;refine .f Y (.alloc H qt λ b2 _ s4 _ _=>?_);have T:=s4.mn;refine .f Y (.bo (vs:=(gJ).enc u) mF T (i:=2) Y Y Y Y ((gJ).one _) λ _ s5 _=>?_);have W:=s5.sn;refine .j ?_;exact⟨b2,⟨Y,Y,trivial⟩,W⟩
 ·intro lp d u t b w2 ds A R H;refine CWR.block<|CWR.seq<|CWR.region a0M<|.e Y (.dV mF Y H (i:=2) Y Y)<|.f Y (.call TD Y ((FO u _).mono ?_));rintro _ _ ⟨rfl,p2⟩;have s6:=(H.ay p2).mn;refine .e Y (.cK Y)<|.j<|CWR.cond Y (λ P=>?_) (λ P=>?_)
  ·exact CWR.seq<|CWR.region a0M<|.f Y (.aG LP s6 (i:=1) Y Y Y Y Y λ _ s7 _=>have X:=s7.sn;.j<|CWR.ret<|have s8:=X.pt [0,1];⟨(),s8.zl (q:=∃ v∈d++[u],v.ok=false) (λ _=>⟨u,bw,a4F⟩)⟩)
  exact CWR.skip<|have s9:=s6.pt [0,1];⟨(),s9.zl (q:=∀ v∈d++[u],v.ok=true) (λ hp v l=>by rcases XE.1 l with l|l;exact hp v l;rw[XJ.1 l];simpa using P)⟩
 ·intro D w2 A H;have K:Sat w [fC (∀ u∈(dh s.data.toList),u.ok=true),_,ai y 9 [(.string s)],iy D (some [])] w2:=H;refine .st 0 K 1 Y λ _ o _=>have o:=o.nn;.j ⟨[fC (∀ u∈(dh s.data.toList),u.ok=true),ai g 4 [(.bool true)],ai y 9 [(.string s)]],o,λ w3 N=>?_⟩;have k:dA s=true:=Y6.2 K.lz;exact Jp Y Y fI (N.cell (i:=1) (j:=0) Y Y) ⟨by rw[k],N.sub (.cons _ (.cons _ (.cons _ (.cons _ .slnil))))⟩
 intro d u t D w2 A R H;obtain⟨v,l,E⟩:=H.lz;have k:dA s=false:=by
  cases hq:dA s with
  |false=>rfl
  |true=>
   have:=Y6.1 hq v (by rw[R];rw[show d++u::t=(d++[u])++t by simp];exact YM _ l);rw[E]at this;cases this
 exact Jp Y Y fI (H.cell (i:=1) (j:=0) Y Y) ⟨by rw[k],H.sub (.cons _ (.cons _ (.cons _ (.cons _ .slnil))))⟩
def C9(s:ByteArray)(w:World)(hn:s.size<=1000000):
  t6 210 [(.string s)] w λ r W=>r= .string (yr s)/\Sat w [] W:=by
 refine cd func210 Y λ p=>.Z Y<|.h<|.c 1 (MO s _ hn) Y λ r1 _ X=>have s1:=p.ay X;.Z Y<|.h<|.a 1 Y (.br underlying9 Y)<|.f Y (.df t1 0 (l:=0) cy Y s1 Y Y O O O λ v1 _ K _=>.W Y<|.s ?_);have y:=gp s.data.toList;rw[tK]at y;refine .r<|.ln 1 (K.aj 0 Y) Y<|.e Y (.sub (b:=(1:Int)) Y Y en)<|.V Y<|.lq [0,3] Y (α:=Nat×Value×List Nat) (λ(g,v,A)=>[(4,v),(5,(.I (((g:Nat):Int)-1)))]) (λ(g,v,A) W=>Sat w (K.U [(1,cL v 5 t1 A)]) W/\(g<=I (dh s.data.toList))/\(A=CY s (ww g (dh s.data.toList)))/\(I A<=(I (dh s.data.toList)-g)*1000000)) (λ(g,v,A)=>g) (I (dh s.data.toList),v1,[]) ⟨K,KM _,by rw[a00]<;>rfl,KD _⟩ ?_;rintro⟨g,v,A⟩ a1 ⟨k,hm,H,P⟩;refine .s<|.h<|.a 1 Y (.geq Y Y)<|.j<|.ab Y (λ R=>?_) λ R=>?_
 ·refine .q ?_;obtain⟨j,rfl⟩:∃ j,g=j+1:=⟨g-1,O⟩;refine .weaken [(0,_),(3,_),(4,_),(5,(.I j)),(14,_)] ⟨Y,Y,Y,If some (If (Value.I) O),Y,trivial⟩ ?_;obtain⟨u,i⟩:=ut (dh s.data.toList) j O;have D:=(AM s.data.toList u (Xs i)).1;rw[tK]at D;have o:=eo i;have a0:I (bL (s.extract u.at_ (u.at_+u.size)))<=1000000:=by rw[aB,XB];omega
  have t:=(k.aj (E:=a7 .u8) 1 Y).gY bl;refine .dk [0] k Y (pl [0,1,2,3,4,5,6,7,8,9,10,11,12,13,14,15,16,17,18,1019,20] .fin) λ s4 d=>.ix 4 d (·.aj 0 Y) Y<|.fl 0 d (·.aj 0 Y) Y<|.lf 0 d (·.aj 0 Y) i Y<|.ix 2 d (·.aj 0 Y) Y<|.fl 0 d (·.aj 0 Y) Y<|.lf 0 d (·.aj 0 Y) i Y<|.ix 2 d (·.aj 0 Y) Y<|.fl 0 d (·.aj 0 Y) Y<|.lf 0 d (·.aj 0 Y) i Y<|.z 1 d Y<|.e Y (λ _ q=>.eF (l:=u.at_) (h:=(u.at_+u.size)) underlying9 Y ⟨_,Y⟩ ⟨_,Y⟩ O O) d<|.f Y (.fJ 1 cy s4 Y Y Y (lU underlying9 _) O O λ v2 _ Q _=>have N:=Q.pk [0];⟨N,?_⟩);exact .Z N Y<|.r<|.a 1 Y (.sub (b:=(1:Int)) Y Y en)<|.Z Y ⟨(j,v2,A++bL (s.extract u.at_ (u.at_+u.size))),(wk Y),⟨Q,O,by rw[H,o,H0],se⟩,(show(j)<(j+1)from O)⟩
 refine .aq<|.h<|.a 1 Y (.dr underlying58 underlying9 underlying5 Y (k.aj 1 Y))<|.Z Y<|.ax Y Y ?_;have T:g=0:=O
 subst T;rw[H,YR,Jn,Jm];exact⟨Y,k.pk []⟩
def FP(s:ByteArray)(w:World)(hn:s.size<=1000000):
  t6 202 [(.string s)] w λ r W=>Sat w [cL r 262 lA ((dh s.data.toList).map vP)] W:=by
 refine cd func202 Y λ a1=>.Z Y<|.W Y<|.s<|have s1:=a1.aC 262 lA;.r<|.b 1 Y (.mI underlying9 s1 Y λ a5 _ s2=>.j<|.l<|.lq [0,8] Y (α:=Nat×Value×List RU×List Un) (λ(i,v,l,d)=>[(3,v)]) (λ(i,v,l,d) W=>Sat w [cL v 262 lA l,oh a5 s i] W/\(i<=s.size)/\(I l<=i)/\((i=0/\d=[]/\l=[])\/(∃ r a,a<i/\l=d.map mQ++[⟨r,a,0,false⟩]/\dh s.data.toList=d++⟨r,a,i-a⟩::cv s.data.toList i))) (λ(i,v,l,d)=>s.size-i) (0,.N,[],[]) ⟨s2,KD _,KM _,.inl ⟨Y,Y,Y⟩⟩ ?_);rintro⟨i,v,l,d⟩ c5 ⟨q,hi,c3,hp⟩;refine .h<|.f Y (.qu (i:=1) q Y Y ?_ ?_)
 ·intro H;refine .W Y<|.ak Y Y<|.aq<|.DN (λ L' W=>∃ (v2:Value),Weak [(3,v2)] L'/\Sat w [cL v2 262 lA ((dh s.data.toList).map mQ)] W) ?_ ?_
  ·refine .s ?_;rcases hp with⟨T,j,t⟩|⟨r,a,ha,hl,A⟩
   ·have p:¬ 0<I l:=by rw[t];simp
    have K:I d=0:=by rw[j]<;>rfl
    exact .r<|.ln 1 (q.aj 0 Y) Y<|.Z Y<|.ak Y (IN p)<|.k<|have s5:=q.bp 0 Y (show l=d.map mQ from by rw[t,j]<;>rfl);have s6:=s5.bp 0 Y (show d.map mQ=(dh s.data.toList).map mQ from by rw[j];have h0:dh s.data.toList=[]:=sA (s:=s) (i:=0) O;rw[h0]);⟨v,⟨Y,trivial⟩,s6.pk [0]⟩
   have N:=Eh hl;obtain⟨x,o⟩:∃ x:RU,x=⟨r,a,0,false⟩:=⟨_,Y⟩;rw[<-o]at N;have a4:x.at_=a:=by rw[o]
   have p:0<I l:=by rw[hl];simp
   have K:I d+1=I l:=by rw[hl];simp
   exact .r<|.ln 1 (q.aj 0 Y) Y<|.Z Y<|.cc Y (LW p)<|.r<|.ln 2 (q.aj 0 Y) Y<|.a 2 Y (.br underlying9 Y)<|.ln 2 (q.aj 0 Y) Y<|.ix 1 (q.aj 0 Y) Y<|.fl 0 (q.aj 0 Y) Y<|.lf 0 (q.aj 0 Y) N Y<|.ix 1 (q.aj 0 Y) Y<|.fl 0 (q.aj 0 Y) Y<|.f Y (.jF (E:=lA) 0 (⟨x.r,x.at_,(s.size-x.at_),x.ok⟩) dB q Y Y Y Y N Y bl λ _ s8 _=>.j<|have s9:=s8.bp 0 Y (show l.set (I l-1) (⟨x.r,x.at_,(s.size-x.at_),x.ok⟩)=(d++[(⟨r,a,s.size-a⟩:Un)]).map mQ from by rw[o];exact Jo _ hl);have a6:=s9.bp 0 Y (show(d++[(⟨r,a,s.size-a⟩:Un)]).map mQ=(dh s.data.toList).map mQ from by rw[A,show i=s.size by omega,sA (KM _)]);⟨v,⟨Y,trivial⟩,a6.pk [0]⟩)
  rintro L' w5 ⟨v2,a3,X⟩;refine .weaken _ a3<|.s<|.h<|.ln 1 (X.aj 0 Y) Y<|.V Y ?_;have a2:=gp s.data.toList;rw[tK]at a2;have c4:I ((dh s.data.toList).map mQ)=I (dh s.data.toList):=Xu ..;have a9:=X.bp 0 Y (show(dh s.data.toList).map mQ=(J 0 (dh s.data.toList)).map vP++(ww 0 (dh s.data.toList)).map mQ from bw);refine .lq [57] Y (α:=Nat×Value) (λ(k,v)=>[(3,v),(58,(.I k))]) (λ(k,v) W=>Sat w [cL v 262 lA ((J k (dh s.data.toList)).map vP++(ww k (dh s.data.toList)).map mQ)] W/\(k<=I (dh s.data.toList))) (λ(k,v)=>I (dh s.data.toList)-k) (0,v2) ⟨a9,KD _⟩ ?_;rintro⟨k,v⟩ w6 ⟨g,hk⟩;refine .W Y<|.ab Y (λ c1=>?_) λ c1=>?_
  ·refine .q<|.Z Y ?_;obtain⟨u,A⟩:=ut (dh s.data.toList) k tp;refine .r<|.ix 4 (g.aj 0 Y) Y (hj:=tp)<|.fl 0 (g.aj 0 Y) Y (hj:=tp)<|.lf 0 (g.aj 0 Y) (yn A) Y<|.z 2 Y<|.B 69 Y (λ g1=>?_) λ g1=>?_
   ·refine .ix 7 (g.aj 0 Y) Y (hj:=tp)<|.fl 0 (g.aj 0 Y) Y (hj:=tp)<|.f Y (.jF (E:=lA) 0 (⟨u.r,u.at_,u.size,true⟩) LP g Y Y Y Y (yn A) Y bl λ _ P _=>?_);have P:=P.nn;refine .j ?_;have b1:=P.bp 0 Y (show((J k (dh s.data.toList)).map vP++(ww k (dh s.data.toList)).map mQ).set k (⟨u.r,u.at_,u.size,true⟩)=(J (k+1) (dh s.data.toList)).map vP++(ww (k+1) (dh s.data.toList)).map mQ from Eg A (O3 g1));refine .U Y ?_;exact⟨(k+1,v),(wk Y),⟨b1,a1Z⟩,(show(I (dh s.data.toList)-(k+1))<(I (dh s.data.toList)-k)from a1Z)⟩
   refine .ix 2 (g.aj 0 Y) Y (hj:=tp)<|.fl 0 (g.aj 0 Y) Y (hj:=tp)<|.lf 0 (g.aj 0 Y) (yn A) Y<|.ix 2 (g.aj 0 Y) Y (hj:=tp)<|.fl 0 (g.aj 0 Y) Y (hj:=tp)<|.f Y (.jF (E:=lA) 0 (⟨u.r,u.at_,u.size,decide ((mQ u).size=3)⟩) LP g Y Y Y Y (yn A) Y bl λ _ Q _=>?_);have Q:=Q.nn;refine .j ?_;have b2:=Q.bp 0 Y (show((J k (dh s.data.toList)).map vP++(ww k (dh s.data.toList)).map mQ).set k (⟨u.r,u.at_,u.size,decide ((mQ u).size=3)⟩)=(J (k+1) (dh s.data.toList)).map vP++(ww (k+1) (dh s.data.toList)).map mQ from Eg A (O4 g1));refine .U Y ?_;exact⟨(k+1,v),(wk Y),⟨b2,a1Z⟩,(show(I (dh s.data.toList)-(k+1))<(I (dh s.data.toList)-k)from a1Z)⟩
  exact .aq<|.Z Y<|.ax Y Y<|have b3:=g.bp 0 Y (show(J k (dh s.data.toList)).map vP++(ww k (dh s.data.toList)).map mQ=(dh s.data.toList).map vP from by rw[show k=I (dh s.data.toList) by omega,XH,a00];simp);b3
 intro c6 H y;refine .W Y<|.cc Y Y<|.k<|.l<|.W Y<|.s ?_;rcases hp with⟨T,j,t⟩|⟨r,a,ha,hl,A⟩
 ·have p:¬ 0<I l:=by rw[t];simp
  have K:I d=0:=by rw[j]<;>rfl
  exact .r<|.ln 1 (y.aj 0 Y) Y<|.Z Y<|.ak Y (IN p)<|.k<|have b4:=y.bp 0 Y (show l=d.map mQ from by rw[t,j]<;>rfl);.r<|.a 3 Y (.build QM Y ⟨Y,Y,trivial⟩ Y)<|.f Y (.bO lA (⟨(dec (ww i s.data.toList)).1,i,0,false⟩:RU) M0 bl bl b4 Y λ v1 _ D _=>have D:=D.nn;.ap 0 D 0 (D.aj 2 Y) Y (h1:=a1D) (h2:=a1D) λ c0 _ b5 _=>.Z Y ⟨(i+(dec (ww i s.data.toList)).2,c0,d.map mQ++[(⟨(dec (ww i s.data.toList)).1,i,0,false⟩:RU)],d),(wk Y),⟨b5.pk [0,1],ee H,a2M,.inr ⟨(dec (ww i s.data.toList)).1,i,a0U,Y,by subst j;subst T;exact iX H⟩⟩,(show(s.size-(i+(dec (ww i s.data.toList)).2))<(s.size-i)from a1E)⟩)
 have N:=Eh hl;obtain⟨x,o⟩:∃ x:RU,x=⟨r,a,0,false⟩:=⟨_,Y⟩;rw[<-o]at N;have a4:x.at_=a:=by rw[o]
 have p:0<I l:=by rw[hl];simp
 have K:I d+1=I l:=by rw[hl];simp
 exact .r<|.ln 1 (y.aj 0 Y) Y<|.Z Y<|.cc Y (LW p)<|.r<|.ln 2 (y.aj 0 Y) Y<|.ln 4 (y.aj 0 Y) Y<|.ix 1 (y.aj 0 Y) Y<|.fl 0 (y.aj 0 Y) Y<|.lf 0 (y.aj 0 Y) N Y<|.ix 1 (y.aj 0 Y) Y<|.fl 0 (y.aj 0 Y) Y<|.f Y (.jF (E:=lA) 0 (⟨x.r,x.at_,(i-x.at_),x.ok⟩) dB y Y Y Y Y N Y bl λ _ R _=>have R:=R.nn;.j<|have b6:=R.bp 0 Y (show l.set (I l-1) (⟨x.r,x.at_,(i-x.at_),x.ok⟩)=(d++[(⟨r,a,i-a⟩:Un)]).map mQ from by rw[o];exact Jo _ hl);.r<|.a 3 Y (.build QM Y ⟨Y,Y,trivial⟩ Y)<|.f Y (.bO lA (⟨(dec (ww i s.data.toList)).1,i,0,false⟩:RU) M0 bl bl b6 Y λ v3 _ a0 _=>.ap 0 a0 0 (a0.aj 2 Y) Y (h1:=a1D) (h2:=a1D) λ c2 _ b7 _=>.Z Y ⟨(i+(dec (ww i s.data.toList)).2,c2,(d++[(⟨r,a,i-a⟩:Un)]).map mQ++[(⟨(dec (ww i s.data.toList)).1,i,0,false⟩:RU)],d++[⟨r,a,i-a⟩]),(wk Y),⟨b7.pk [0,1],ee H,a2M,.inr ⟨(dec (ww i s.data.toList)).1,i,a0U,Y,by rw[A,iX H];simp⟩⟩,(show(s.size-(i+(dec (ww i s.data.toList)).2))<(s.size-i)from a1E)⟩))
def oN(s:ByteArray)(w:World)(E:s.size<=1000000):
  t6 151 [(.string s)] w λ r W=>r= .bool (dA s)/\Sat w [] W:=by
 refine cd func151 Y λ q=>.W Y<|.h<|.c 1 (FP s _ E) Y λ X _ j=>have y:=q.ay j;.ln 0 (y.aj 0 Y) Y<|.V Y<|.lq [6,7] Y (α:=Nat) (λ k=>[(8,(.I k))]) (λ k W=>Sat w y.L W/\(k<=I ((dh s.data.toList).map vP))/\((J k (dh s.data.toList)).all Un.ok=true)) (λ k=>I ((dh s.data.toList).map vP)-k) 0 ⟨y,KD _,Y⟩ ?_;rintro k Q ⟨g,T,l⟩;refine .W Y<|.ab Y (λ D=>?_) λ D=>?_
 ·refine .q<|.s ?_;have p:I ((dh s.data.toList).map vP)=I (dh s.data.toList):=Xu ..;obtain⟨u,t⟩:=ut (dh s.data.toList) k O;have N:((dh s.data.toList).map vP)[k]? =some (vP u):=by rw[XF,t]<;>rfl
  refine .r<|.ix 0 (g.aj 0 Y) Y<|.lg 0 (g.aj 0 Y) N Y<|.al 0 g Y λ R _ P _ _=>.sa 0 P 1 Y ((lA).one _) λ _ d _=>have d:=d.nn;.j<|.h<|.ld 1 d 1 Y<|.e Y (.cK Y)<|.j<|.cond Y (λ i=>?_) (λ i=>?_)
  ·refine .Z Y<|.ax Y Y ?_;have o:dA s=false:=by
    cases K:dA s with
    |false=>rfl
    |true=>
     have H:=Y6.1 K u (Xs t);have A:u.ok=false:=by simpa[vP]using i
     rw[H]at A;cases A
   rw[o];exact⟨Y,d.pk []⟩
  exact .k<|.r<|.e Y (.Me (b:=1) Y Y (by have H:=gp s.data.toList;rw[tK]at H;omega))<|.Z Y<|aP (k+1) ⟨d.pk [0],O,Jl l t (by simpa[vP]using i)⟩
 refine .aq<|.Z Y<|.ax Y Y ?_;have p:I ((dh s.data.toList).map vP)=I (dh s.data.toList):=Xu ..;have o:dA s=true:=by rw[show k=I (dh s.data.toList) by omega,XH]at l;exact l
 rw[o];exact⟨Y,g.pk []⟩
