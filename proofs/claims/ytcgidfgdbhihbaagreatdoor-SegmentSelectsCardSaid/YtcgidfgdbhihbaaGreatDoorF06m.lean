/-The walks of the functions of F06m,printed by our own program (kwgen.py) out of our descriptions (base.py). -/
import Derived.Test.YtcgidfgdbhihbaaGreatDoorF06q
import Derived.Test.YtcgidfgdbhihbaaGreatDoorKsh
open List renaming length→I,take→J,drop→ww
open ByteArray renaming empty→wt,mk→ws
set_option linter.all false
set_option maxHeartbeats 2000000
set_option maxRecDepth 100000
open Go.Proofs.YtcgidfgdbhihbaaGreatDoor
open List
open Go.Proofs.Tryz
namespace Go.Proofs.YtcgidfgdbhihbaaGreatDoor
open Go.RowKit Go.Kw
def I7(x:Int)(n:Nat)(w:World)(h:1<=n)(g:n<=1000000000):
  CallsV prog 40 [(.I x),(.I n)] w λ r W=>∃ k:Nat,r= .I (k:Int)/\k<n/\Sat w [] W:=by
 have t:=O8 x n h;have H:=Sat.start w;refine aa func40 Y Y<|.W Y<|.Z Y<|.ak Y (IN O)<|.k<|.h<|.a 2 Y (.WX Y Y O)<|.W Y<|.h<|.a 1 Y (.lss Y Y)<|.j<|.ab Y (λ d=>?_) λ d=>?_
 ·exact .r<|.a 2 Y (.add Y Y en)<|.Z Y<|.Z Y<|.ax Y Y ⟨(x.tmod n+n).toNat,If (Value.I) O,O,H.pk []⟩
 exact .k<|.Z Y<|.ax Y Y ⟨(x.tmod n).toNat,If (Value.I) O,O,H.pk []⟩
def xY:List ByteArray:=[(ws #[115]),(ws #[110,112]),(ws #[116])]
def FV:∀ s∈xY,bF s=true:=by
 intro s H;simp only[xY,Xr,Xq,XA]at H;rcases H with rfl|rfl|rfl<;>decide
def I8(n:Nat)(w:World)(h:n<6):
  CallsV prog 33 [(.I n)] w λ r W=>∃ s,r= .string s/\s∈qO/\Sat w [] W:=by
 refine cd func33 Y λ H=>.W Y ?_;obtain⟨x,g⟩:=ut ([(ws #[97]),(ws #[98]),(ws #[99]),(ws #[65]),(ws #[97,98]),(ws #[])]:List ByteArray) n (show n<6 from h);exact .r<|.f Y (.gh aw [(ws #[97]),(ws #[98]),(ws #[99]),(ws #[65]),(ws #[97,98]),(ws #[])] bI Y ⟨Y,Y,Y,Y,Y,Y,trivial⟩ Y Y Y Y bl bl H λ i _ d _=>.ix 1 (d.aj 0 Y) Y (hj:=(show n<6 from h))<|.le 0 (d.aj 0 Y) g Y<|.Z Y<|.ax Y Y ⟨x,Y,a8 g,d.pk []⟩)
def R9(n:Nat)(w:World)(h:n<2):
  CallsV prog 34 [(.I n)] w λ r W=>∃ s,r= .string s/\s∈xq/\Sat w [] W:=by
 refine cd func34 Y λ H=>.W Y ?_;obtain⟨x,g⟩:=ut ([(ws #[88]),(ws #[89])]:List ByteArray) n (show n<2 from h);exact .r<|.f Y (.gh aw [(ws #[88]),(ws #[89])] bI Y ⟨Y,Y,trivial⟩ Y Y Y Y bl bl H λ i _ d _=>.ix 1 (d.aj 0 Y) Y (hj:=(show n<2 from h))<|.le 0 (d.aj 0 Y) g Y<|.Z Y<|.ax Y Y ⟨x,Y,a8 g,d.pk []⟩)
def MY(n:Nat)(w:World)(h:n<4):
  CallsV prog 35 [(.I n)] w λ r W=>∃ s,r= .string s/\s∈oz/\Sat w [] W:=by
 refine cd func35 Y λ H=>.W Y ?_;obtain⟨x,g⟩:=ut ([(ws #[124]),(ws #[124,112,124]),(ws #[124,112,124,113,124]),(ws #[124,113,124])]:List ByteArray) n (show n<4 from h);exact .r<|.f Y (.gh aw [(ws #[124]),(ws #[124,112,124]),(ws #[124,112,124,113,124]),(ws #[124,113,124])] bI Y ⟨Y,Y,Y,Y,trivial⟩ Y Y Y Y bl bl H λ i _ d _=>.ix 1 (d.aj 0 Y) Y (hj:=(show n<4 from h))<|.le 0 (d.aj 0 Y) g Y<|.Z Y<|.ax Y Y ⟨x,Y,a8 g,d.pk []⟩)
def DS(n:Nat)(w:World)(h:n<1000000):
  CallsV prog 36 [(.I n)] w λ r W=>∃ s,r= .string s/\s∈xY/\Sat w [] W:=by
 refine cd func36 Y λ g=>.Z Y<|.h<|.f Y (.gh aw [(ws #[115]),(ws #[110,112]),(ws #[116])] bI Y ⟨Y,Y,Y,trivial⟩ Y Y Y Y bl bl g λ l _ k _=>.c 1 (I7 ((n:Nat):Int) 3 _ O O) Y ?_);rintro _ _ ⟨d,rfl,H,p⟩;have i:=k.ay p;refine .ix 0 (i.aj 0 Y) Y (hj:=(show d<3 from H)) ?_;obtain⟨x,j⟩:=ut ([(ws #[115]),(ws #[110,112]),(ws #[116])]:List ByteArray) d (show d<3 from H);exact .le 0 (i.aj 0 Y) j Y<|.Z Y<|.ax Y Y ⟨x,Y,a8 j,i.pk []⟩
def aN(w0 w:World)(cs:List Chunk)(g n:Nat)(E:Sat w0 ([jq 50 w0 g]++cs) w)(X:1<=n)(T:n<=1000000):
  CallsV prog 14 [(.P g),(.I n)] w λ r W=>∃ k:Nat,r= .I (k:Int)/\k<n/\Sat w0 ([jq 50 w0 g]++cs) W:=by
 obtain⟨v,R,a,i,l,D,o⟩:=E.U5;refine aa func14 Y Y<|.W Y<|.s<|.dt [0] o Y (pl [0,1,2,3,4,5,6,7,8,9] .fin) λ q j=>.ld 3 j 0 Y<|.ld 3 j 0 Y<|.ln 0 j (i.E ·.E) Y<|.Z j Y<|.ab Y (λ A=>?_) λ A=>?_
 ·exact .Z Y<|.ax Y Y ⟨0,Y,O,q.zk i l D⟩
 refine .k<|.h<|.ld 3 q 0 Y<|.st 3 q 0 Y λ _ N _=>have t:=N.sn;.j<|.s ?_;obtain⟨z,K⟩:=ut R (a+1-1) O;refine .dt [0] t Y (pl [0,1,2,3,4,5,6,7,8,9,10,11,1012,13] .fin) λ Q d=>.ld 3 d 0 Y<|.ld 3 d 0 Y<|.ix 1 d (i.E ·.E) Y<|.le 0 d (i.E ·.E) K Y<|.c 1 d (I7 z n _ O O) Y ?_;rintro _ _ ⟨p,rfl,H,P⟩;have y:=(Q.ay P).aH;have u:=y.pt [0];refine⟨u,?_⟩;exact .Z u Y<|.ax Y Y ⟨p,Y,H,Sat.zk (a:=a+1) y i l O⟩
def DT(w0 w:World)(cs:List Chunk)(v:Value)(q:List Int)(i:Sat w0 ([]++cs) w)(j:RdL w0 v (Kw.encI .i64) q):
  CallsV prog 4 [v] w λ r W=>∃ g,r= .P g/\Sat w0 ([jq 50 w0 g]++cs) W:=by
 refine aa func4 Y Y<|.Z Y<|.DN (λ t W=>∃ (p:Value) (d:List Int),Weak [(0,p)] t/\Sat w0 ([]++cs) W/\(RdL w0 p (Kw.encI .i64) d)/\(I d<=120)) ?_ ?_
 ·refine .h<|.ln 1 (j.E i.E) Y<|.Z Y<|.ab Y (λ y=>?_) λ y=>?_
  ·exact .r<|.a 1 Y (.bg (E:=Kw.encI .i64) (a:=0) (c:=120) bc Y (j.E i.E) Y ⟨_,Y⟩ O O)<|.Z Y ⟨(gL (Kw.encI .i64).s v 0 120),ww 0 (J 120 q),⟨Y,trivial⟩,i,j.sub O O,cf⟩
  exact .k ⟨v,q,⟨Y,trivial⟩,i,j,O⟩
 rintro t K ⟨p,d,l,u,H,k⟩;exact .weaken _ l<|.h<|.a 1 Y (.build WI Y ⟨(H.E u.E).ae,trivial⟩ Y)<|.bx 0 u Y λ D _ A _ _=>have o:=A.mn;.Z Y<|.ax Y Y ⟨_,Y,Sat.zk (a:=0) o H k (KD _)⟩
def FW(v:Value)(l:List Iv)(w:World)(hv:RdL w v aL l)(hk:∀ t∈l,RdL w t.sv.val aV t.ps)(hl:I l<=8)(P:∀ t∈l,I t.ps<=8):
  CallsV prog 37 [v] w λ r W=>∃ m,m.Perm l/\Df m/\Sat w [cL r 67 aL m] W:=by
 have Q:=Sat.start w;refine aa func37 Y Y<|.Z Y<|.W Y<|.h<|.ln 1 (hv.E Q.E) Y<|.V Y<|have s1:=Q.aC 67 aL;.lq [0,2,7,8] Y (α:=Nat×Value×List Iv) (λ(k,R,M)=>[(3,R),(9,(.I k))]) (λ(k,R,M) W=>Sat w [cL R 67 aL M] W/\(M.Perm (J k l))/\(Df M)) (λ(k,R,M)=>I l-k) (0,.N,[]) ⟨s1,List.Perm.refl _,Kg⟩ ?_;rintro⟨k,R,M⟩ w1 ⟨s2,p,D⟩;refine .W Y<|.ab Y (λ c1=>?_) λ c1=>?_
 ·refine .q<|.s ?_;obtain⟨x,hx⟩:=ut l k c1;have N:∀ y∈M,y∈l:=λ y H=>XX (p.mem_iff.1 H);have b2:I M=k:=by rw[p.length_eq,Xo];omega
  refine .r<|.ix 0 (hv.E s2.E) Y<|.lg 0 (hv.E s2.E) hx Y<|.al 0 s2 Y λ b1 _ s3 _ _=>.sa 0 s3 1 Y ((aL).one _) λ _ s4 _=>.j<|.h<|.ln 1 (s4.aj 0 Y) Y<|.W Y<|.l<|.lq [0,2,3,5,7,8,9] Y (α:=Nat) (λ q=>[(6,(.I q))]) (λ q W=>Sat w s4.L W/\(q<=I M)/\(∀ y,M[q]? =some y->0<fk y x)) (λ q=>q) (I M) ⟨s4,KM _,λ y h=>by rw[XQ (KM _)]at h;cases h⟩ ?_;rintro q b3 ⟨s5,hq,a3⟩;refine .s<|.s ?_;obtain⟨y,H⟩:∃ y,0<q->M[q-1]? =some y:=N6 (λ h=>by omega);refine .md [0,2,3,5,6,7,8,9] Y (λ K L' W=>Weak ([(26,(.bool (decide ((0<q)/\((0:Int)<((fk y x):Int))))))]++K) L'/\Sat w s5.L W) ?_ ?_
  ·refine .dk [0,1] s5 Y (pl [0,1,2,3,4,5,6,7,8,1009,10,11] .fin) λ s6 o=>.z 3 o Y<|.B 17 Y (λ g1=>?_) λ g1=>?_
   ·refine .ix 3 o (·.aj 0 Y) Y<|.lg 0 o (·.aj 0 Y) (H O) Y<|.a 0 o Y (λ _ s=>.dV BS Y s (i:=1) Y Y)<|.c 0 o (zH y x _ ((hk _ (N _ (a8 (H O)))).E s6.E) ((hk _ (a8 hx)).E s6.E) (by have:=P _ (N _ (a8 (H O)));omega) (by have:=P _ (a8 hx);omega)) Y ?_;rintro _ _ ⟨rfl,p1⟩;have s7:=(s6.ay p1).nn;have S2:=s7.pk [0,1];refine⟨S2,?_⟩;exact .a 0 S2 Y (λ _ s=>.gtr Y Y)<|.Z S2 Y ⟨⟨If some (If Value.bool sp),Y,Y,Y,Y,Y,Y,Y,Y,trivial⟩,s7⟩
   exact .Z o Y ⟨⟨If some (If Value.bool sp),Y,Y,Y,Y,Y,Y,Y,Y,trivial⟩,s6⟩
  rintro L' w6 ⟨a5,s8⟩;refine .weaken _ a5<|.ab Y (λ X=>?_) λ X=>?_
  ·exact .k<|.l<|.U Y<|aP (q-1) ⟨s8,O,λ y2 u=>by have A:=H X.1;rw[u]at A;cases A;exact X.2⟩
  refine .aq<|.h<|.a 1 Y (.build T9 Y trivial Y)<|.f Y (.bO aL (⟨wt,0,0,⟨none,0,0⟩,[]⟩:Iv) rq bl bl s8 Y λ v1 _ s9 _=>have s9:=s9.nn;.ap 0 s9 0 (s9.aj 2 Y) Y (h1:=dv) (h2:=dv) λ v2 _ d _=>have d:=d.pk [0,1];.W Y<|have a4:=(d.aj (E:=aL) 0 Y).gY bl;.gB [0,1] [1] d Y Y 7 (.loose 0 (.loose 1 (.loose 2 (pl [3] (.loose 4 (.loose 5 (pl [6] (.bar 7 .fin)))))))) mixed F<|have T:=d.drew;have j:=T.pk [0,1];.loose Y Y Y (λ _ s=>.move Y) j<|.loose Y Y Y (λ _ s=>.move Y) j<|.loose Y Y Y (λ _ s=>.Me (b:=1) Y Y O) j<|.e Y (λ _ s=>.bg (E:=aL) (a:=(q+1)) (c:=I (M++[(⟨wt,0,0,⟨none,0,0⟩,[]⟩:Iv)])) rq Y (s.aj 0 Y) ⟨_,Y⟩ Y cf bw) j<|.loose Y Y Y (λ _ s=>.move Y) j<|.loose Y Y Y (λ _ s=>.move Y) j<|.e Y (λ _ s=>.bg (E:=aL) (a:=q) (c:=I (M++[(⟨wt,0,0,⟨none,0,0⟩,[]⟩:Iv)])) rq Y (s.aj 0 Y) ⟨_,Y⟩ Y cf bw) j<|.bar Y Y Y (OpE.U8 (k:=q) 0 rq T Y Y Y cf λ _ g=>have S4:=g.pk [1];⟨S4,?_⟩));refine .fin<|.r<|.lo 2 g 1 Y<|.ix 0 (g.aj 0 Y) Y (hj:=cf)<|.f Y (.DO (a:=x) 0 BS g Y Y Y cf bl λ _ a6 _=>.j<|.U Y ?_);have a1:=RO (M:=M) (z:=(⟨wt,0,0,⟨none,0,0⟩,[]⟩:Iv)) (x:=x) hq;have a9:=a6.bp 0 Y (show(J (q+1) (M++[(⟨wt,0,0,⟨none,0,0⟩,[]⟩:Iv)])++J (I (M++[(⟨wt,0,0,⟨none,0,0⟩,[]⟩:Iv)])-(q+1)) (ww q (M++[(⟨wt,0,0,⟨none,0,0⟩,[]⟩:Iv)]))).set q x=J q M++x::ww q M from a1);have a2:(J q M++x::ww q M).Perm (J (k+1) l):=by rw[cF hx];exact Ki M _ x q p
  have a0:Df (J q M++x::ww q M):=Kh D hq (λ y2 h0 u=>by have A:=H h0;rw[u]at A;cases A;exact Int.not_lt.1 λ h4=>X ⟨h0,h4⟩) (λ y2 u=>a3 y2 u);exact aP (k+1,v2,J q M++x::ww q M) ⟨a9.pk [0],a2,a0⟩
 refine .aq<|.Z Y<|.ax Y Y ?_;rw[Xx O]at p;exact⟨_,p,D,s2.pk [0]⟩
def mK{l:List ByteArray}(h:l.all bF=true){i:Nat}{x:ByteArray}(H:l[i]? =some x):bF x=true:=Y6.1 h x (Xs H)
def FX(w0 w:World)(cs:List Chunk)(g gc n:Nat)(va vt vx vr:Value)(hs:Sat w0 ([jq 50 w0 g,ai gc 30 [va,vt,vx,vr,.N,.N,.N]]++cs) w)(hz:RdL w0 vt JG (List.replicate n ()))(hn:1<=n)(hm:n<=12):
  CallsV prog 38 [(.P g),(.P gc)] w λ r w'=>r= .tuple #[]/\∃ vn nd A,ndI A nd/\A<=(n:Int)/\I nd<=8/\Sat w0 ([jq 50 w0 g,ai gc 30 [va,vt,vx,vr,vn,.N,.N],cL vn 69 bT nd]++cs) w':=by
 refine aa func38 Y Y<|.h<|.ld 3 hs 1 Y<|.ln 0 (hz.E hs.E) Y<|.W Y<|.weaken [(0,_),(1,_),(4,(.I n)),(11,_),(12,_),(13,_),(14,_),(15,_)] ⟨Y,Y,If some (If (Value.I) bw),Y,Y,Y,Y,Y,trivial⟩<|.U Y<|.h<|.z 1 Y<|have A1:=hs.oc [0,1] 1;.c 0 (aN _ _ _ _ 4 A1 O O) Y ?_;rintro _ _ ⟨m5,rfl,u1,p1⟩;have s1:=p1.join.od [0,1];refine .V Y<|have s2:=(s1.aC 69 bT).mn;.lq [0,1,4] Y (α:=Nat×Nat×Value×List Nd) (λ(R,A,nv,nd)=>[(5,(.I A)),(6,(.I R))]) (λ(R,A,nv,nd) w'=>Sat w0 ([jq 50 w0 g,ai gc 30 [va,vt,vx,vr,nv,.N,.N],cL nv 69 bT nd]++cs) w'/\(R<=3)/\(A<=n)/\(ndI (A:Int) nd)/\(I nd+2*R<=6)) (λ(R,A,nv,nd)=>R) (m5,0,.N,[]) ⟨s2,O,KD _,Ov _,cf⟩ ?_;rintro⟨R,A,nv,nd⟩ z1 ⟨s3,x2,x1,e4,u0⟩;refine .s<|.s<|.bM 24 ((0<R)/\(A<n)) ?_ ?_
 ·refine .z 3 Y<|.B 20 Y (λ g1=>?_) λ g1=>?_
  ·refine .M Y sp
  refine .M Y sp
 refine .ab Y (λ c1=>?_) λ c1=>?_
 ·refine .q<|.h<|.z 2 Y<|have A2:=s3.oc [0,1,2] 1;.c 0 (aN _ _ _ _ 2 A2 O O) Y ?_;rintro _ _ ⟨N,rfl,u2,p2⟩;have s4:=p2.join.od [0,1,2];refine .W Y<|.Z Y<|.ab Y (λ c2=>?_) λ c2=>?_
  ·refine .vF Y ?_;show aE _ _ _ _ _ _;exact cr Y ⟨Y,_,nd,A,e4,O,O,s4⟩
  refine .k<|.h<|.z 6 Y<|have A3:=s4.oc [0,1,2] 1;.c 0 (aN _ _ _ _ (n-(A+N)) A3 O O) Y ?_;rintro _ _ ⟨d,rfl,u8,p3⟩;have s5:=p3.join.od [0,1,2];refine .Z Y<|.h<|.ld 3 s5 1 Y<|.ln 0 (s5.aj 2 Y) Y<|.W Y<|.sR (λ L' w'=>∃ (a1:Value) (k:ByteArray),Weak [(0,(.P g)),(1,(.P gc)),(4,(.I n)),(5,(.I A)),(6,(.I R)),(7,(.I ((A+N):Nat))),(8,(.I ((((A+N)+1)+d):Nat))),(9,(.I (I nd)))] L'/\Sat w0 ([jq 50 w0 g,ai gc 30 [va,vt,vx,vr,a1,.N,.N],cL a1 69 bT (nd++[(⟨k,(((A+N):Nat):Int),(((((A+N)+1)+d):Nat):Int),-1⟩:Nd)])]++cs) w'/\(bF k=true)) ?_ ?_
  ·have m1:=(s5.aj (E:=bT) 2 Y).gY bl;refine .ek [0,1] [0] s5 Y Y 17 (pl [0,1,2,3,4,6,10,11] (.two 5 7 (pl [1007,8,9,12,1013,1014] (.loose 15 (pl [16] (.bar 17 .fin)))) (pl [1005,8,9,12,1013,1014] (.loose 15 (pl [16] (.bar 17 .fin)))))) mixed F<|have s6:=s5.drew;have S1:=s6.pt [0,1];.ld 4 S1 1 Y<|.z 3 S1 Y<|have A4:=s6.oc [0,1,2] 1;.vH Y Y Y Y Y Y (OpE.gh aw [(ws #[83]),(ws #[78,80])] bI Y ⟨Y,Y,trivial⟩ Y Y Y Y bl bl s6 λ v1 _ s7 _=>?_) (OpE.call rV Y ((aN _ _ _ _ 2 A4 O O).mono λ r4 _ h4=>?_))
   ·have i2:=s7.mn;have S2:=i2.pt [0,1,3];refine jl [0,1] S2 Y<|have A5:=i2.oc [0,1,2,3] 1;.c 0 S2 (aN _ _ _ _ 2 A5 O O) Y ?_;rintro _ _ ⟨h2,rfl,w1,p5⟩;have s8:=p5.join.od [0,1,2,3];have S3:=s8.pt [0,1,3];refine⟨S3,?_⟩;refine .ix 0 S3 (·.aj 2 Y) Y (hj:=cf) ?_;obtain⟨g6,a3⟩:∃ x,([(ws #[83]),(ws #[78,80])]:List ByteArray)[h2]? =some x:=⟨_,py (show h2<2 by omega)⟩;refine .le 0 S3 (·.aj 2 Y) a3 Y<|.e Y (λ _ s=>.build zd Y ⟨Y,Y,Y,Y,trivial⟩ Y) S3<|.f Y (.bO bT (⟨g6,(((A+N):Nat):Int),(((((A+N)+1)+d):Nat):Int),-1⟩:Nd) jS bl bl s8 Y λ v2 _ s9 _=>have e8:=s9.mn;have S4:=e8.pt [0,1,3];⟨S4,?_⟩);refine .f Y (.aD 2 jS e8 Y Y Y underlying27 (e8.aj 4 Y) dv dv λ v3 _ m9 _=>have o:=(m9.sn).pt [0,1,2,3];have S5:=o.pt [0,1,3];⟨S5,?_⟩);refine .loose Y Y Y (λ _ s=>.nilCheck Y) S5<|.z 1 S5 Y<|.bar Y Y Y (OpE.aG vm o (i:=1) Y Y Y ((o.aj 2 Y).ae) Y λ _ n2 _=>have b4:=n2.sn;have S6:=b4.pt [0];⟨S6,?_⟩);exact .fin<|have n3:=b4.pt [0,1,2];⟨v3,g6,(wk Y),n3,mK bl a3⟩
   obtain⟨h1,rfl,v0,p4⟩:=h4;have h5:=p4.join.od [0,1,2];have S7:=h5.pt [0,1];refine lB S7<|.zj Y Y Y (OpE.gh aw [(ws #[83]),(ws #[78,80])] bI Y ⟨Y,Y,trivial⟩ Y Y Y Y bl bl h5 λ x9 _ n5 _=>have b5:=n5.mn;have S8:=b5.pt [0,1,3];jl [0,1] S8 Y<|.ix 0 S8 (·.aj 2 Y) Y (hj:=cf) ?_);obtain⟨g7,a4⟩:∃ x,([(ws #[83]),(ws #[78,80])]:List ByteArray)[h1]? =some x:=⟨_,py (show h1<2 by omega)⟩;refine .le 0 S8 (·.aj 2 Y) a4 Y<|.e Y (λ _ s=>.build zd Y ⟨Y,Y,Y,Y,trivial⟩ Y) S8<|.f Y (.bO bT (⟨g7,(((A+N):Nat):Int),(((((A+N)+1)+d):Nat):Int),-1⟩:Nd) jS bl bl b5 Y λ v5 _ n6 _=>have p:=n6.mn;have S9:=p.pt [0,1,3];⟨S9,?_⟩);refine .f Y (.aD 2 jS p Y Y Y underlying27 (p.aj 4 Y) dv dv λ v6 _ n7 _=>have q:=(n7.sn).pt [0,1,2,3];have c8:=q.pt [0,1,3];⟨c8,?_⟩);refine .loose Y Y Y (λ _ s=>.nilCheck Y) c8<|.z 1 c8 Y<|.bar Y Y Y (OpE.aG vm q (i:=1) Y Y Y ((q.aj 2 Y).ae) Y λ _ n8 _=>have b6:=n8.sn;have i6:=b6.pt [0];⟨i6,?_⟩);exact .fin<|have o1:=b6.pt [0,1,2];⟨v6,g7,(wk Y),o1,mK bl a4⟩
  rintro L' y2 ⟨a1,k,m3,o2,g5⟩;refine .weaken _ m3<|.jn [0,1,4,5,6,7,8,9] Y (λ K L' w'=>∃ (a2:Value) (l:List Nd),Weak K L'/\Sat w0 ([jq 50 w0 g,ai gc 30 [va,vt,vx,vr,a2,.N,.N],cL a2 69 bT l]++cs) w'/\(ndI (((((A+N)+1)+d):Nat):Int) l)/\(I l<=I nd+2)) ?_ ?_
  ·refine .s<|have H:=e4.top g5 O (show(A:Int)<=(((A+N):Nat):Int) by omega) (show(((A+N):Nat):Int)<(((((A+N)+1)+d):Nat):Int) by omega);.r<|.z 1 Y<|have A6:=o2.oc [0,1,2] 1;.c 0 (aN _ _ _ _ 2 A6 O O) Y ?_;rintro _ _ ⟨x3,rfl,w5,p6⟩;have h6:=p6.join.od [0,1,2];refine .Z Y<|.ab Y (λ c3=>?_) λ c3=>?_
   ·refine .h<|.z 5 Y<|have A7:=h6.oc [0,1,2] 1;.c 0 (aN _ _ _ _ ((((A+N)+1)+d)-(A+N)) A7 O O) Y ?_;rintro _ _ ⟨j,rfl,w6,p7⟩;have e5:=p7.join.od [0,1,2];refine .Z Y<|have m2:=(e5.aj (E:=bT) 2 Y).gY bl;.ek [0,1] [0] e5 Y Y 25 (pl [0,1,2,3,4,6,10,11,12,13,14,15,16,19] (.two 5 7 (pl [1007,8,9,1017,18,20,1021,1022] (.loose 23 (pl [24] (.bar 25 .fin)))) (.two 5 17 (pl [8,9,1017,18,20,1021,1022] (.loose 23 (pl [24] (.bar 25 .fin)))) (pl [18,1005,8,9,20,1021,1022] (.loose 23 (pl [24] (.bar 25 .fin))))))) mixed F<|have e6:=e5.drew;have g0:=e6.pt [0,1];.ld 4 g0 1 Y<|.z 9 g0 Y<|have A8:=e6.oc [0,1,2] 1;.vH Y Y Y Y Y Y (OpE.gh aw [(ws #[78,80]),(ws #[86,80])] bI Y ⟨Y,Y,trivial⟩ Y Y Y Y bl bl e6 λ v7 _ q0 _=>?_) (OpE.call rV Y ((aN _ _ _ _ 2 A8 O O).mono λ r8 _ h8=>?_))
    ·have b7:=q0.mn;have g2:=b7.pt [0,1,3];refine jl [0,1] g2 Y<|have A9:=b7.oc [0,1,2,3] 1;.c 0 g2 (aN _ _ _ _ 2 A9 O O) Y ?_;rintro _ _ ⟨h3,rfl,w9,p9⟩;have h7:=p9.join.od [0,1,2,3];have T:=h7.pt [0,1,3];refine⟨T,?_⟩;refine .ix 0 T (·.aj 2 Y) Y (hj:=cf) ?_;obtain⟨g8,a5⟩:∃ x,([(ws #[78,80]),(ws #[86,80])]:List ByteArray)[h3]? =some x:=⟨_,py (show h3<2 by omega)⟩;refine .le 0 T (·.aj 2 Y) a5 Y<|have i3:=h7.oc [0,1,2,3] 1;.c 0 T (aN _ _ _ _ ((((A+N)+1)+d)-((A+N)+j)) i3 O O) Y ?_;rintro _ _ ⟨b1,rfl,k9,m6⟩;have h9:=m6.join.od [0,1,2,3];have c9:=h9.pt [0,1,3];refine⟨c9,?_⟩;refine .z 1 c9 Y<|.e Y (λ _ s=>.build zd Y ⟨Y,Y,Y,Y,trivial⟩ Y) c9<|.f Y (.bO bT (⟨g8,((((A+N)+j):Nat):Int),((((((A+N)+j)+1)+b1):Nat):Int),((I nd:Nat):Int)⟩:Nd) jS bl bl h9 Y λ v8 _ q1 _=>have t:=q1.mn;have i7:=t.pt [0,1,3];⟨i7,?_⟩);refine .f Y (.aD 2 jS t Y Y Y underlying27 (t.aj 4 Y) ft ft λ v9 _ q2 _=>have u:=(q2.sn).pt [0,1,2,3];have e0:=u.pt [0,1,3];⟨e0,?_⟩);refine .loose Y Y Y (λ _ s=>.nilCheck Y) e0<|.z 1 e0 Y<|.bar Y Y Y (OpE.aG vm u (i:=1) Y Y Y ((u.aj 2 Y).ae) Y λ _ q3 _=>have c0:=q3.sn;have i8:=c0.pt [0];⟨i8,?_⟩);exact .fin<|have q4:=c0.pt [0,1,2];⟨v9,nd++[(⟨k,(((A+N):Nat):Int),(((((A+N)+1)+d):Nat):Int),-1⟩:Nd)]++[(⟨g8,((((A+N)+j):Nat):Int),((((((A+N)+j)+1)+b1):Nat):Int),((I nd:Nat):Int)⟩:Nd)],(wk Y),q4,ndI.MM (at_:=0) H (mK bl a5) O O O,ft⟩
    obtain⟨a0,rfl,w7,p8⟩:=h8;have e7:=p8.join.od [0,1,2];have i9:=e7.pt [0,1];refine lB i9<|have i4:=e7.oc [0,1,2] 1;.vH Y Y Y Y Y Y (OpE.gh aw [(ws #[78,80]),(ws #[86,80])] bI Y ⟨Y,Y,trivial⟩ Y Y Y Y bl bl e7 λ x5 _ q5 _=>?_) (OpE.call rV Y ((aN _ _ _ _ ((((A+N)+1)+d)-((A+N)+j)) i4 O O).mono λ x4 _ k4=>?_))
    ·have c4:=q5.mn;have W:=c4.pt [0,1,3];refine jl [0,1] W Y<|.ix 0 W (·.aj 2 Y) Y (hj:=cf) ?_;obtain⟨g9,a6⟩:∃ x,([(ws #[78,80]),(ws #[86,80])]:List ByteArray)[a0]? =some x:=⟨_,py (show a0<2 by omega)⟩;refine .le 0 W (·.aj 2 Y) a6 Y<|have i5:=c4.oc [0,1,2,3] 1;.c 0 W (aN _ _ _ _ ((((A+N)+1)+d)-((A+N)+j)) i5 O O) Y ?_;rintro _ _ ⟨b3,rfl,m0,m8⟩;have i0:=m8.join.od [0,1,2,3];have e1:=i0.pt [0,1,3];refine⟨e1,?_⟩;refine .z 1 e1 Y<|.e Y (λ _ s=>.build zd Y ⟨Y,Y,Y,Y,trivial⟩ Y) e1<|.f Y (.bO bT (⟨g9,((((A+N)+j):Nat):Int),((((((A+N)+j)+1)+b3):Nat):Int),((I nd:Nat):Int)⟩:Nd) jS bl bl i0 Y λ x6 _ q6 _=>have y:=q6.mn;have k0:=y.pt [0,1,3];⟨k0,?_⟩);refine .f Y (.aD 2 jS y Y Y Y underlying27 (y.aj 4 Y) ft ft λ r9 _ q7 _=>have D:=(q7.sn).pt [0,1,2,3];have e2:=D.pt [0,1,3];⟨e2,?_⟩);refine .loose Y Y Y (λ _ s=>.nilCheck Y) e2<|.z 1 e2 Y<|.bar Y Y Y (OpE.aG vm D (i:=1) Y Y Y ((D.aj 2 Y).ae) Y λ _ q8 _=>have c5:=q8.sn;have k1:=c5.pt [0];⟨k1,?_⟩);exact .fin<|have q9:=c5.pt [0,1,2];⟨r9,nd++[(⟨k,(((A+N):Nat):Int),(((((A+N)+1)+d):Nat):Int),-1⟩:Nd)]++[(⟨g9,((((A+N)+j):Nat):Int),((((((A+N)+j)+1)+b3):Nat):Int),((I nd:Nat):Int)⟩:Nd)],(wk Y),q9,ndI.MM (at_:=0) H (mK bl a6) O O O,ft⟩
    obtain⟨b2,rfl,l2,m7⟩:=k4;have i1:=m7.join.od [0,1,2];have g3:=i1.pt [0,1];refine lB g3<|.z 1 g3 Y<|.zj Y Y Y (OpE.gh aw [(ws #[78,80]),(ws #[86,80])] bI Y ⟨Y,Y,trivial⟩ Y Y Y Y bl bl i1 λ x7 _ r0 _=>have c6:=r0.mn;have X:=c6.pt [0,1,3];jl [0,1] X Y<|.ix 0 X (·.aj 2 Y) Y (hj:=cf) ?_);obtain⟨h0,a9⟩:∃ x,([(ws #[78,80]),(ws #[86,80])]:List ByteArray)[a0]? =some x:=⟨_,py (show a0<2 by omega)⟩;refine .le 0 X (·.aj 2 Y) a9 Y<|.e Y (λ _ s=>.build zd Y ⟨Y,Y,Y,Y,trivial⟩ Y) X<|.f Y (.bO bT (⟨h0,((((A+N)+j):Nat):Int),((((((A+N)+j)+1)+b2):Nat):Int),((I nd:Nat):Int)⟩:Nd) jS bl bl c6 Y λ x8 _ r1 _=>have P:=r1.mn;have k2:=P.pt [0,1,3];⟨k2,?_⟩);refine .f Y (.aD 2 jS P Y Y Y underlying27 (P.aj 4 Y) ft ft λ s0 _ r2 _=>have Q:=(r2.sn).pt [0,1,2,3];have e3:=Q.pt [0,1,3];⟨e3,?_⟩);refine .loose Y Y Y (λ _ s=>.nilCheck Y) e3<|.z 1 e3 Y<|.bar Y Y Y (OpE.aG vm Q (i:=1) Y Y Y ((Q.aj 2 Y).ae) Y λ _ r3 _=>have c7:=r3.sn;have k3:=c7.pt [0];⟨k3,?_⟩);exact .fin<|have r5:=c7.pt [0,1,2];⟨s0,nd++[(⟨k,(((A+N):Nat):Int),(((((A+N)+1)+d):Nat):Int),-1⟩:Nd)]++[(⟨h0,((((A+N)+j):Nat):Int),((((((A+N)+j)+1)+b2):Nat):Int),((I nd:Nat):Int)⟩:Nd)],(wk Y),r5,ndI.MM (at_:=0) H (mK bl a9) O O O,ft⟩
   exact .k<|have r6:=h6.pt [0,1,2];⟨a1,nd++[(⟨k,(((A+N):Nat):Int),(((((A+N)+1)+d):Nat):Int),-1⟩:Nd)],(wk Y),r6,H,ft⟩
  rintro L' z0 ⟨a2,l,m4,r7,g4,k5⟩;exact .weaken _ m4<|.U Y<|.U Y<|aP (R-1,(((A+N)+1)+d),a2,l) ⟨r7,O,O,g4,O⟩
 refine .aq ?_;show aE _ _ _ _ _ _;exact cr Y ⟨Y,_,nd,A,e4,O,O,s3⟩
def sW{l:List ByteArray}(h:l.all (λ s=>decide (s=wt)||bF s)=true){i:Nat}{x:ByteArray}(H:l[i]? =some x):x=wt\/bF x=true:=by
 have:=Y6.1 h x (Xs H);simpa using this
def MZ{α:Type}{l:List α}{i:Nat}{x:α}(h:l[i]? =some x):l.set i x=l:=by
 obtain⟨H,rfl⟩:=KC.1 h;exact ZO H
def HdI.Xk{n j:Nat}{o:List Nat}{hd:List Int}{r:List ByteArray}{t:Iv}{d:Bool}(h:hdI n o j hd r d)(hj:j=n)(H:ordI n o)(g:d=true)(i:t.b=0)(he:t.e=n):okHd n [t] hd r:=by subst hj;subst g;exact h.ok H i he
def FY(w0 w:World)(cs:List Chunk)(g gc n:Nat)(va vt vx vr vn:Value)(t:Iv)(hs:Sat w0 ([jq 50 w0 g,ai gc 30 [va,vt,vx,vr,vn,.N,.N]]++cs) w)(hz:RdL w0 vt JG (List.replicate n ()))(hn:1<=n)(hm:n<=12)(m9:t.b=0)(n2:t.e=(n:Int)):
  CallsV prog 39 [(.P g),(.P gc)] w λ r W=>r= .tuple #[]/\∃ vh vl hd l,((hd=[]/\l=[])\/okHd n [t] hd l)/\Sat w0 ([jq 50 w0 g,ai gc 30 [va,vt,vx,vr,vn,vh,vl],cL vh 3 (Kw.encI .i64) hd,cL vl 9 aw l]++cs) W:=by
 refine aa func39 Y Y<|.h<|.ld 3 hs 1 Y<|.ln 0 (hz.E hs.E) Y<|.W Y<|.weaken [(0,_),(1,_),(4,(.I n)),(13,_),(14,_),(15,_),(16,_),(17,_)] ⟨Y,Y,If some (If (Value.I) bw),Y,Y,Y,Y,Y,trivial⟩<|.U Y<|.s<|.V Y<|have s1:=(hs.aC 3 un).mn;.lq [0,1,4] Y (α:=Nat×Value×List Nat) (λ(i,R,o)=>[(5,R),(6,(.I i))]) (λ(i,R,o) W=>Sat w0 (s1.V [(2,cL R 3 un o)]++cs) W/\(i<=n)/\(ordI i o)) (λ(i,R,o)=>n-i) (0,.N,[]) ⟨s1,KD _,Kj⟩ ?_;rintro⟨i,R,o⟩ w1 ⟨s2,hi,H⟩;refine .s<|.Z Y<|.ab Y (λ c1=>?_) λ c1=>?_
 ·refine .q<|.h<|.z 3 Y<|have A1:=s2.oc [0,1,2] 1;.c 0 (aN _ _ _ _ (i+1) A1 O O) Y ?_;rintro _ _ ⟨N,rfl,z7,p1⟩;have s3:=p1.join.od [0,1,2];refine .Z Y<|.sR (λ D W=>∃ (a9:Value),Weak [(0,(.P g)),(1,(.P gc)),(4,(.I n)),(5,a9),(6,(.I i)),(7,(.I N))] D/\Sat w0 ([jq 50 w0 g,ai gc 30 [va,vt,vx,vr,vn,.N,.N],cL a9 3 un (J N o++[i]++ww N o)]++cs) W) ?_ ?_
  ·refine .dt [0,1,2] s3 Y (pl [1,2,3,5,8,9,10] (.two 0 6 (.two 4 6 (pl [1006,1007,1011,12] .fin) (pl [1004,1007,1011,12] .fin)) (pl [1000,1004,1007,1011,12] .fin))) λ s4 S1=>.z 2 S1 Y<|.e Y (λ _ hS=>.bg (E:=a7 .i64) (a:=0) (c:=N) bc Y (hS.aj 2 Y) Y ⟨_,Y⟩ (KD _) a1I) S1<|.z 3 S1 Y<|.e Y (λ _ hS=>.bg (E:=a7 .i64) (a:=N) (c:=I o) bc Y (hS.aj 2 Y) ⟨_,Y⟩ Y a1I (KM _)) S1<|.Mf (λ v1 v2 v3 W=>Sat w0 ([jq 50 w0 g,ai gc 30 [va,vt,vx,vr,vn,.N,.N],cL R 3 un o,cL v2 3 un (ww 0 (J N o)),cL v3 3 un ([i])]++cs) W) Y ?_ ?_ ?_
   ·refine OpE.wu un bc s4 λ v1 _ s5 _=>have b2:=s5.mn;⟨b2.gZ [0,1,2] Y,?_,?_⟩
    ·refine OpE.aD 3 bc b2 Y Y Y underlying22 ((b2.aj 2 Y).sub (a:=0) (b:=N) (KD _) a1I) yk yk λ v2 _ s6 _=>have k5:=s6.sn;⟨k5.gZ [0,1,2] Y,?_⟩;exact OpE.bS un i bc Y k5 Y λ v3 _ s7 _=>have k9:=s7.mn;⟨k9.pt [0,1,2],k9⟩
    refine OpE.bS un i bc Y b2 Y λ E6 _ s8 _=>have g9:=s8.mn;⟨g9.gZ [0,1,2] Y,?_⟩;exact OpE.aD 3 bc g9 Y Y Y underlying22 ((g9.aj 2 Y).sub (a:=0) (b:=N) (KD _) a1I) yk yk λ v5 _ z1 _=>have l2:=z1.sn;⟨l2.pt [0,1,2],l2⟩
   ·refine OpE.bS un i bc Y s4 Y λ v6 _ p8 _=>have b7:=p8.mn;⟨b7.gZ [0,1,2] Y,?_⟩;refine OpE.wu un bc b7 λ v7 _ p9 _=>have X:=p9.mn;⟨X.gZ [0,1,2] Y,?_⟩;exact OpE.aD 4 bc X Y Y Y underlying22 ((X.aj 2 Y).sub (a:=0) (b:=N) (KD _) a1I) yk yk λ v8 _ q0 _=>have c0:=q0.sn;⟨c0.pt [0,1,2],c0.od [0,1,2,4,3]⟩
   rintro v1 v2 v3 F2 g6;have S2:=g6.pt [0,1,2];refine .f Y (.aD 3 bc g6 Y Y Y underlying22 (g6.aj 4 Y) yk yk λ F1 _ q1 _=>have a0:=(q1.sn).pt [0,1,2,3];have S3:=a0.pt [0,1,2];⟨S3,?_⟩);refine .f Y (.aD 3 bc a0 Y Y Y underlying22 ((a0.aj 2 Y).sub (a:=N) (b:=I o) a1I (KM _)) yk yk λ z2 _ q2 _=>have c5:=q2.sn;have S4:=c5.pt [0,1,2];⟨S4,?_⟩);exact .Z S4 Y<|have q3:=c5.pt [0,1,3];have q4:=(q3.bp 2 Y (show(J N o).drop 0++[i]++ww N (J (I o) o)=J N o++[i]++ww N o from bw)).sn;⟨z2,(wk Y),q4⟩
  rintro D F3 ⟨a9,n6,q5⟩;exact .weaken _ n6<|.U Y<|aP (i+1,a9,J N o++[i]++ww N o) ⟨q5,O,H.ins _ O⟩
 refine .aq<|.s<|.sR (λ D W=>∃ (hv:Value) (lv:Value),Weak [(0,(.P g)),(1,(.P gc)),(4,(.I n)),(5,R),(6,(.I i)),(8,hv),(9,lv)] D/\Sat w0 ([jq 50 w0 g,ai gc 30 [va,vt,vx,vr,vn,.N,.N],cL R 3 un o,cL hv 3 (Kw.encI .i64) (List.replicate n (0:Int)),cL lv 9 aw (List.replicate n wt)]++cs) W) ?_ ?_
 ·refine .dt [0,1,2] s2 Y (pl [0,2] (.two 1 3 (pl [4,1003,5] .fin) (pl [1001,4,5] .fin))) λ i8 S5=>.z 2 S5 Y<|.two Y Y Y Y Y Y (OpE.df (Kw.encI .i64) (0:Int) bc Y i8 Y Y O O O λ z3 _ q6 _=>?_) (OpE.df aw wt bI Y i8 Y Y O O O λ z4 _ q7 _=>?_)
  ·have c6:=q6.mn;have S6:=c6.pt [0,1,2];refine⟨S6,?_⟩;refine .z 1 S6 Y<|.f Y (.df aw wt bI Y c6 Y Y O O O λ z5 _ q8 _=>have c8:=q8.mn;have S7:=c8.pt [0,1,2];⟨S7,?_⟩);exact .Z S7 Y<|have r0:=c8.pt [0,1,2,3,4];⟨z3,z5,(wk Y),r0⟩
  have c7:=q7.mn;have S8:=c7.pt [0,1,2];refine⟨S8,?_⟩;refine .f Y (.df (Kw.encI .i64) (0:Int) bc Y c7 Y Y O O O λ z6 _ r1 _=>have c9:=r1.mn;have S9:=c9.pt [0,1,2];⟨S9,?_⟩);exact .Z S9 Y<|have r2:=(c9.od [0,1,2,4,3]);⟨z6,z4,(wk Y),r2⟩
 rintro D F4 ⟨hv,lv,n7,g7⟩;refine .weaken _ n7<|.W Y<|.h<|.ln 1 (g7.aj 2 Y) Y<|.V Y ?_;have ho:ordI n o:=by rw[show n=i by omega];exact H
 have B4:=ho.len;refine .lq [0,1,4,5,6,8,9,43,44] Y (α:=Nat×List Int×List ByteArray×Bool) (λ(j,hd,l,sb)=>[(10,(.bool sb)),(45,(.I j))]) (λ(j,hd,l,sb) W=>Sat w0 (g7.V [(3,cL hv 3 (Kw.encI .i64) hd),(4,cL lv 9 aw l)]++cs) W/\(hdI n o j hd l sb)/\(j<=I o)) (λ(j,hd,l,sb)=>I o-j) (0,List.replicate n 0,List.replicate n wt,false) ⟨g7,Hn,KD _⟩ ?_;rintro⟨j,hd,l,sb⟩ H1 ⟨A,d,B3⟩;refine .W Y<|.ab Y (λ c2=>?_) λ c2=>?_
 ·refine .q<|.s ?_;obtain⟨x,hx⟩:=ut o j c2;refine .r<|.ix 1 (A.aj 2 Y) Y<|.le 0 (A.aj 2 Y) hx Y<|.W Y<|have B6:=ho.lt x (a8 hx);.r<|.ix 2 (A.aj 3 Y) Y (hj:=a2U)<|.f Y (.dJ (a:= -1) 3 dB A Y Y Y Y ss λ _ r5 _=>have a1:=r5.sn;.j<|.jn [0,1,4,5,6,8,9,10,11,12,43,44,45] Y (λ K D W=>∃ (v9:Int) (s9:ByteArray),Weak K D/\Sat w0 (a1.V [(3,cL hv 3 (Kw.encI .i64) (hd.set x v9)),(4,cL lv 9 aw (l.set x s9))]++cs) W/\(v9= -1\/∃ q y:Nat,q<j/\o[q]? =some y/\v9=(y:Int))/\(s9=wt\/bF s9=true)) ?_ ?_)
  ·refine .s<|.sR (λ D W=>∃ (q9:Bool),Weak [(0,(.P g)),(1,(.P gc)),(4,(.I n)),(5,R),(6,(.I i)),(8,hv),(9,lv),(10,(.bool sb)),(11,(.I j)),(12,(.I x)),(43,R),(44,(.I (I o))),(45,(.I j)),(59,(.bool q9))] D/\Sat w0 ([jq 50 w0 g,ai gc 30 [va,vt,vx,vr,vn,.N,.N],cL R 3 un o,cL hv 3 (Kw.encI .i64) (hd.set x (-1)),cL lv 9 aw l]++cs) W/\(q9=true->0<j)) ?_ ?_
   ·refine .r<|.z 3 Y<|.B 55 Y (λ g1=>?_) λ g1=>?_
    ·refine .z 1 Y<|have A2:=a1.oc [0,1,2,3,4] 1;.c 0 (aN _ _ _ _ 4 A2 O O) Y ?_;rintro _ _ ⟨o2,rfl,z9,p2⟩;have r6:=p2.join.od [0,1,2,3,4];exact .Z Y ⟨decide (0<o2),(wk Y),r6,λ _=>by omega⟩
    exact .Z Y ⟨false,(wk Y),a1,(λ h=>by cases h)⟩
   rintro D K3 ⟨q9,n8,b1,m6⟩;refine .weaken _ n8<|.cond Y (λ c3=>?_) (λ c3=>?_)
   ·have B2:=m6 c3;have p:=(b1.aj (E:=Kw.encI .i64) 3 Y).gY bl;have u:=(b1.aj (E:=aw) 4 Y).gY bl;refine .dt [0,1,2] b1 Y (pl [0,1,2,3,4,5,6,11] (.two 7 10 (pl [8,9] (.two 10 12 (pl [1012,13,14,15,1016,17,1018] .fin) (pl [1010,13,14,15,1016,17,1018] .fin))) (pl [1007,8,9,1012,13,14,15,1016,17,1018] .fin))) λ i9 m0=>.z 8 m0 Y<|have A3:=i9.oc [0,1,2,3,4] 1;.vH Y Y Y Y Y Y (OpE.call rV Y ((aN _ _ _ _ j A3 O O).mono λ r3 _ m5=>?_)) (OpE.gh aw [(ws #[111,98,106]),(ws #[100,101,116]),(ws #[])] bI Y ⟨Y,Y,Y,trivial⟩ Y Y Y Y bl bl i9 λ C1 _ r7 _=>?_)
    ·obtain⟨i3,rfl,A0,p3⟩:=m5;have g8:=p3.join.od [0,1,2,3,4];have g4:=g8.pt [0,1,2];refine lB g4<|.ix 0 g4 (·.aj 2 Y) Y (hj:=a1W) ?_;have Q:i3<j:=O
     obtain⟨k,P⟩:∃ y,o[i3]? =some y:=⟨_,py a1W⟩;refine .le 0 g4 (·.aj 2 Y) P Y<|have A4:=g8.oc [0,1,2,3,4] 1;.vH Y Y Y Y Y Y (OpE.gh aw [(ws #[111,98,106]),(ws #[100,101,116]),(ws #[])] bI Y ⟨Y,Y,Y,trivial⟩ Y Y Y Y bl bl g8 λ E3 _ r8 _=>?_) (OpE.call rV Y ((aN _ _ _ _ 3 A4 O O).mono λ r4 _ h4=>?_))
     ·have e1:=r8.mn;have h0:=e1.pt [0,1,2,5];refine jl [0,1,2] h0 Y<|have A5:=e1.oc [0,1,2,3,4,5] 1;.c 0 h0 (aN _ _ _ _ 3 A5 O O) Y ?_;rintro _ _ ⟨i5,rfl,A9,p5⟩;have k0:=p5.join.od [0,1,2,3,4,5];have a3:=k0.pt [0,1,2,5];refine⟨a3,?_⟩;refine .ix 0 a3 (·.aj 3 Y) Y (hj:=cf) ?_;obtain⟨i0,b3⟩:∃ x,([(ws #[111,98,106]),(ws #[100,101,116]),(ws #[])]:List ByteArray)[i5]? =some x:=⟨_,py (show i5<3 by omega)⟩;refine .le 0 a3 (·.aj 3 Y) b3 Y<|.e Y (λ _ hS=>.lK bc Y Y p a3h) a3<|.f Y (.dJ (a:=((k:Nat):Int)) 3 dB k0 Y Y Y Y ss λ _ r9 _=>have e2:=r9.sn;have h5:=e2.pt [0,1,2,5];⟨h5,?_⟩);refine .e Y (λ _ hS=>.lK bI Y Y u a2U) h5<|.f Y (.dJ (a:=i0) 4 mC e2 Y Y Y Y ss λ _ u0 _=>have e3:=u0.sn;have m1:=e3.pt [0,1,2,5];⟨m1,?_⟩);exact .fin<|have u1:=e3.pt [0,1,2,3,4];have u2:=(u1.bp 3 Y (show(hd.set x (-1)).set x ((k:Nat):Int)=hd.set x ((k:Nat):Int)from by rw[a09])).sn;⟨((k:Nat):Int),i0,(wk Y),u2,.inr ⟨_,k,Q,P,Y⟩,(sW bl b3)⟩
     obtain⟨i4,rfl,A8,p4⟩:=h4;have k1:=p4.join.od [0,1,2,3,4];have m2:=k1.pt [0,1,2];refine lB m2<|.zj Y Y Y (OpE.gh aw [(ws #[111,98,106]),(ws #[100,101,116]),(ws #[])] bI Y ⟨Y,Y,Y,trivial⟩ Y Y Y Y bl bl k1 λ E4 _ u8 _=>have e4:=u8.mn;have a4:=e4.pt [0,1,2,5];jl [0,1,2] a4 Y<|.ix 0 a4 (·.aj 3 Y) Y (hj:=cf) ?_);obtain⟨i1,b4⟩:∃ x,([(ws #[111,98,106]),(ws #[100,101,116]),(ws #[])]:List ByteArray)[i4]? =some x:=⟨_,py (show i4<3 by omega)⟩;refine .le 0 a4 (·.aj 3 Y) b4 Y<|.e Y (λ _ hS=>.lK bc Y Y p a3h) a4<|.f Y (.dJ (a:=((k:Nat):Int)) 3 dB e4 Y Y Y Y ss λ _ v0 _=>have e5:=v0.sn;have h6:=e5.pt [0,1,2,5];⟨h6,?_⟩);refine .e Y (λ _ hS=>.lK bI Y Y u a2U) h6<|.f Y (.dJ (a:=i1) 4 mC e5 Y Y Y Y ss λ _ w5 _=>have e6:=w5.sn;have m3:=e6.pt [0,1,2,5];⟨m3,?_⟩);exact .fin<|have w6:=e6.pt [0,1,2,3,4];have w7:=(w6.bp 3 Y (show(hd.set x (-1)).set x ((k:Nat):Int)=hd.set x ((k:Nat):Int)from by rw[a09])).sn;⟨((k:Nat):Int),i1,(wk Y),w7,.inr ⟨_,k,Q,P,Y⟩,(sW bl b4)⟩
    have e0:=r7.mn;have h7:=e0.pt [0,1,2,5];refine jl [0,1,2] h7 Y<|have A6:=e0.oc [0,1,2,3,4,5] 1;.c 0 h7 (aN _ _ _ _ j A6 O O) Y ?_;rintro _ _ ⟨i6,rfl,B0,p6⟩;have k2:=p6.join.od [0,1,2,3,4,5];have a5:=k2.pt [0,1,2,5];refine⟨a5,?_⟩;refine .ix 0 a5 (·.aj 2 Y) Y (hj:=a1W) ?_;have g5:i6<j:=O
    obtain⟨T,b6⟩:∃ y,o[i6]? =some y:=⟨_,py a1W⟩;refine .le 0 a5 (·.aj 2 Y) b6 Y<|have A7:=k2.oc [0,1,2,3,4,5] 1;.c 0 a5 (aN _ _ _ _ 3 A7 O O) Y ?_;rintro _ _ ⟨i7,rfl,B1,p7⟩;have k3:=p7.join.od [0,1,2,3,4,5];have a6:=k3.pt [0,1,2,5];refine⟨a6,?_⟩;refine .ix 0 a6 (·.aj 3 Y) Y (hj:=cf) ?_;obtain⟨i2,b5⟩:∃ x,([(ws #[111,98,106]),(ws #[100,101,116]),(ws #[])]:List ByteArray)[i7]? =some x:=⟨_,py (show i7<3 by omega)⟩;refine .le 0 a6 (·.aj 3 Y) b5 Y<|.e Y (λ _ hS=>.lK bc Y Y p a3h) a6<|.f Y (.dJ (a:=((T:Nat):Int)) 3 dB k3 Y Y Y Y ss λ _ w9 _=>have e7:=w9.sn;have h8:=e7.pt [0,1,2,5];⟨h8,?_⟩);refine .e Y (λ _ hS=>.lK bI Y Y u a2U) h8<|.f Y (.dJ (a:=i2) 4 mC e7 Y Y Y Y ss λ _ x1 _=>have e8:=x1.sn;have m4:=e8.pt [0,1,2,5];⟨m4,?_⟩);exact .fin<|have x2:=e8.pt [0,1,2,3,4];have x3:=(x2.bp 3 Y (show(hd.set x (-1)).set x ((T:Nat):Int)=hd.set x ((T:Nat):Int)from by rw[a09])).sn;⟨((T:Nat):Int),i2,(wk Y),x3,.inr ⟨_,T,g5,b6,Y⟩,(sW bl b5)⟩
   refine .k ?_;have x4:=b1.pt [0,1,2,3,4];obtain⟨s0,h9⟩:∃ s,l[x]? =some s:=⟨_,py (by have:=d.len.2;omega)⟩;have x5:=(x4.bp 4 Y (show l=l.set x s0 from(MZ h9).symm)).sn;exact⟨-1,s0,(wk Y),x5,.inl Y,d.nm s0 (a8 h9)⟩
  rintro D L0 ⟨v9,s9,o1,a2,n5,m8⟩;refine .weaken _ o1<|have n3:(hd.set x v9)[x]? =some v9:=Yi (by have:=d.len.1;omega);have m7:(l.set x s9)[x]? =some s9:=Yi (by have:=d.len.2;omega);.bM 10 (((sb=true)\/((v9:Int)≠(-1:Int)))\/(s9≠(ws #[]))) ?_ ?_
  ·refine .z 2 Y ?_;by_cases g2:sb=true
   ·refine .Gt 78 Y g2<|.M Y a1J
   refine .Gf 78 Y a4q<|.ix 2 (a2.aj 3 Y) Y (hj:=by rw[Xt];have:=d.len;omega)<|.le 0 (a2.aj 3 Y) n3 Y<|.a 0 Y (.neq Y Y)<|.z 2 Y<|.B 85 Y (λ g3=>?_) λ g3=>?_
   ·refine .M Y a3A
   refine .ix 2 (a2.aj 4 Y) Y (hj:=by rw[Xt];have:=d.len;omega)<|.le 0 (a2.aj 4 Y) m7 Y<|.a 0 Y (.ej Y Y)<|.M Y a3A
  exact .U Y<|aP (j+1,hd.set x v9,l.set x s9,decide (((sb=true)\/((v9:Int)≠(-1:Int)))\/(s9≠(ws #[])))) ⟨a2,d.step ho hx v9 s9 n5 m8 (λ h=>by have h1:=XR h;exact h1.elim (λ h2=>h2.elim .inl (λ h3=>.inr (.inl h3))) (λ h2=>.inr (.inr h2))),O⟩
 refine .aq<|.Z Y<|.cond Y (λ c4=>?_) (λ c4=>?_)
 ·refine .r<|.st 6 A 1 Y (h1:=(A.aj 3 Y).ae) λ _ x6 _=>have g0:=x6.sn;.st 2 g0 1 Y (h1:=(g0.aj 4 Y).ae) λ _ x7 _=>have k4:=x7.sn;.j ?_;show aE _ _ _ _ _ _;exact cr Y<|have x8:=k4.pt [0,1,3,4];⟨Y,_,_,hd,l,.inr (HdI.Xk d a1W ho c4 m9 n2),x8⟩
 refine .k ?_;show aE _ _ _ _ _ _;exact cr Y<|have x9:=A.pt [0,1];have y2:=(x9.aC 3 (Kw.encI .i64)).mn;have z0:=(y2.aC 9 aw).mn;⟨Y,_,_,[],[],.inl ⟨Y,Y⟩,z0⟩
def Cc(w:World):
  CallsV prog 32 [] w λ r W=>Sat w [cL r 81 cj cR] W:=cd func32 Y λ H=>.Z Y<|.h<|.e Y (.build LR Y ⟨Y,trivial⟩ Y)<|.e Y (.build LR Y ⟨Y,trivial⟩ Y)<|.e Y (.build LR Y ⟨Y,Y,trivial⟩ Y)<|.f Y (.VY cj ((ws #[119,111,114,100]),false) ((ws #[116,97,103]),false) ((ws #[102,101,97,116]),true) HL (m:=2) Y bl bl H Y Y Y λ g _ d _=>.Z Y<|.ax Y Y<|d.pk [0])
def xZ{l:List ByteArray}(h:l.all (λ s=>decide (s.size<=120)&&qP s.data.toList)=true){i:Nat}{x:ByteArray}(H:l[i]? =some x):jJ x=true:=by
 have:=Y6.1 h x (Xs H);simp only[Xz,XS]at this;exact fP this.1 this.2
def I9{l:List Iv}{x:Iv}(h:∀ a∈l,∀ b∈l,noX a b)(h1:∀ z∈l,noX z x)(h2:noX x x):∀ a∈l++[x],∀ b∈l++[x],noX a b:=λ a H b d=>by
 rcases XE.1 H with p|p<;>rcases XE.1 d with q|q
 ·exact h a p b q
 ·rw[XJ.1 q];exact h1 a p
 ·rw[XJ.1 p];exact(h1 b q).symm
 rw[XJ.1 p,XJ.1 q];exact h2
def Ra{l:List Iv}{x z:Iv}{k:Nat}(h:∀ (m:Nat) t,m<k->l[m]? =some t->noX t x)(g:I l<=k)(d:z∈l):noX z x:=by
 obtain⟨i,H⟩:=Y9 d;exact h i z (by have:=(KC.1 H).1;omega) H
def rz(w0 w:World)(cs:List Chunk)(g a4:Nat)(nm:ByteArray)(hs:Sat w0 ([jq 50 w0 g]++cs) w)(h1:1<=a4)(h2:a4<=12)(B2:bF nm=true):
  CallsV prog 13 [(.P g),(.string nm),(.I a4)] w λ r w'=>∃ (c:Co) (d:List Nat),r=c.val/\OkC 1 c/\c.at_=cR/\((∀ t∈c.tx,t.nm=nm)/\I c.tx=1)/\Sat w0 ([jq 50 w0 g,fK d (λ W=>RdC W c)]++cs) w':=by
 refine aa func13 Y Y<|.h<|.al 0 hs Y λ b1 _ s1 _ _=>have s1d:=s1.mn;.j<|.h<|.z 2 Y<|have A1:=s1d.oc [0,1] 1;.c 0 (aN _ _ _ _ a4 A1 O O) Y ?_;rintro _ _ ⟨L1,rfl,hnk1,p1⟩;have s2:=p1.join.od [0,1];refine .W Y ?_;obtain⟨n,hn9⟩:∃ n,n=1+L1:=⟨_,Y⟩;refine .weaken [(0,_),(1,_),(2,_),(6,_),(7,(.I n)),(18,_),(19,_),(20,_),(21,_)] ⟨Y,Y,Y,Y,If some (If (Value.I) O),Y,Y,Y,Y,trivial⟩ ?_;have hn12:n<=12/\1<=n:=O
 refine .r<|.c 0 (Cc _) Y λ r2 _ z6=>have s3:=(s2.ay z6).mn;.a 2 Y (.build Pq Y ⟨Y,Y,trivial⟩ Y)<|.f Y (.bO aL (⟨nm,0,(n:Int),⟨none,0,0⟩,[]⟩:Iv) wm bl bl s3 Y λ v1 _ s4 _=>have l2:=s4.mn;.e Y (.build HM Y ⟨(l2.aj 2 Y).ae,(l2.aj 3 Y).ae,trivial⟩ Y)<|.al 0 l2 Y λ b2 _ s5 _ _=>have m1:=s5.mn;.sa 0 m1 4 (vs:=[r2,.N,v1,.N,.N,.N,.N]) Y (t8 ⟨(m1.aj 2 Y).ae,Y,(m1.aj 3 Y).ae,Y,Y,Y,Y,trivial⟩) λ _ s6 _=>have s6d:=s6.sn;.j<|.jn [0,1,2,6,7,8] Y (λ K L' w'=>∃ (sv:SV) (ps:List Pr) (F1:List Nat),Weak K L'/\Sat w0 ([jq 50 w0 g,ai b1 30 [.N,.N,.N,.N,.N,.N,.N],cL r2 81 cj cR,cL v1 63 aL ([(⟨nm,0,(n:Int),sv,ps⟩:Iv)]),ai b2 30 [r2,.N,v1,.N,.N,.N,.N],fK F1 (λ W=>RdL W sv.val aV ps)]++cs) w'/\(okPs ps)) ?_ ?_)
 ·refine .h<|.z 1 Y<|have A2:=s6d.oc [0,1,2,3,4] 1;.c 0 (aN _ _ _ _ 3 A2 O O) Y ?_;rintro _ _ ⟨nk2,rfl,hnk2,p3⟩;have s7:=p3.join.od [0,1,2,3,4];refine .Z Y<|.ab Y (λ c1=>?_) λ c1=>?_
  ·have H:=(s7.aj (E:=aL) 3 Y).gY bl;refine .dt [0,1,2,4] s7 Y (pl [0,1,3] (.two 2 4 (pl [1004,5,6,7,1008,9,10,1011] .fin) (pl [1002,5,6,7,1008,9,10,1011] .fin))) λ s8 S1=>.ld 1 S1 3 Y<|.z 1 S1 Y<|have A3:=s8.oc [0,1,2,3,4] 1;.vH Y Y Y Y Y Y (OpE.gh aw [(ws #[49]),(ws #[50]),(ws #[])] bI Y ⟨Y,Y,Y,trivial⟩ Y Y Y Y bl bl s8 λ v2 _ s9 _=>?_) (OpE.call rV Y ((aN _ _ _ _ 3 A3 O O).mono λ r4 _ h4=>?_))
   ·have w6:=s9.mn;have S2:=w6.pt [0,1,2,4,5];refine jl [0,1,2,3] S2 Y<|have A4:=w6.oc [0,1,2,3,4,5] 1;.c 0 S2 (aN _ _ _ _ 3 A4 O O) Y ?_;rintro _ _ ⟨q6,rfl,hnk4,p5⟩;have q7:=p5.join.od [0,1,2,3,4,5];have S3:=q7.pt [0,1,2,4,5];refine⟨S3,?_⟩;refine .ix 0 S3 (·.aj 4 Y) Y (hj:=cf) ?_;obtain⟨a6,h7⟩:∃ x,([(ws #[49]),(ws #[50]),(ws #[])]:List ByteArray)[q6]? =some x:=⟨_,py (show q6<3 by omega)⟩;refine .le 0 S3 (·.aj 4 Y) h7 Y<|.e Y (λ _ s=>.build LU Y ⟨Y,Y,trivial⟩ Y) S3<|.f Y (.bO aV ((ws #[121,101,97,114]),a6) HO bl bl q7 Y λ v3 _ s11 _=>?_);have c8:=s11.mn;obtain⟨e4,n7,C1⟩:=(c8.aj 6 Y).sv;subst n7;have S4:=c8.pt [0,1,2,4,5];refine⟨S4,?_⟩;refine .e Y (λ _ s=>.lK (j:=0) wm Y Y H bw) S4<|.e Y (λ _ s=>.VW Fs Y H bw) S4<|.f Y (.jF (E:=aL) 3 (⟨nm,0,(n:Int),e4,[((ws #[121,101,97,114]),a6)]⟩:Iv) LQ c8 Y Y Y Y (show([(⟨nm,0,(n:Int),⟨none,0,0⟩,[]⟩:Iv)])[0]? =some _ from Y) Y bl λ _ s12 _=>have i2:=s12.sn;have S5:=i2.pt [0,1,2,4,5];⟨S5,?_⟩);refine .fin ?_;have s13:=i2.pt [0,1,2,3,4,6];have s14:=(s13.bp 3 Y (show([(⟨nm,0,(n:Int),⟨none,0,0⟩,[]⟩:Iv)]).set 0 (⟨nm,0,(n:Int),e4,[((ws #[121,101,97,114]),a6)]⟩:Iv)=[(⟨nm,0,(n:Int),e4,[((ws #[121,101,97,114]),a6)]⟩:Iv)]from Y)).sn;have s15:=(s14.od [5,0,1,2,3,4]);obtain⟨z0,s16⟩:=s15.fu 1 (Q:=λ W=>RdL W e4.val aV [((ws #[121,101,97,114]),a6)]) Y Y (λ W A=>A.aj 0 Y);have s17:=(s16.od [1,2,3,4,5,0]);exact⟨e4,[((ws #[121,101,97,114]),a6)],z0,(wk Y),s17,uh (show bF (ws #[121,101,97,114])=true by decide) (xZ bl h7)⟩
   obtain⟨q5,rfl,hnk3,p4⟩:=h4;have q8:=p4.join.od [0,1,2,3,4];have S6:=q8.pt [0,1,2,4];refine lB S6<|.zj Y Y Y (OpE.gh aw [(ws #[49]),(ws #[50]),(ws #[])] bI Y ⟨Y,Y,Y,trivial⟩ Y Y Y Y bl bl q8 λ v_4 _ s19 _=>have i3:=s19.mn;have S7:=i3.pt [0,1,2,4,5];jl [0,1,2,3] S7 Y<|.ix 0 S7 (·.aj 4 Y) Y (hj:=cf) ?_);obtain⟨a9,h8⟩:∃ x,([(ws #[49]),(ws #[50]),(ws #[])]:List ByteArray)[q5]? =some x:=⟨_,py (show q5<3 by omega)⟩;refine .le 0 S7 (·.aj 4 Y) h8 Y<|.e Y (λ _ s=>.build LU Y ⟨Y,Y,trivial⟩ Y) S7<|.f Y (.bO aV ((ws #[121,101,97,114]),a9) HO bl bl i3 Y λ v5 _ s20 _=>?_);have c9:=s20.mn;obtain⟨e5,n8,E3⟩:=(c9.aj 6 Y).sv;subst n8;have S8:=c9.pt [0,1,2,4,5];refine⟨S8,?_⟩;refine .e Y (λ _ s=>.lK (j:=0) wm Y Y H bw) S8<|.e Y (λ _ s=>.VW Fs Y H bw) S8<|.f Y (.jF (E:=aL) 3 (⟨nm,0,(n:Int),e5,[((ws #[121,101,97,114]),a9)]⟩:Iv) LQ c9 Y Y Y Y (show([(⟨nm,0,(n:Int),⟨none,0,0⟩,[]⟩:Iv)])[0]? =some _ from Y) Y bl λ _ s21 _=>have i4:=s21.sn;have S9:=i4.pt [0,1,2,4,5];⟨S9,?_⟩);refine .fin ?_;have s22:=i4.pt [0,1,2,3,4,6];have s23:=(s22.bp 3 Y (show([(⟨nm,0,(n:Int),⟨none,0,0⟩,[]⟩:Iv)]).set 0 (⟨nm,0,(n:Int),e5,[((ws #[121,101,97,114]),a9)]⟩:Iv)=[(⟨nm,0,(n:Int),e5,[((ws #[121,101,97,114]),a9)]⟩:Iv)]from Y)).sn;have s24:=(s23.od [5,0,1,2,3,4]);obtain⟨z1,s25⟩:=s24.fu 1 (Q:=λ W=>RdL W e5.val aV [((ws #[121,101,97,114]),a9)]) Y Y (λ W A=>A.aj 0 Y);have s26:=(s25.od [1,2,3,4,5,0]);exact⟨e5,[((ws #[121,101,97,114]),a9)],z1,(wk Y),s26,uh (show bF (ws #[121,101,97,114])=true by decide) (xZ bl h8)⟩
  exact .k<|have s27:=s7.gA (Q:=λ W=>RdL W (⟨none,0,0⟩:SV).val aV []) (λ W=>RdL.nil _ _);have s28:=(s27.od [1,2,3,4,5,0]);⟨⟨none,0,0⟩,[],[],(wk Y),s28,ug⟩
 rintro L' w16 ⟨sv,ps,F1,H1,s29,B4⟩;refine .weaken _ H1<|.s<|.V Y<|have s30:=(s29.aC 28 k8).mn;have s31:=s30.gA (Q:=λ W=>∀ t∈([]:List Tk),RdL W t.sv.val aw t.ns) (λ W=>λ t p=>by cases p);have q9:=(s31.od [1,2,3,4,5,6,7,0]);.lq [0,1,2,6,7,8] Y (α:=Nat×Value×List Tk×List Nat) (λ(i,tv,T,F2)=>[(9,(.I i))]) (λ(i,tv,T,F2) w'=>Sat w0 (q9.V [(4,ai b2 30 [r2,tv,v1,.N,.N,.N,.N]),(6,cL tv 28 k8 T),(7,fK F2 (λ W=>∀ t∈T,RdL W t.sv.val aw t.ns))]++cs) w'/\(i<=n)/\(I T=i)/\(∀ t∈T,Se t.ns)) (λ(i,tv,T,F2)=>n-i) (0,.N,[],[]) ⟨q9,KD _,Y,(λ t p=>by cases p)⟩ ?_;rintro⟨i,tv,T,F2⟩ w17 ⟨r0,hin,htl,p2⟩;refine .s<|.Z Y<|.ab Y (λ c2=>?_) λ c2=>?_
 ·refine .q<|.h<|.z 1 Y<|have A5:=r0.oc [0,1,2,3,4,5,6,7] 1;.c 0 (aN _ _ _ _ 48 A5 O O) Y ?_;rintro _ _ ⟨g9,rfl,hnk5,p6⟩;have k9:=p6.join.od [0,1,2,3,4,5,6,7];refine .Z Y<|have B6:=(k9.aj (E:=k8) 6 Y).gY bl;.ek [0,1,2,3,4,5,7] [0,1,2,3,5,6] k9 Y Y 19 (pl [0,1,3,4,8,9,10,12,13,1002,5,6,1007,1011,1014,1015,1016,1017,18] (.bar 19 .fin)) mixed F<|have r1:=k9.drew;have a1:=r1.pt [0,1,2,3,4,5,7];.ld 1 a1 4 Y<|.z 1 a1 Y<|.e Y (λ _ s=>.rem (b:=8) Y Y O) a1<|.z 1 a1 Y<|.e Y (λ _ s=>.quo (b:=8) Y Y O en) a1<|.e Y (λ _ s=>.rem (b:=2) Y Y O) a1<|.z 1 a1 Y<|.e Y (λ _ s=>.quo (b:=12) Y Y O en) a1<|.zj Y Y Y (OpE.gh un [0,1,0,2,3,4,1,5] bc Y ⟨Y,Y,Y,Y,Y,Y,Y,Y,trivial⟩ Y Y Y Y bl bl r1 λ v6 _ s36 _=>have i5:=s36.mn;have e6:=i5.pt [0,1,2,3,4,5,7,8];jl [0,1,2,3,4,5,6] e6 Y<|.ix 0 e6 (·.aj 7 Y) Y (hj:=cf) ?_);obtain⟨w9,i0⟩:∃ x,([0,1,0,2,3,4,1,5]:List Nat)[(g9%8)]? =some x:=⟨_,py (show(g9%8)<8 by omega)⟩;have k3:w9<6:=(show ∀ y∈([0,1,0,2,3,4,1,5]:List Nat),y<6 by decide) _ (a8 i0);refine .le 0 e6 (·.aj 7 Y) i0 Y<|.c 0 e6 (I8 w9 _ k3) Y ?_;rintro _ _ ⟨h3,rfl,q0,p7⟩;have r3:=(i5.ay p7).aH;have m5:=r3.pt [0,1,2,3,4,5,7,8];refine⟨m5,?_⟩;refine .c 0 m5 (R9 ((g9/8)%2) _ O) Y ?_;rintro _ _ ⟨h5,rfl,q1,p8⟩;have r5:=(r3.ay p8).aH;have m6:=r5.pt [0,1,2,3,4,5,7,8];refine⟨m6,?_⟩;refine .c 0 m6 (MY (g9/12) _ O) Y ?_;rintro _ _ ⟨h6,rfl,q2,p9⟩;have r6:=(r5.ay p9).aH;have x6:=r6.pt [0,1,2,3,4,5,7,8];refine⟨x6,?_⟩;refine .f Y (.gh aw [h3,h5,h6] bI Y ⟨Y,Y,Y,trivial⟩ Y Y Y Y bl bl r6 λ v7 _ s40 _=>?_);have e0:=s40.mn;obtain⟨m4,o1,E4⟩:=(e0.aj 9 Y).sv;subst o1;have x7:=e0.pt [0,1,2,3,4,5,7,8];refine⟨x7,?_⟩;refine .f Y (.bS k8 (⟨m4,[h3,h5,h6]⟩:Tk) DI Y e0 Y λ v8 _ s41 _=>have e2:=s41.mn;have x8:=e2.pt [0,1,2,3,4,5,7,8];⟨x8,?_⟩);refine .f Y (.aD 6 DI e2 Y Y Y underlying24 (e2.aj 10 Y) dv dv λ v9 _ s42 _=>have e3:=(s42.sn).pt [0,1,2,3,4,5,6,7,8,9];have m7:=e3.pt [0,1,2,3,4,5,7,8];⟨m7,?_⟩);refine .z 1 m7 Y<|.bar Y Y Y (OpE.aG QF e3 (i:=4) Y Y Y ((e3.aj 6 Y).ae) Y λ _ s43 _=>have i6:=s43.sn;have x9:=i6.pt [0,1,2,3,5,7];⟨x9,?_⟩);refine .fin<|.U Y ?_;have s44:=(i6.od [7,9,0,1,2,3,4,5,6,8]);obtain⟨z2,s45⟩:=s44.fu 2 (Q:=λ W=>∀ t∈T++[(⟨m4,[h3,h5,h6]⟩:Tk)],RdL W t.sv.val aw t.ns) Y Y (λ W A=>λ t p=>(XE.1 p).elim (A.bE 0 Y t) (λ h=>by rw[XJ.1 h];exact A.aj 1 Y));have s46:=(s45.od [1,2,3,4,5,6,7,0,8]);have s47:=s46.pt [0,1,2,3,4,5,6,7];exact aP (i+1,v9,T++[(⟨m4,[h3,h5,h6]⟩:Tk)],z2) ⟨s47,O,UC,λ t p=>(XE.1 p).elim (p2 t) (λ h=>by rw[XJ.1 h];exact⟨_,_,_,Y,q0,q1,q2⟩)⟩
 refine .aq<|.W Y<|.h<|.z 1 Y<|have A6:=r0.oc [0,1,2,3,4,5,6,7] 1;.c 0 (aN _ _ _ _ 5 A6 O O) Y ?_;rintro _ _ ⟨L3,rfl,hnk6,M1⟩;have s48:=M1.join.od [0,1,2,3,4,5,6,7];refine .V Y ?_;have s49:=(s48.aC 67 aL).mn;have s50:=s49.gA (Q:=λ W=>∀ t∈([]:List Iv),RdL W t.sv.val aV t.ps) (λ W=>λ t p=>by cases p);have m0:=(s50.od [1,2,3,4,5,6,7,8,9,0]);have q4:RdL w0 tv JG (List.replicate n ()):=by rw[show n=I T by omega];exact(m0.aj 6 Y).sz
 refine .lq [0,1,2,6,7,8,9] Y (α:=Nat×Value×List Iv×List Nat) (λ(kk,rv,R,F3)=>[(11,rv),(12,(.I kk))]) (λ(kk,rv,R,F3) w'=>Sat w0 (m0.V [(8,cL rv 67 aL R),(9,fK F3 (λ W=>∀ t∈R,RdL W t.sv.val aV t.ps))]++cs) w'/\(I R+kk<=4)/\(∀ x∈R,X2 n x)/\(∀ x∈R,∀ y∈R,noX x y)) (λ(kk,rv,R,F3)=>kk) (L3,.N,[],[]) ⟨m0,cf,(λ x hx=>by cases hx),(λ x hx=>by cases hx)⟩ ?_;rintro⟨kk,rv,R,F3⟩ w28 ⟨h0,hrl,e8,k2⟩;refine .s<|.Z Y<|.ab Y (λ c3=>?_) λ c3=>?_
 ·refine .q<|.h<|.z 2 Y<|have A7:=h0.oc [0,1,2,3,4,5,6,7,8,9] 1;.c 0 (aN _ _ _ _ n A7 O O) Y ?_;rintro _ _ ⟨N,rfl,hnk7,M2⟩;have s53:=M2.join.od [0,1,2,3,4,5,6,7,8,9];refine .Z Y<|.h<|.z 1 Y<|have A8:=s53.oc [0,1,2,3,4,5,6,7,8,9] 1;.c 0 (aN _ _ _ _ 2 A8 O O) Y ?_;rintro _ _ ⟨L5,rfl,hnk8,M3⟩;have s54:=M3.join.od [0,1,2,3,4,5,6,7,8,9];refine .c 0 (DS L5 _ O) Y ?_;rintro _ _ ⟨a0,rfl,q3,M4⟩;have s55:=(s54.ay M4).aH;refine .z 7 Y<|have A9:=s55.oc [0,1,2,3,4,5,6,7,8,9] 1;.c 0 (aN _ _ _ _ (n-N) A9 O O) Y ?_;rintro _ _ ⟨l,rfl,hnk9,M5⟩;have s56:=M5.join.od [0,1,2,3,4,5,6,7,8,9];refine .a 1 Y (.build T9 Y ⟨Y,Y,Y,trivial⟩ Y)<|.al 0 s56 Y λ b3 _ s57 _ _=>have r7:=s57.mn;.sa 0 r7 10 (vs:=[(.string a0),(.I N),(.I (((N+1)+l):Nat)),.N]) Y t7 λ _ s58 _=>have r8:=s58.sn;.j<|.jn [0,1,2,6,7,8,9,11,12,13,14] Y (λ K L' w'=>∃ (sk:SV) (kp:List Pr) (F4:List Nat),Weak K L'/\Sat w0 ([jq 50 w0 g,ai b1 30 [.N,.N,.N,.N,.N,.N,.N],cL r2 81 cj cR,cL v1 63 aL ([(⟨nm,0,(n:Int),sv,ps⟩:Iv)]),ai b2 30 [r2,tv,v1,.N,.N,.N,.N],fK F1 (λ W=>RdL W sv.val aV ps),cL tv 28 k8 T,fK F2 (λ W=>∀ t∈T,RdL W t.sv.val aw t.ns),cL rv 67 aL R,fK F3 (λ W=>∀ t∈R,RdL W t.sv.val aV t.ps),ai b3 67 [(.string a0),(.I N),(.I (((N+1)+l):Nat)),sk.val],fK F4 (λ W=>RdL W sk.val aV kp)]++cs) w'/\(okPs kp)) ?_ ?_
  ·refine .h<|.z 1 Y<|have x1:=r8.oc [0,1,2,3,4,5,6,7,8,9,10] 1;.c 0 (aN _ _ _ _ 2 x1 O O) Y ?_;rintro _ _ ⟨nk10,rfl,A0,S0⟩;have r9:=S0.join.od [0,1,2,3,4,5,6,7,8,9,10];refine .Z Y<|.ab Y (λ c4=>?_) λ c4=>?_
   ·refine .r<|.f Y (.gh aw [(ws #[49]),(ws #[50])] bI Y ⟨Y,Y,trivial⟩ Y Y Y Y bl bl r9 λ v10 _ s60 _=>have s0:=s60.mn;.z 1 Y<|have x2:=s0.oc [0,1,2,3,4,5,6,7,8,9,10,11] 1;.c 0 (aN _ _ _ _ 2 x2 O O) Y ?_);rintro _ _ ⟨i1,rfl,B0,T1⟩;have m2:=T1.join.od [0,1,2,3,4,5,6,7,8,9,10,11];refine .ix 0 (m2.aj 11 Y) Y (hj:=cf) ?_;obtain⟨k4,h9⟩:∃ x,([(ws #[49]),(ws #[50])]:List ByteArray)[i1]? =some x:=⟨_,py (show i1<2 by omega)⟩;refine .le 0 (m2.aj 11 Y) h9 Y<|.e Y (.build LU Y ⟨Y,Y,trivial⟩ Y)<|.f Y (.bO aV ((ws #[110]),k4) HO bl bl m2 Y λ v11 _ s62 _=>?_);have i7:=s62.mn;obtain⟨w7,o2,E6⟩:=(i7.aj 12 Y).sv;subst o2;refine .st 1 i7 10 Y λ _ s63 _=>have u0:=s63.sn;.j ?_;have s64:=u0.pt [0,1,2,3,4,5,6,7,8,9,10,12];have s65:=(s64.od [11,0,1,2,3,4,5,6,7,8,9,10]);obtain⟨z3,s66⟩:=s65.fu 1 (Q:=λ W=>RdL W w7.val aV [((ws #[110]),k4)]) Y Y (λ W A=>A.aj 0 Y);have s67:=(s66.od [1,2,3,4,5,6,7,8,9,10,11,0]);exact⟨w7,[((ws #[110]),k4)],z3,(wk Y),s67,uh (show bF (ws #[110])=true by decide) (xZ bl h9)⟩
   exact .k<|have s68:=r9.gA (Q:=λ W=>RdL W (⟨none,0,0⟩:SV).val aV []) (λ W=>RdL.nil _ _);have s69:=(s68.od [1,2,3,4,5,6,7,8,9,10,11,0]);⟨⟨none,0,0⟩,[],[],(wk Y),s69,ug⟩
  rintro L' w40 ⟨sk,kp,F4,K3,m3,z9⟩;refine .weaken _ K3<|.W Y<|.h<|.ln 1 (m3.aj 8 Y) Y<|.V Y<|.lq [0,1,2,6,7,8,9,11,12,13,14,101,102] Y (α:=Nat×Bool) (λ(q,cb)=>[(15,(.bool cb)),(103,(.I q))]) (λ(q,cb) w'=>Sat w0 m3.L w'/\(cb=false->∀ (m:Nat) z,m<q->R[m]? =some z->noX z (⟨a0,((N:Nat):Int),((((N+1)+l):Nat):Int),sk,kp⟩:Iv))) (λ(q,cb)=>I R-q) (0,false) ⟨m3,λ _ m z h=>absurd h O⟩ ?_;rintro⟨q,cb⟩ w41 ⟨b7,n5⟩;refine .W Y<|.ab Y (λ c5=>?_) λ c5=>?_
  ·refine .q<|.s ?_;obtain⟨y,hy⟩:=ut R q c5;refine .r<|.ix 0 (b7.aj 8 Y) Y<|.lg 0 (b7.aj 8 Y) hy Y<|.al 0 b7 Y λ b4 _ s72 _ _=>have u1:=s72.mn;.sa 0 u1 12 Y ((aL).one _) λ _ s73 _=>have k:=s73.sn;.j<|.bM 15 ((cb=true)\/(((((y.nm=a0)/\((y.b:Int)<((((N+1)+l):Nat):Int)))/\(((N:Nat):Int)<(y.e:Int)))/\(¬ (((y.b:Int)<=((N:Nat):Int))/\(((((N+1)+l):Nat):Int)<=(y.e:Int)))))/\(¬ ((((N:Nat):Int)<=(y.b:Int))/\((y.e:Int)<=((((N+1)+l):Nat):Int)))))) ?_ ?_
   ·refine .z 2 Y ?_;by_cases o:cb=true
    ·refine .Gt 108 Y o<|.M Y (by first|(simp[o];done)|(simp[o];omega))
    refine .Gf 108 Y a2P<|.ld 1 k 12 Y<|.ld 1 k 10 Y<|.a 0 Y (.cN Y Y)<|.z 1 Y<|.B 114 Y (λ g2=>?_) λ g2=>?_
    ·refine .ld 1 k 12 Y<|.ld 1 k 10 Y<|.a 0 Y (.lss Y Y)<|.z 2 Y<|.B 121 Y (λ g3=>?_) λ g3=>?_
     ·refine .ld 1 k 10 Y<|.ld 1 k 12 Y<|.a 0 Y (.lss Y Y)<|.z 2 Y<|.B 128 Y (λ g4=>?_) λ g4=>?_
      ·refine .ld 1 k 12 Y<|.ld 1 k 10 Y<|.a 0 Y (.leq Y Y)<|.z 1 Y<|.B 134 Y (λ g5=>?_) λ g5=>?_
       ·refine .ld 1 k 10 Y<|.ld 1 k 12 Y<|.a 0 Y (.leq Y Y)<|.a 1 Y (.oG Y)<|.z 2 Y<|.B 143 Y (λ g6=>?_) λ g6=>?_
        ·refine .ld 1 k 10 Y<|.ld 1 k 12 Y<|.a 0 Y (.leq Y Y)<|.z 1 Y<|.B 149 Y (λ g7=>?_) λ g7=>?_
         ·refine .ld 1 k 12 Y<|.ld 1 k 10 Y<|.a 0 Y (.leq Y Y)<|.a 1 Y (.oG Y)<|.M Y a2y
         refine .M Y a2y
        refine .M Y (by first|(simp[o,g2,g3,g4,g5,g6];done)|(simp[o,g2,g3,g4,g5,g6];omega))
       refine .ld 10 k 10 Y<|.ld 1 k 12 Y<|.a 0 Y (.leq Y Y)<|.z 1 Y<|.B 149 Y (λ g8=>?_) λ g8=>?_
       ·refine .ld 1 k 12 Y<|.ld 1 k 10 Y<|.a 0 Y (.leq Y Y)<|.a 1 Y (.oG Y)<|.M Y a2J
       refine .M Y a2J
      refine .M Y (by first|(simp[o,g2,g3,g4];done)|(simp[o,g2,g3,g4];omega))
     refine .M Y (by first|(simp[o,g2,g3];done)|(simp[o,g2,g3];omega))
    refine .M Y (by first|(simp[o,g2];done)|(simp[o,g2];omega))
   exact .U Y<|have s74:=k.pt [0,1,2,3,4,5,6,7,8,9,10,11];aP (q+1,decide ((cb=true)\/(((((y.nm=a0)/\((y.b:Int)<((((N+1)+l):Nat):Int)))/\(((N:Nat):Int)<(y.e:Int)))/\(¬ (((y.b:Int)<=((N:Nat):Int))/\(((((N+1)+l):Nat):Int)<=(y.e:Int)))))/\(¬ ((((N:Nat):Int)<=(y.b:Int))/\((y.e:Int)<=((((N+1)+l):Nat):Int))))))) ⟨s74,λ h=>by have h1:=YY h;exact ka (Q:=λ _ z=>noX z (⟨a0,((N:Nat):Int),((((N+1)+l):Nat):Int),sk,kp⟩:Iv)) (n5 (a1a.2 λ h2=>h1 (.inl h2))) hy (λ e1 hh=>h1 (.inr ⟨⟨⟨⟨e1,hh.1⟩,hh.2.1⟩,hh.2.2.1⟩,hh.2.2.2⟩))⟩
  refine .aq<|.h<|.a 1 Y (.cK Y)<|.j<|.cond Y (λ c6=>?_) (λ c6=>?_)
  ·refine .r<|.lo 1 b7 10 Y<|.f Y (.bO aL (⟨a0,((N:Nat):Int),((((N+1)+l):Nat):Int),sk,kp⟩:Iv) rq bl bl b7 Y λ v12 _ s75 _=>have i8:=s75.mn;.ap 0 i8 8 (i8.aj 12 Y) Y (h1:=dv) (h2:=dv) λ v13 _ s76 _=>have u2:=(s76.sn).pt [0,1,2,3,4,5,6,7,8,9,10,11];.Z Y<|.U Y ?_);have s77:=(u2.od [9,11,0,1,2,3,4,5,6,7,8,10]);obtain⟨z4,s78⟩:=s77.fu 2 (Q:=λ W=>∀ t∈R++[(⟨a0,((N:Nat):Int),((((N+1)+l):Nat):Int),sk,kp⟩:Iv)],RdL W t.sv.val aV t.ps) Y Y (λ W A=>λ t p=>(XE.1 p).elim (A.bE 0 Y t) (λ h=>by rw[XJ.1 h];exact A.bE 1 Y));have s79:=(s78.od [1,2,3,4,5,6,7,8,9,0,10]);have s80:=s79.pt [0,1,2,3,4,5,6,7,8,9];exact aP (kk-1,v13,R++[(⟨a0,((N:Nat):Int),((((N+1)+l):Nat):Int),sk,kp⟩:Iv)],z4) ⟨s80,UC,λ x hx=>(XE.1 hx).elim (e8 x) (λ h=>by rw[XJ.1 h];exact⟨FV _ q3,z9,a0H,a0H,a0H⟩),I9 k2 (λ z hz=>Ra (n5 (by simpa using c6)) O hz) (λ _ h=>by simp only at h;omega)⟩
  exact .k<|.U Y<|have s81:=b7.pt [0,1,2,3,4,5,6,7,8,9];aP (kk-1,rv,R,F3) ⟨s81,O,e8,k2⟩
 refine .aq<|.h<|.c 1 (FW _ R _ (h0.aj 8 Y) (h0.bE 9 Y) O (λ t p=>(e8 t p).2.1.1)) Y ?_;rintro b5 _ ⟨k5,P,g0,T2⟩;have u8:=(h0.ay T2).mn;refine .st 1 u8 4 Y (h1:=(u8.aj 10 Y).ae) λ _ s83 _=>have v0:=s83.sn;.j<|.h<|.z 1 Y<|have x3:=v0.oc [0,4,1,2,3,5,6,7,8,9,10] 2;.c 0 (FX _ _ _ _ _ n _ _ _ _ x3 q4 O O) Y ?_;rintro _ _ ⟨rfl,D,c0,y2,k1,n6,e7,W2⟩;have s84:=W2.join.od [0,3,4,5,1,6,7,8,9,10,11,2];refine .j<|.jn [0,1,2,6,7,8,9,11,12] Y (λ K L' w'=>∃ (a2:Value) (a3:Value) (a5:List Int) (b6:List ByteArray),Weak K L'/\Sat w0 ([jq 50 w0 g,ai b1 30 [.N,.N,.N,.N,.N,.N,.N],cL r2 81 cj cR,cL v1 63 aL ([(⟨nm,0,(n:Int),sv,ps⟩:Iv)]),ai b2 30 [r2,tv,v1,b5,D,a2,a3],fK F1 (λ W=>RdL W sv.val aV ps),cL tv 28 k8 T,fK F2 (λ W=>∀ t∈T,RdL W t.sv.val aw t.ns),cL rv 67 aL R,fK F3 (λ W=>∀ t∈R,RdL W t.sv.val aV t.ps),cL b5 67 aL k5,cL D 69 bT c0,cL a2 3 (Kw.encI .i64) a5,cL a3 9 aw b6]++cs) w'/\((a5=[]/\b6=[])\/okHd n [(⟨nm,0,(n:Int),sv,ps⟩:Iv)] a5 b6)) ?_ ?_
 ·refine .h<|.z 1 Y<|have x4:=s84.oc [0,1,2,3,4,5,6,7,8,9,10,11] 1;.c 0 (aN _ _ _ _ 2 x4 O O) Y ?_;rintro _ _ ⟨nk12,rfl,B1,p19⟩;have w5:=p19.join.od [0,1,2,3,4,5,6,7,8,9,10,11];refine .Z Y<|.ab Y (λ c7=>?_) λ c7=>?_
  ·refine .r<|.z 1 Y<|have x5:=w5.oc [0,4,1,2,3,5,6,7,8,9,10,11] 2;.c 0 (FY _ _ _ _ _ n _ _ _ _ _ (⟨nm,0,(n:Int),sv,ps⟩:Iv) x5 q4 O O Y Y) Y ?_;rintro _ _ ⟨rfl,n2,n3,m8,m9,k0,p20⟩;have s86:=p20.join.od [0,4,5,6,1,7,8,9,10,11,12,13,2,3];exact .j ⟨n2,n3,m8,m9,(wk Y),s86,k0⟩
  exact .k<|have s87:=(w5.aC 3 (Kw.encI .i64)).mn;have s88:=(s87.aC 9 aw).mn;⟨Value.N,.N,[],[],(wk Y),s88,.inl ⟨Y,Y⟩⟩
 rintro L' w51 ⟨a2,a3,a5,b6,L0,X,z7⟩;refine .weaken _ L0<|.h<|.lo 0 X 4 Y<|.sa 0 X 1 (vs:=[r2,tv,v1,b5,D,a2,a3]) Y (t8 ⟨(X.aj 2 Y).ae,(X.aj 6 Y).ae,(X.aj 3 Y).ae,(X.aj 10 Y).ae,(X.aj 11 Y).ae,(X.aj 12 Y).ae,(X.aj 13 Y).ae,trivial⟩) λ _ s90 _=>have i9:=s90.sn;.j<|.ret ?_;show aE _ _ _ _ _ _;refine cx (vs:=[r2,tv,v1,b5,D,a2,a3]) Y Y fW (λ j u hu=>i9.cell (i:=1) Y hu) ?_;have s91:=(i9.od [2,3,5,6,7,9,10,11,12,13,0,1,4,8]);obtain⟨z5,s92⟩:=s91.fu 10 (Q:=λ W=>RdC W (Co.mk r2 tv v1 b5 D a2 a3 cR T [(⟨nm,0,(n:Int),sv,ps⟩:Iv)] k5 c0 a5 b6)) Y Y (λ W A=>⟨A.aj 0 Y,A.aj 3 Y,A.aj 1 Y,A.aj 6 Y,A.aj 7 Y,A.aj 8 Y,A.aj 9 Y,A.bE 4 Y,(λ t p=>by rw[XJ.1 p];exact A.bE 2 Y),λ t p=>A.bE 5 Y t (P.mem_iff.1 p)⟩);have s93:=(s92.od [1,0,2,3,4]);have s94:=s93.pt [0,1];have B3:OkC 1 (Co.mk r2 tv v1 b5 D a2 a3 cR T [(⟨nm,0,(n:Int),sv,ps⟩:Iv)] k5 c0 a5 b6):=Sf (n:=n) (t:=(⟨nm,0,(n:Int),sv,ps⟩:Iv)) (at_:=y2) O O Y a0H p2 Y Y Y B2 B4 (λ x hx=>e8 x (P.mem_iff.1 hx)) g0 (λ x hx y hy=>k2 x (P.mem_iff.1 hx) y (P.mem_iff.1 hy)) (by have:=P.length_eq;simp only;omega) k1 n6 e7 z7;exact⟨_,z5,Y,B3,Y,⟨λ t p=>by rw[XJ.1 p],Y⟩,s94⟩
def zB:List ByteArray:=[(ws #[116,48]),(ws #[116,49]),(ws #[116,50])]
def Ia:∀ (i j:Nat) (x y:ByteArray),zB[i]? =some x->zB[j]? =some y->i≠j->x≠y:=by
 intro i j x y H d h;have g:i<3:=(KC.1 H).1;have l:j<3:=(KC.1 d).1;have k:∀ i<3,∀ j<3,i≠j->zB[i]? ≠zB[j]? :=bl
 intro e;subst e;exact k i g j l h (H.trans d.symm)
def N0{a b c:Co}{k:Nat}{x:ByteArray}(l:IsCat a b c)(i:∀ t∈a.tx,∀ (m:Nat) s,1<=m->m<=k->zB[m]? =some s->s≠t.nm)(j:∀ t∈b.tx,t.nm=x)(q:k-1<=k)(o:zB[k]? =some x):∀ t∈c.tx,∀ (m:Nat) s,1<=m->m<=k-1->zB[m]? =some s->s≠t.nm:=λ t d m s g p H=>by
 rw[l.tx]at d;rcases gM d with h|⟨y,hy,e⟩
 ·exact i t h m s g O H
 rw[e];show s≠y.nm;rw[j y hy];exact Ia m k _ _ H o O
def Ce(w0 w:World)(cs:List Chunk)(g A:Nat)(hs:Sat w0 ([jq 50 w0 g]++cs) w)(h1:1<=A)(h2:A<=12):
  CallsV prog 5 [(.P g),(.I A)] w λ r w'=>∃ (c:Co) (d:List Nat) (n:Nat),r=c.val/\n<=3/\OkC n c/\c.at_=cR/\Sat w0 ([fK d (λ w1=>RdC w1 c)]++cs) w':=by
 refine aa func5 Y Y ?_;refine .h<|.al 0 hs Y λ b1 _ s1 _ _=>?_;have e6:=s1.mn;refine .j<|.h<|.z 2 Y ?_;have A1:=e6.oc [0,1] 1;refine .c 0 (rz _ _ _ _ A (ws #[116,48]) A1 O O bl) Y λ r1 _ c2=>?_;obtain⟨D,b7,rfl,b5,a4,⟨a5,_⟩,p1⟩:=c2;have s2:=p1.join.od [0,2,1];refine .al 0 s2 Y λ b2 _ s3 _ _=>?_;have K:=s3.mn;refine .sa 0 K 3 (vs:=[D.va,D.vt,D.vx,D.vr,D.vn,D.vh,D.vl]) Y (t8 ⟨(K.bE 2 Y).a.ae,(K.bE 2 Y).t.ae,(K.bE 2 Y).x.ae,(K.bE 2 Y).r.ae,(K.bE 2 Y).n.ae,(K.bE 2 Y).h.ae,(K.bE 2 Y).l.ae,trivial⟩) λ _ s4 _=>?_;have e8:=s4.sn;refine .j<|.s<|.h<|.z 1 Y ?_;have A2:=e8.oc [0,1,2,3] 1;refine .c 0 (aN _ _ _ _ 3 A2 O O) Y λ r2 _ c3=>?_;obtain⟨c4,rfl,g0,p2⟩:=c3;have s5:=p2.join.od [0,1,2,3];refine .V Y<|.lq [0,1,4,5] Y (α:=Nat×Co×List Nat×Nat) (λ(R,c,d,j)=>[(6,(.I R))]) (λ(R,c,d,j) w'=>Sat w0 (s5.V [(2,fK d (λ w1=>RdC w1 c)),(3,ai b2 30 [c.va,c.vt,c.vx,c.vr,c.vn,c.vh,c.vl])]++cs) w'/\(OkC j c)/\(R<=2)/\(j+R<=3)/\(c.at_=cR)/\(∀ t∈c.tx,∀ (m:Nat) s,1<=m->m<=R->zB[m]? =some s->s≠t.nm)) (λ(R,c,d,j)=>R) (c4,D,b7,1) ⟨s5,b5,O,O,a4,λ t ht m s h1 _ hm=>by rw[a5 t ht];exact Ia m 0 _ _ hm Y O⟩ ?_;rintro⟨R,c,d,j⟩ w6 ⟨X,a6,g3,hj,a0,a3⟩;refine .s<|.Z Y<|.ab Y (λ c1=>?_) λ c1=>?_
 ·refine .q<|.h<|.b 1 Y (.gh aw [(ws #[116,48]),(ws #[116,49]),(ws #[116,50])] bI Y ⟨Y,Y,Y,trivial⟩ Y Y Y Y bl bl X λ v1 _ s7 _=>?_);have a9:=s7.mn;refine .ix 1 (a9.aj 4 Y) Y (hj:=cf) ?_;obtain⟨c5,H⟩:∃ x,([(ws #[116,48]),(ws #[116,49]),(ws #[116,50])]:List ByteArray)[R]? =some x:=⟨_,py (show R<3 by omega)⟩;refine .le 0 (a9.aj 4 Y) H Y<|.z 1 Y ?_;have A3:=a9.oc [0,1,2,3,4] 1;refine .c 0 (rz _ _ _ _ A c5 A3 O O (mK bl H)) Y λ r3 _ h3=>?_;obtain⟨q,g2,rfl,a1,W,⟨P,_⟩,p3⟩:=h3;have s8:=p3.join.od [0,2,3,4,5,1];refine .al 0 s8 Y λ b3 _ s9 _ _=>?_;have N:=s9.mn;refine .sa 0 N 6 (vs:=[q.va,q.vt,q.vx,q.vr,q.vn,q.vh,q.vl]) Y (t8 ⟨(N.bE 5 Y).a.ae,(N.bE 5 Y).t.ae,(N.bE 5 Y).x.ae,(N.bE 5 Y).r.ae,(N.bE 5 Y).n.ae,(N.bE 5 Y).h.ae,(N.bE 5 Y).l.ae,trivial⟩) λ _ c6 _=>?_;have E:=c6.sn;refine .j<|.h<|.lo 0 E 3 Y<|.lo 0 E 6 Y<|.c 0 (G7 c q _ _ _ (E.bE 2 Y) (E.bE 5 Y) a6 a1 O O (by rw[a0,W]) (λ x hx y hy e=>a3 y hy R _ O (KM _) H (by rw[e,P x hx]))) Y λ r4 _ h4=>?_;obtain⟨p,g1,rfl,T,p4⟩:=h4;have c7:=(E.ay p4).mn;refine .al 3 c7 Y λ b4 _ c8 _ _=>?_;have o:=c8.mn;refine .sa 0 o 8 (vs:=[p.va,p.vt,p.vx,p.vr,p.vn,p.vh,p.vl]) Y (t8 ⟨((o.bE 7 Y) (o.bE 2 Y) (o.bE 5 Y)).a.ae,((o.bE 7 Y) (o.bE 2 Y) (o.bE 5 Y)).t.ae,((o.bE 7 Y) (o.bE 2 Y) (o.bE 5 Y)).x.ae,((o.bE 7 Y) (o.bE 2 Y) (o.bE 5 Y)).r.ae,((o.bE 7 Y) (o.bE 2 Y) (o.bE 5 Y)).n.ae,((o.bE 7 Y) (o.bE 2 Y) (o.bE 5 Y)).h.ae,((o.bE 7 Y) (o.bE 2 Y) (o.bE 5 Y)).l.ae,trivial⟩) λ _ c9 _=>?_;have k:=c9.sn;refine .Z Y<|.Z Y<|.cc Y Y<|.r<|.lo 0 k 8 Y<|.sa 0 k 3 (vs:=[p.va,p.vt,p.vx,p.vr,p.vn,p.vh,p.vl]) Y (t8 ⟨((k.bE 7 Y) (k.bE 2 Y) (k.bE 5 Y)).a.ae,((k.bE 7 Y) (k.bE 2 Y) (k.bE 5 Y)).t.ae,((k.bE 7 Y) (k.bE 2 Y) (k.bE 5 Y)).x.ae,((k.bE 7 Y) (k.bE 2 Y) (k.bE 5 Y)).r.ae,((k.bE 7 Y) (k.bE 2 Y) (k.bE 5 Y)).n.ae,((k.bE 7 Y) (k.bE 2 Y) (k.bE 5 Y)).h.ae,((k.bE 7 Y) (k.bE 2 Y) (k.bE 5 Y)).l.ae,trivial⟩) λ _ e0 _=>?_;have b6:=e0.sn;refine .j<|.U Y ?_;have e1:=(b6.od [2,5,7,0,1,3,4,6,8]);obtain⟨c0,e2⟩:=e1.fu 3 (Q:=λ w1=>RdC w1 p) Y Y (λ w1 hA=>hA.bE 2 Y (hA.bE 0 Y) (hA.bE 1 Y));have e3:=(e2.od [1,2,0,3,4,5,6]);have e4:=e3.pt [0,1,2,3];exact aP (R-1,p,c0,j+1) ⟨e4,OkC.cat a6 a1 (by rw[a0,W]) (λ x hx y hy e=>a3 y hy R _ O (KM _) H (by rw[e,P x hx])) T,O,O,by rw[T.at_];exact a0,N0 T a3 P (Nat.le_of_lt_succ O) H⟩
 refine .aq<|.h<|.lo 0 X 3 Y<|.sa 0 X 1 (vs:=[c.va,c.vt,c.vx,c.vr,c.vn,c.vh,c.vl]) Y (t8 ⟨(X.bE 2 Y).a.ae,(X.bE 2 Y).t.ae,(X.bE 2 Y).x.ae,(X.bE 2 Y).r.ae,(X.bE 2 Y).n.ae,(X.bE 2 Y).h.ae,(X.bE 2 Y).l.ae,trivial⟩) λ _ e5 _=>?_;have a2:=e5.sn;refine .j<|.ret ?_;show aE _ _ _ _ _ _;refine cx (vs:=[c.va,c.vt,c.vx,c.vr,c.vn,c.vh,c.vl]) Y Y fW (λ j u hu=>a2.cell (i:=1) Y hu) ?_;have e7:=a2.pt [2];exact⟨c,_,j,Y,O,a6,a0,e7⟩
end Go.Proofs.YtcgidfgdbhihbaaGreatDoor
namespace Go.Kw
open Go.RowKit
def zC{α:Type}(A cs:List α)(i:Nat)(c:α)(h:i<I A):(A++cs).set i c=A.set i c++cs:=a0i i c h
def Sat.C5{w0 w:World}{A cs L:List Chunk}{α:Type}(h:Sat w0 (A++cs) w)(e:Nat)(E:Enc α)(k:Nat)(p:tW (A++[aZ e E (List.replicate k (⟨none,0,0⟩,[]))])=some L):Sat w0 (L++cs) w:=(h.sV e E k).PW p
def Sat.FM{w0 w:World}{A cs L:List Chunk}{α:Type}{e:Nat}{E:Enc α}{ps:List (SV×List α)}{p:SV×List α}{j:Nat}(h:Sat w0 (A++cs) w)(i:Nat)(k:Ar A i=some (aZ e E ps))(d:Nat.blt i (I A)=true)(hj:ps[j]? =some p)(o:tW (A.set i (aZ e E (ps.eraseIdx j))++[cL p.1.val e E p.2])=some L):Sat w0 (L++cs) w:=by
 have l:i<I A:=by rw[a05]at d;exact d
 have g:A[i]? =some (aZ e E ps):=by
  have:=px A i _ k;rw[KV,py l,YZ]at this;rw[py l,this]
 have H:=h.zt (p:=p) (j:=j) i (by rw[XK l];exact g) hj;rw[zC _ _ _ _ l]at H;exact H.PW o
def Sat.Mp{w0 w:World}{A B cs L:List Chunk}{α:Type}{e:Nat}{E:Enc α}{ps:List (SV×List α)}{s:SV}{l:List α}{j:Nat}(h:Sat w0 (A++cs) w)(n i:Nat)(h1:tW (J n A)=some B)(h2:ww n A=[cL s.val e E l])(p:Ar B i=some (aZ e E (ps.eraseIdx j)))(g:Nat.blt i (I B)=true)(hj:j<I ps)(q:tW (B.set i (aZ e E (ps.set j (s,l))))=some L):Sat w0 (L++cs) w:=by
 have H:i<I B:=by rw[a05]at g;exact g
 have k:B[i]? =some (aZ e E (ps.eraseIdx j)):=by
  have:=px B i _ p;rw[KV,py H,YZ]at this;rw[py H,this]
 have o:A=B++[cL s.val e E l]:=by
  rw[iZ _ _ h1,<-h2,XV]
 rw[o]at h;have d:=Sat.FE (A:=B++cs) h.sR i (by rw[XK H];exact k) hj;rw[zC _ _ _ _ H]at d;rw[iZ _ _ q];exact d
section
variable {P:Program} {n:Nat} {L:aA} {w w0:World} {cs:List Chunk} {K:Value->World->Prop} {d:Option Nat} {ty:TypeId} {pos:String} {af:Array Edge} {g:Option (Nat×Bool)}
def Chg.freeze(w:World)(a:Addr)(k:Nat):Chg [a.block] w (w.freeze a k):=by
 unfold World.freeze;split
 ·exact⟨Y,Y,Y,KM _,λ _ _ _=>Y⟩
 ·refine⟨Y,Y,Y,bw,λ j d H=>?_⟩;have:¬ a.block=j:=λ e=>H (by simp[e]);simp[Z9,this]
def OpE.FC{x:Operand}{t e:TypeId}{v:Value}{l:List Nat}(i:Nat)(h2:P.underlying t=some (.slice e))(T:P.underlying e=some (.int .u8))(o:Sat w0 cs w)(H:cs[i]? =some (cL v e t1 l))(hx:aM L x=some v)(hl:0<I l)
  (A:∀ W,Sat w0 (cs.set i (Jq v t1 l)) W->K v W):OpE P n L w ⟨d,.convert t t x,ty,pos,af,g⟩ K:=by
 obtain⟨R,⟨rfl,hn⟩|⟨b,q,r,rfl,hb,Q,D,N,X,ht⟩⟩:=h_holds o H
 ·omega
 ·have E:w.shape? b=some (e,r.size):=by unfold World.shape?;rw[Q]
  have hw:=Chg.freeze w ⟨b,r.size,none⟩ 1;have y:(w.freeze ⟨b,r.size,none⟩ 1).heap[b]? =some (.cells r e (r.size,r.size+1)):=by
   unfold World.freeze;rw[Xn bl];simp[Z9,Q]
  refine .val (v:=.slice (some ⟨b,0,none⟩) (I l) q) (w':=w.freeze ⟨b,r.size,none⟩ 1) (λ ρ hρ=>?_) (A _ (o.set i H hw ?_ ?_))
  ·simp only[execOp,hρ hx,XC];simp[convert,Xy h2,Xy T,markStringish,E]
  ·refine⟨_,_,Y,D,λ j u p=>⟨b,0,Y,?_⟩⟩;rw[XU,cell_of_heap y];rw[<-ht,Yu]at p;split at p
   ·simpa using p
   ·cases p
  ·intro k A;exact .inl A
where h_holds {w0 w:World} {cs:List Chunk} {i e:Nat} {v:Value} {l:List Nat} (o:Sat w0 cs w) (H:cs[i]? =some (cL v e t1 l)):w.ownsRow 0 e 1 v (I l) (t1.all l):=o.get H
end
section
variable {P:Program} {n:Nat} {L:aA} {w w0:World} {cs:List Chunk} {d:Option Nat} {ty:TypeId} {x:Operand}
end
def Ib:List Value->Prop
 |[]=>True
 |v::r=>v.oneCell'=true/\Ib r
theorem oc:∀ {vs:List Value},Ib vs->∀ v∈vs,v.oneCell'=true
 |[],_,_,h=>by cases h
 |a::r,ha,v,h=>by
  rcases Xr.1 h with h|h
  ·rw[h];exact ha.1
  ·exact oc ha.2 v h
section
variable {P:Program} {n:Nat} {L:aA} {w:World} {d:Option Nat} {ty:TypeId} {x y:Operand} {pos:String} {af:Array Edge} {g:Option (Nat×Bool)}
def Ev.QW{T b:Nat}{vs:List Value}{m:Nat}(H:dF P T m=true)(E:aM L x=some (.P b))(r:∀ (j:Nat) u,vs[j]? =some u->w.cell? ⟨b,j,none⟩=some u)(y:I vs=m):
  Ev P n L w ⟨d,.load T x,ty,pos,af,g⟩ (.agg vs.toArray):=.of λ ρ K=>by
 subst y;have t:=Ze (P:=P) w ⟨b,0,none⟩ vs (λ q u A=>by rw[Yg,XU];exact r q u A);have l:(isAgg T).run P w= .ok true w:=by
  unfold dF at H;cases k:P.underlying T with
  |none=>simp[k]at H
  |some D=>cases D<;>simp[k]at H<;>simp[isAgg,Xy k,go_sem]
 have p:(sizeOf T).run P w= .ok (I vs) w:=by
  unfold dF at H;cases i:P.info? T with
  |none=>simp[i]at H
  |some N=>simp[i]at H;simp[sizeOf,typeInfo,i,H.2,go_sem]
 have o:(Instr.loadAt T (ρ x)).run P w= .ok (.agg vs.toArray) w:=by
  simp only[Instr.loadAt,loadVar,K E,Instr.sureAddr,XC,XG,Xw,l,p,t,Z7]
 simp only[execOp,XC,o,Xw,XG]
end
end Go.Kw
namespace Go.Proofs.YtcgidfgdbhihbaaGreatDoor
open Go.RowKit Go.Kw
def N1(v:Value)(l:List ByteArray)(f:ByteArray)(w:World)(o:RdL w v aw l)(y:I l<=120):
  CallsV prog 125 [v,(.string f)] w λ r W=>r= .bool (l.any λ x=>decide (x=f))/\Sat w [] W:=by
 have d:=Sat.start w;refine aa func125 Y Y<|.W Y<|.h<|.ln 1 (o.E d.E) Y<|.V Y<|.lq [0,1,7,8] Y (α:=Nat) (λ k=>[(9,(.I k))]) (λ k W=>Sat w [] W/\(∀ i,i<k->Ds l (λ x=>decide (x=f)) i=false)/\(k<=I l)) (λ k=>I l-k) 0 ⟨d,λ i t=>absurd t (Zw i),KD _⟩ ?_;rintro k A ⟨g,H,u⟩;refine .W Y<|.ab Y (λ q=>?_) λ q=>?_
 ·refine .q<|.s ?_;obtain⟨x,p⟩:=ut l k q;refine .r<|.ix 0 (o.E g.E) Y<|.le 0 (o.E g.E) p Y<|.Z Y<|.h<|.a 2 Y (.cN Y Y)<|.j<|.ab Y (λ j=>?_) λ j=>?_
  ·exact .Z Y<|.ax Y Y ⟨If Value.bool (ET p (LW j)).symm,g.pk []⟩
  exact .k<|.U Y<|aP (k+1) ⟨g,Bq H p (IN j),O⟩
 exact .aq<|.Z Y<|.ax Y Y ⟨If Value.bool (KU λ i t=>H i O).symm,g.pk []⟩
def Rb(s f:ByteArray)(w:World)(t:uf s):
  CallsV prog 72 [(.string s),(.string f)] w λ r W=>r= .bool (Bn s f)/\Sat w [] W:=by
 have g:=Sat.start w;refine aa func72 Y Y<|.Z Y<|.h<|.c 1 (zG s _ t) Y ?_;rintro _ _ ⟨j,p,rfl,H,d,P⟩;have i:=g.ay P;exact .Z Y<|.h<|.cp 5 i (N1 _ p f _ (i.aj 0 Y) O) Y λ _ k=>.Z Y<|.ax Y Y ⟨If Value.bool (Sz H),k.pk []⟩
def zD(c:Co)(m i a:Nat)(w:World)(H:RdC w c)(A:OkC m c)(j:c.at_=cR)(u:i<I c.tk)(p:a<3):
  CallsV prog 70 [(.agg #[c.va,c.vt,c.vx,c.vr,c.vn,c.vh,c.vl]),(.I i),(.I a)] w λ r W=>r= .string (Dr c i a)/\Sat w [] W:=by
 have k:=Sat.start w;obtain⟨x,y,g,o,l,-⟩:=KX A j u p;have q:=b8 o;refine aa func70 Y Y<|.h<|.bx 0 k Y λ D _ d _ _=>.W Y<|.h<|.z 3 Y<|.Gf 9 Y (IN O)<|.ld 2 d 0 Y<|.ln 0 (H.t.E d.E) Y<|.z 3 Y<|.Gf 16 Y (IN O)<|.z 4 Y<|.Gf 20 Y (IN O)<|.ld 2 d 0 Y<|.ix 1 (H.t.E d.E) Y<|.le 0 (H.t.E d.E) g Y<|.ln 0 ((H.tr _ (a8 g)).E d.E) Y<|.Z Y<|.ak Y (IN O)<|.k<|.h<|.ld 1 d 0 Y<|.ix 1 (H.t.E d.E) Y<|.le 0 (H.t.E d.E) g Y<|.ix 1 ((H.tr _ (a8 g)).E d.E) Y<|.le 0 ((H.tr _ (a8 g)).E d.E) o Y<|.Z Y<|.ax Y Y ?_;rw[l];exact⟨Y,d.pk []⟩
def Rc(v:Value)(l:List Pr)(q:Pr)(w:World)(o:RdL w v aV l)(Q:I l<=1000000):
  CallsV prog 181 [v,((aV).ag q)] w λ r W=>∃ z:Int,r= .I z/\decide (0<=z)=l.any (λ p=>decide (p=q))/\Sat w [] W:=by
 have j:=Sat.start w;refine aa func181 Y Y<|.h<|.bx 0 j Y λ P _ u _ _=>.W Y<|.h<|.ln 1 (o.E u.E) Y<|.V Y<|.lq [0,1,3,7] Y (α:=Nat) (λ k=>[(8,(.I k))]) (λ k W=>Sat w u.L W/\(∀ i,i<k->Ds l (λ p=>decide (p=q)) i=false)/\(k<=I l)) (λ k=>I l-k) 0 ⟨u,λ i A=>absurd A (Zw i),KD _⟩ ?_;rintro k N ⟨D,H,K⟩;refine .W Y<|.ab Y (λ y=>?_) λ y=>?_
 ·refine .q<|.s ?_;obtain⟨x,t⟩:=ut l k y;refine .U Y<|.s<|.dk [0] D Y (pl [0,1,2,3,4,5] .fin) λ E d=>.e Y (λ _ s=>.dV Vk Y s (i:=0) Y Y) d<|.ix 2 d (o.E ·.E) Y<|.lg 0 d (o.E ·.E) t Y<|.e Y (λ _ s=>.WN (a:=q) (b:=x) JB DU Y Y) d<|.fin<|.ab Y (λ g=>?_) λ g=>?_
  ·exact .Z Y<|.ax Y Y ⟨_,Y,(LW O).trans (ET t (LW (Eq.symm g))).symm,E.pk []⟩
  exact .k<|.U Y<|aP (k+1) ⟨E,Bq H t (IN λ e=>g e.symm),O⟩
 exact .aq<|.Z Y<|.ax Y Y ⟨_,Y,(IN O).trans (KU λ i A=>H i O).symm,D.pk []⟩
def Re(v:Value)(l:List Pr)(q:Pr)(w:World)(j:RdL w v aV l)(i:I l<=1000000):
  CallsV prog 130 [v,((aV).ag q)] w λ r W=>r= .bool (l.any λ p=>decide (p=q))/\Sat w [] W:=by
 have d:=Sat.start w;refine aa func130 Y Y<|.h<|.bx 0 d Y λ t _ g _ _=>.Z Y<|.h<|.lo 1 g 0 Y<|.c 0 (Rc _ l q _ (j.E g.E) i) Y ?_;rintro _ _ ⟨k,rfl,H,P⟩;have o:=g.ay P;exact .e Y (.geq Y Y)<|.Z Y<|.ax Y Y ⟨If Value.bool H,o.pk []⟩
def FZ(x:Iv)(b b2 i:Nat)(nm ar vl:ByteArray)(w:World)(h1:w.cell? ⟨b,1,none⟩=some (.string nm))(h2:w.cell? ⟨b,2,none⟩=some (.string ar))(u:w.cell? ⟨b,3,none⟩=some (.string vl))(H:w.cell? ⟨b2,0,none⟩=some (.I (i:Int)))(A:RdL w x.sv.val aV x.ps)(y:I x.ps<=1000000):
  CallsV prog 129 [((aL).ag x),(.P b),(.P b2)] w λ r W=>r= .bool (V3 nm ar vl i x)/\Sat w [] W:=by
 have o:=Sat.start w;refine aa func129 Y Y<|.h<|.bx 0 o Y λ P _ d _ _=>.W Y<|.md [0,1,2,3] Y (λ K t W=>Weak ([(4,(.bool (decide ((((x.nm=nm)/\((x.b:Int)<=((i:Nat):Int)))/\(((i:Nat):Int)<(x.e:Int)))/\((ar=(ws #[]))\/((x.ps.any λ p=>decide (p=(ar,vl)))=true))))))]++K) t/\Sat w d.L W) ?_ ?_
 ·refine .r<|.ld 1 d 0 Y<|.a 1 Y (.load qo Y (d.E _ _ h1))<|.e Y (.cN Y Y)<|.z 1 Y<|.B 10 Y (λ g=>?_) λ g=>?_
  ·refine .ld 1 d 0 Y<|.a 0 Y (.load ca Y (d.E _ _ H))<|.a 0 Y (.leq Y Y)<|.z 2 Y<|.B 16 Y (λ j=>?_) λ j=>?_
   ·refine .a 0 Y (.load ca Y (d.E _ _ H))<|.ld 1 d 0 Y<|.a 0 Y (.lss Y Y)<|.z 2 Y<|.B 22 Y (λ k=>?_) λ k=>?_
    ·refine .a 1 Y (.load qo Y (d.E _ _ h2))<|.a 0 Y (.cN Y Y)<|.z 1 Y<|.B 26 Y (λ l=>?_) λ l=>?_
     ·exact .Z Y ⟨⟨If some (If Value.bool (by simp[g,j,k,l])),Y,Y,Y,Y,trivial⟩,d⟩
     exact .ld 1 d 0 Y<|.a 1 Y (.load qo Y (d.E _ _ h2))<|.a 1 Y (.load qo Y (d.E _ _ u))<|.a 0 Y (.build LU Y ⟨Y,Y,trivial⟩ Y)<|.cp 0 d (Re _ x.ps (ar,vl) _ (A.E d.E) y) Y λ _ D=>.Z Y ⟨⟨If some (If Value.bool (by simp[g,j,k,l])),Y,Y,Y,Y,trivial⟩,D⟩
    exact .Z Y ⟨⟨If some (If Value.bool (by simp[g,j,k])),Y,Y,Y,Y,trivial⟩,d⟩
   exact .Z Y ⟨⟨If some (If Value.bool (by simp[g,j])),Y,Y,Y,Y,trivial⟩,d⟩
  exact .Z Y ⟨⟨If some (If Value.bool a0G),Y,Y,Y,Y,trivial⟩,d⟩
 rintro t N ⟨q,E⟩;exact .weaken _ q<|.ax Y Y ⟨If Value.bool (by unfold V3;rw[a0t];simp[and_assoc,show(ws #[])=wt from Y]),E.pk []⟩
def Rf(v:Value)(l:List Iv)(f:FuncId)(cap:Array Value)(p:Nat->Bool)(w:World)(u:RdL w v aL l)(Q:I l<=1000000000)(t:Enters prog f)(K:∀ (i:Nat) x,l[i]? =some x->∀ W,Sat w [] W->CallsV prog f ([aL.ag x]++cap.toList) W λ r A=>r= .bool (p i)/\Sat W [] A):
  CallsV prog 180 [v,(.func (.func f) #[] cap)] w λ r W=>∃ z:Int,r= .I z/\((∀ i,i<I l->p i=false)/\z= -1\/∃ i:Nat,z=(i:Int)/\i<I l/\p i=true/\∀ j,j<i->p j=false)/\Sat w [] W:=by
 refine cd func180 Y λ d=>.W Y<|.h<|.ln 1 (u.E d.E) Y<|.V Y<|.lq [0,1,7] Y (α:=Nat) (λ k=>[(8,(.I k))]) (λ k W=>Sat w [] W/\(k<=I l)/\(∀ i,i<k->p i=false)) (λ k=>I l-k) 0 ⟨d,KD _,λ i q=>absurd q (Zw i)⟩ ?_;rintro k R ⟨g,N,H⟩;refine .W Y<|.ab Y (λ D=>?_) λ D=>?_
 ·refine .q<|.W Y ?_;obtain⟨x,y⟩:=ut l k D;refine .r<|.ix 3 (u.E g.E) Y<|.lg 0 (u.E g.E) y Y<|.f Y (.kD t Y Y ((K _ _ y _ g).mono ?_));rintro _ _ ⟨rfl,P⟩;have E:=g.ay P;refine .j<|.cond Y (λ o=>?_) (λ o=>?_)
  ·exact .Z Y<|.ax Y Y ⟨_,Y,.inr ⟨k,Y,b8 y,o,H⟩,E⟩
  refine .k<|.U Y ?_;exact aP (k+1) ⟨E,O,λ i q=>by
   rcases XI i k with h|h
   ·exact H i h
   ·rw[show i=k by omega];exact o⟩
 exact .aq<|.Z Y<|.ax Y Y ⟨_,Y,.inl ⟨λ i q=>H i O,Y⟩,g⟩
def Rg(v:Value)(l:List Iv)(f:FuncId)(cap:Array Value)(p:Nat->Bool)(w:World)(o:RdL w v aL l)(k:I l<=1000000000)(t:Enters prog f)(j:∀ (i:Nat) x,l[i]? =some x->∀ W,Sat w [] W->CallsV prog f ([aL.ag x]++cap.toList) W λ r g=>r= .bool (p i)/\Sat W [] g):
  CallsV prog 128 [v,(.func (.func f) #[] cap)] w λ r W=>r= .bool (EP (I l) p)/\Sat w [] W:=by
 refine cd func128 Y λ H=>.Z Y<|.h<|.c 2 (Rf _ l f cap p _ (o.E H.E) k t (λ i x u w3 q=>j i x u w3 (H.ay q))) Y ?_;rintro _ _ ⟨y,rfl,d,P⟩;have A:=H.ay P;exact .e Y (.geq Y Y)<|.Z Y<|.ax Y Y ⟨If Value.bool (ER d),A⟩
def Ic(c:Co)(m i:Nat)(x:Cn)(w:World)(p:RdC w c)(o:OkC m c)(E:m<=4):
  CallsV prog 75 [(.agg #[c.va,c.vt,c.vx,c.vr,c.vn,c.vh,c.vl]),((aX).ag x),(.I i)] w λ r W=>r= .bool (c.rg.any (V3 x.nm x.ar x.vl i))/\Sat w [] W:=by
 have t:=o.nrg;have g:=Sat.start w;exact aa func75 Y Y<|.h<|.bx 0 g Y λ D _ u _ _=>.bx 0 u Y λ k _ y _ _=>.bx 0 y Y λ l _ d _ _=>have d:=d.nn;.Z Y<|.h<|.ld 1 d 0 Y<|.e Y (.nw Y Y)<|.cp 0 d (Rg _ c.rg 129 #[(.P k),(.P l)] (Ds c.rg (V3 x.nm x.ar x.vl i)) _ (p.r.E d.E) O Ts (λ j r H w3 q=>by rw[uC H];exact FZ r k l i x.nm x.ar x.vl w3 (q.E _ _ (d.cell (i:=1) (j:=1) Y Y)) (q.E _ _ (d.cell (i:=1) (j:=2) Y Y)) (q.E _ _ (d.cell (i:=1) (j:=3) Y Y)) (q.E _ _ (d.cell (i:=2) (j:=0) Y Y)) ((p.rr r (a8 H)).E (d.ay q).E) (by have:=(o.rg.el r (a8 H)).2.2.1;omega))) Y λ _ A=>.Z Y<|.ax Y Y ⟨If Value.bool (KT _ _),A.pk []⟩
def sX(c:Co)(i n:Nat)(k:∀ (y:Cd) (x:Cn) (w:World),y.sz<n->GdC false y->RdC w c->RdCd w y x->CallsV prog 28 [c.val,aX.ag x,.I (i:Int),.N,.N] w λ r W=>r= .bool (lM c i y)/\Sat w [] W)(y:Cd)(x:Cn)(b1 b2 b3 g:Nat)(w:World)(h1:∀ (j:Nat) u,[c.va,c.vt,c.vx,c.vr,c.vn,c.vh,c.vl][j]? =some u->w.cell? ⟨b1,j,none⟩=some u)(h2:w.cell? ⟨b2,0,none⟩=some (.I (i:Int)))(o:w.cell? ⟨b3,0,none⟩=some .N)(p:w.cell? ⟨g,0,none⟩=some .N)(t:RdC w c)(A:y.sz<n)(q:GdC false y)(h:RdCd w y x):
  CallsV prog 68 [((aX).ag x),(.P b1),(.P b2),(.P b3),(.P g)] w λ r W=>r= .bool (lM c i y)/\Sat w [] W:=by
 have H:=Sat.start w;exact aa func68 Y Y<|.h<|.bx 0 H Y λ l _ d _ _=>.Z Y<|.h<|.e Y (.QW fW Y (λ j u h=>d.E _ _ (h1 j u h)) Y)<|.lo 0 d 0 Y<|.e Y (.load ca Y (d.E _ _ h2))<|.e Y (.load fB Y (d.E _ _ o))<|.e Y (.load gy Y (d.E _ _ p))<|.cp 0 d (k y x _ A q (t.E d.E) (h.E d.E)) Y λ _ D=>.Z Y<|.ax Y Y ⟨Y,D.pk []⟩
def G0(c:Co)(i n:Nat)(k:∀ (y:Cd) (x:Cn) (w:World),y.sz<n->GdC false y->RdC w c->RdCd w y x->CallsV prog 28 [c.val,aX.ag x,.I (i:Int),.N,.N] w λ r W=>r= .bool (lM c i y)/\Sat w [] W)(y:Cd)(x:Cn)(b b1 b2 b3 g:Nat)(w:World)(q:w.cell? ⟨b,0,none⟩=some (.func (.func 68) #[] #[.P b1,.P b2,.P b3,.P g]))(h1:∀ (j:Nat) u,[c.va,c.vt,c.vx,c.vr,c.vn,c.vh,c.vl][j]? =some u->w.cell? ⟨b1,j,none⟩=some u)(h2:w.cell? ⟨b2,0,none⟩=some (.I (i:Int)))(o:w.cell? ⟨b3,0,none⟩=some .N)(p:w.cell? ⟨g,0,none⟩=some .N)(A:RdC w c)(E:y.sz<n)(t:GdC false y)(h:RdCd w y x):
  CallsV prog 77 [((aX).ag x),(.P b)] w λ r W=>r= .bool (!lM c i y)/\Sat w [] W:=by
 have H:=Sat.start w;refine aa func77 Y Y<|.h<|.bx 0 H Y λ l _ d _ _=>.Z Y<|.h<|.e Y (.load Td Y (d.E _ _ q))<|.lo 0 d 0 Y<|.f Y (.kD Mc Y Y ((sX c i n k y x b1 b2 b3 g _ (λ j u D=>(d.E _ _ (h1 j u D))) (d.E _ _ h2) (d.E _ _ o) (d.E _ _ p) (A.E d.E) E t (h.E d.E)).mono ?_));rintro _ _ ⟨rfl,P⟩;have K:=d.ay P;exact .e Y (.cK Y)<|.Z Y<|.ax Y Y ⟨Y,K.pk []⟩
def Cf(c:Co)(i n:Nat)(IH:∀ (y:Cd) (x:Cn) (w:World),y.sz<n->GdC false y->RdC w c->RdCd w y x->CallsV prog 28 [c.val,aX.ag x,.I (i:Int),.N,.N] w λ r w'=>r= .bool (lM c i y)/\Sat w [] w')(y:Cd)(x:Cn)(w:World)(m:Nat)(W:OkC m c)(hm:m<=4)(g:c.at_=cR)(X:i<I c.tk)(hn:y.sz=n)(o:GdC false y)(t:RdC w c)(h:RdCd w y x):
  CallsV prog 28 [(.agg #[c.va,c.vt,c.vx,c.vr,c.vn,c.vh,c.vl]),((aX).ag x),(.I i),.N,.N] w λ r w'=>r= .bool (lM c i y)/\Sat w [] w':=by
 obtain⟨ks,p,a0,K⟩:=h.kids;obtain⟨he,d1,d2,d3,d5⟩:=HdX.of o h c i;obtain⟨c2,c3,c5,e3⟩:=CkX.of o h;obtain⟨n2,n3,n5,n6⟩:=NmX.of o h;have e8:=o.Xl;have e7:=y.oI;have e1:=Sat.start w;refine aa func28 Y Y<|.h<|.bx 0 e1 Y λ b1 _ s1 _ _=>.bx 0 s1 Y λ b2 _ s2 _ _=>.bx 0 s2 Y λ b3 _ s3 _ _=>have s3:=s3.nn;.bx 0 s3 Y λ b4 _ s4 _ _=>.bx 0 s4 Y λ b5 _ s5 _ _=>.Z Y<|.h<|.e Y (.HR Y Y Y Y)<|.al 0 s5 Y λ b6 _ s6 _ _=>have s6:=s6.nn;.st 0 s6 5 Y λ _ d _=>.j<|.s<|.h<|.ld 1 d 1 Y<|.j<|.l<|.h<|.e Y (.eql Y Y)<|.Z Y<|.ab Y (λ c1=>?_) λ c1=>?_
 ·exact .Z Y<|.ax Y Y ⟨If Value.bool ((d1 O).symm),d.pk []⟩
 refine .h<|.e Y (.eql Y Y)<|.Z Y<|.ab Y (λ c0=>?_) λ c0=>?_
 ·refine .s<|.dk [0,1,2,3,4,5] d Y (pl [0,1,2,3,4,5,6,7,10,11,1008,1009,1012,13] .fin) λ s9 A=>.ld 1 A 1 Y<|.e Y (λ _ s=>.dV fW Y s (i:=0) Y Y) A<|.ld 0 A 2 Y<|.ld 1 A 0 Y<|.ld 1 A 1 Y<|.ld 1 A 1 Y<|.c 0 A (DV _ c.at_ x.nm _ (t.a.E s9.E) g (n2 O)) Y ?_;rintro _ _ ⟨rfl,p1⟩;have Q:=s9.ay p1;have S2:=Q.pk [0,1,2,3,4,5];refine⟨S2,?_⟩;refine .c 0 S2 (zD c m i (C7 x.nm) _ (t.E Q.E) W g X a3p) Y ?_;rintro _ _ ⟨rfl,p2⟩;have a3:=(Q.ay p2).nn;have S3:=a3.pk [0,1,2,3,4,5];refine⟨S3,?_⟩;refine .c 0 S3 (NJ x.vl (Dr c i (C7 x.nm)) x.fo _ (c2 O) (KY W g X (d2 O).2).1 (KY W g X (d2 O).2).2) Y ?_;rintro _ _ ⟨rfl,p3⟩;have a4:=a3.ay p3;have S4:=a4.pk [0,1,2,3,4,5];refine⟨S4,?_⟩;exact .Z S4 Y<|.ax Y Y ⟨If Value.bool ((d2 O).1.symm),a4.pk []⟩
 refine .h<|.e Y (.eql Y Y)<|.Z Y<|.ab Y (λ c8=>?_) λ c8=>?_
 ·refine .s<|have a2:=Bp (e3 O);.dk [0,1,2,3,4,5] d Y (pl [0,1,2,3,4,5,8,9,1006,1007,1010,11] .fin) λ a5 T=>.e Y (λ _ s=>.dV fW Y s (i:=0) Y Y) T<|.ld 0 T 2 Y<|.ld 1 T 0 Y<|.ld 1 T 1 Y<|.ld 1 T 1 Y<|.c 0 T (y8 _ c.at_ x.nm _ (t.a.E a5.E) g (n3 O)) Y ?_;rintro _ _ ⟨rfl,p4⟩;have R:=a5.ay p4;have S6:=R.pk [0,1,2,3,4,5];refine⟨S6,?_⟩;refine .c 0 S6 (zD c m i (C7 x.nm) _ (t.E R.E) W g X a3p) Y ?_;rintro _ _ ⟨rfl,p5⟩;have a6:=(R.ay p5).nn;have S7:=a6.pk [0,1,2,3,4,5];refine⟨S7,?_⟩;refine .c 0 S7 (Rb (Dr c i (C7 x.nm)) x.vl _ (SA W g X a2)) Y ?_;rintro _ _ ⟨rfl,p6⟩;have a9:=a6.ay p6;have S8:=a9.pk [0,1,2,3,4,5];refine⟨S8,?_⟩;exact .Z S8 Y<|.ax Y Y ⟨If Value.bool (by rw[d3 O,a2]),a9.pk []⟩
 refine .h<|.e Y (.eql Y Y)<|.Z Y<|.ab Y (λ c4=>?_) λ c4=>?_
 ·refine .s ?_;omega
 refine .h<|.e Y (.eql Y Y)<|.Z Y<|.ab Y (λ c9=>?_) λ c9=>?_
 ·exact .h<|.lo 0 d 0 Y<|.lo 0 d 1 Y<|.ld 0 d 2 Y<|.cp 0 d (Ic c m i x _ (t.E d.E) W hm) Y λ _ e4=>.Z Y<|.ax Y Y ⟨If Value.bool ((d5 O).symm),e4.pk []⟩
 refine .h<|.e Y (.eql Y Y)<|.Z Y<|.ab Y (λ c6=>?_) λ c6=>?_
 ·refine .s ?_;obtain⟨q0,a1,hh⟩:=Sx c i (show y.op=6 by omega) o;have g0:=b8 a1;obtain⟨z,P⟩:=ut ks 0 O;obtain⟨q,H,e0,g1⟩:=K 0 z P;obtain rfl:q=q0:=Y8 (H.symm.trans a1);refine .dk [0,1,2,3,4,5] d Y (pl [0,1,2,3,4,1005,6,7] .fin) λ l S9=>.ld 0 S9 5 Y<|.ld 1 S9 1 Y<|.e Y (λ _ s=>.ik (j:=0) (E:=aX) HN Y Y (p.E s.E) (by have:=b8 P;omega)) S9<|.lg 0 S9 (p.E ·.E) P Y<|.f Y (.kD Mc Y Y ((sX c i n IH q z b1 b3 b4 b5 _ (λ j u hu=>(l.cell (i:=0) Y hu)) (l.cell (i:=2) (j:=0) Y Y) (l.cell (i:=3) (j:=0) Y Y) (l.cell (i:=4) (j:=0) Y Y) (t.E l.E) O (o.MM H) (e0.E l.E)).mono ?_));rintro _ _ ⟨rfl,p8⟩;have b7:=l.ay p8;have D:=b7.pk [0,1,2,3,4,5];refine⟨D,?_⟩;exact .e Y (λ _ s=>.cK Y) D<|.Z D Y<|.ax Y Y ⟨If Value.bool hh.symm,b7.pk []⟩
 refine .h<|.e Y (.eql Y Y)<|.Z Y<|.ab Y (λ c7=>?_) λ c7=>?_
 ·exact .h<|.ld 1 d 1 Y<|.e Y (.kE Y)<|.cp 0 d (CF _ ks 77 #[(.P b6)] (y.kp λ k=> !lM c i k) _ (p.E d.E) O VH (λ j z P w3 H=>by obtain⟨k,hk,N,e2⟩:=K j z P;rw[Cd.My hk];exact G0 c i n IH k z b6 b1 b3 b4 b5 w3 (H.E _ _ (d.cell (i:=5) (j:=0) Y Y)) (λ j u hu=>(H.E _ _ (d.cell (i:=0) Y hu))) (H.E _ _ (d.cell (i:=2) (j:=0) Y Y)) (H.E _ _ (d.cell (i:=3) (j:=0) Y Y)) (H.E _ _ (d.cell (i:=4) (j:=0) Y Y)) (t.E (d.ay H).E) O (o.MM hk) (N.E (d.ay H).E))) Y λ _ e5=>.e Y (.cK Y)<|.Z Y<|.ax Y Y ⟨If Value.bool (by rw[P1 c i (show y.op=7 by omega) o,a0]),e5.pk []⟩
 exact .k<|.h<|.ld 1 d 1 Y<|.ld 0 d 5 Y<|.cp 0 d (CF _ ks 68 #[(.P b1),(.P b3),(.P b4),(.P b5)] (y.kp (lM c i)) _ (p.E d.E) O Mc (λ j z P w3 H=>by obtain⟨k,hk,N,e2⟩:=K j z P;rw[Cd.My hk];exact sX c i n IH k z b1 b3 b4 b5 w3 (λ j u hu=>(H.E _ _ (d.cell (i:=0) Y hu))) (H.E _ _ (d.cell (i:=2) (j:=0) Y Y)) (H.E _ _ (d.cell (i:=3) (j:=0) Y Y)) (H.E _ _ (d.cell (i:=4) (j:=0) Y Y)) (t.E (d.ay H).E) O (o.MM hk) (N.E (d.ay H).E))) Y λ _ e6=>.Z Y<|.ax Y Y ⟨If Value.bool (by rw[Sy c i (show y.op=8 by omega) o,a0]),e6.pk []⟩
def N2{c:Co}{m i:Nat}(p:OkC m c)(l:m<=4)(j:c.at_=cR)(k:i<I c.tk){y:Cd}{x:Cn}(w:World)(g:GdC false y)(d:RdC w c)(h:RdCd w y x):CallsV prog 28 [c.val,aX.ag x,.I (i:Int),.N,.N] w λ r W=>r= .bool (lM c i y)/\Sat w [] W:=by
 suffices H:∀ n (y:Cd) (x:Cn) (w:World),y.sz=n->GdC false y->RdC w c->RdCd w y x->CallsV prog 28 [c.val,aX.ag x,.I (i:Int),.N,.N] w λ r W=>r= .bool (lM c i y)/\Sat w [] W from H _ y x w Y g d h
 intro n;induction n using Nat.strongRecOn with
 |_ n t=>exact λ y x w o g d h=>Cf c i n (λ y x w q g d h=>t y.sz q y x w Y g d h) y x w m p l j k o g d h
def zE(c:Co)(m:Nat)(y:Cd)(x:Cn)(w:World)(ho:OkC m c)(hm:m<=4)(H:c.at_=cR)(q:GdC true y)(hz:y.sz<=60)(hd:y.dp<=15)(A:RdC w c)(h:RdCd w y x):
  CallsV prog 10 [(.agg #[c.va,c.vt,c.vx,c.vr,c.vn,c.vh,c.vl]),((aX).ag x)] w λ r W=>∃ v,r= .tuple #[v,.I ((0:Nat):Int)]/\Sat w [cL v 3 un (jg c y.ls (I c.tk))] W:=by
 have a3:=y.FI;have a2:=y.FK;have a0:=ho.ntk;have D:=Sat.start w;refine aa func10 Y Y ?_;refine .h<|.bx 0 D Y λ b1 _ s1 _ _=>.bx 0 s1 Y λ b2 _ Q _ _=>.W Y<|.h<|.lo 0 Q 1 Y<|.cq 0 Q (NL y x _ hz O (h.E Q.E)) Y λ _ R=>.j<|.ak Y Y<|.k<|.h<|.lo 0 R 1 Y<|.c 0 (NM (c:=y) _ q (h.E R.E)) Y λ r2 _ p=>?_;obtain⟨E,a4,rfl,p2⟩:=p;have s4:=R.ay p2;refine .sa 0 s4 1 Y ((aX).one _) λ _ j _=>.j<|.s<|.h<|.lo 0 j 1 Y<|.ld 1 j 0 Y<|.cq 0 j (I6 y.ls E _ q.ls (j.bE 2 Y) _ _ (A.a.E j.E) H O O) Y λ _ T=>.Z Y<|.Z Y<|.ak Y Y<|.k<|.W Y<|.h<|.ld 1 T 0 Y<|.ln 0 (A.t.E T.E) Y<|.V Y ?_;have s7:=T.aC 3 un;have s8:=s7.bp 3 Y (show[]=jg c y.ls 0 from Y);refine .lq [0,1,2,3,4,5,6,22] Y (α:=Nat×Value) (λ(k,o)=>[(7,o),(23,(.I k))]) (λ(k,o) W=>Sat w (s8.U [(3,cL o 3 un (jg c y.ls k))]) W/\(k<=I c.tk)) (λ(k,o)=>I c.tk-k) (0,.N) ⟨s8,KD _⟩ ?_;rintro⟨k,o⟩ w7 ⟨g,a1⟩;refine .W Y<|.ab Y (λ X=>?_) λ X=>?_
 ·refine .q<|.Z Y<|.h<|.lo 0 g 0 Y<|.lo 0 g 1 Y<|.cp 1 g (N2 ho hm H X _ q.ls (A.E g.E) (g.bE 2 Y)) Y λ _ i=>.j<|.cond Y (λ l=>?_) (λ l=>?_)
  ·refine .r<|.b 2 Y (.bS un k bc Y i Y λ v1 _ d _=>?_);have d:=d.nn;refine .ap 0 d 3 (d.aj 4 Y) Y (h1:=a4Q) (h2:=a4Q) λ v2 _ K _=>?_;refine .Z Y<|.U Y ?_;have N:=(K.pk [0,1,2,3]).bp 3 Y (show jg c y.ls k++[k]=jg c y.ls (k+1)from KZ l);exact aP (k+1,v2) ⟨N,O⟩
  refine .k<|.U Y ?_;have P:=i.bp 3 Y (show jg c y.ls k=jg c y.ls (k+1)from P2 l);exact aP (k+1,o) ⟨P,O⟩
 refine .aq<|.Z Y<|.bK Y Y Y ?_;have u:k=I c.tk:=O
 subst u;exact⟨_,Y,g.pk [3]⟩
def Rh(v u:Value)(l:List Nat)(w:World)(g:RdL w v un l)(i:RdL w u un l)(t:I l<=1000000):
  CallsV prog 11 [v,u] w λ r W=>r= .bool true/\Sat w [] W:=by
 have H:=Sat.start w;refine aa func11 Y Y<|.W Y<|.h<|.ln 1 (g.E H.E) Y<|.ln 1 (i.E H.E) Y<|.Z Y<|.ak Y (IN (λ h=>h Y))<|.p<|.h<|.ln 1 (g.E H.E) Y<|.V Y<|.lq [0,1,12] Y (α:=Nat) (λ k=>[(13,(.I k))]) (λ k W=>Sat w [] W) (λ k=>I l-k) 0 H ?_;rintro k y p;refine .W Y<|.ab Y (λ j=>?_) λ j=>?_
 ·refine .q<|.s ?_;obtain⟨x,o⟩:=ut l k j;exact .U Y<|.s<|.dk [] p Y (pl [0,1,2,3,4,5,6,7,8] .fin) λ q d=>.ix 2 d (g.E ·.E) Y<|.le 0 d (g.E ·.E) o Y<|.ix 2 d (i.E ·.E) Y<|.le 0 d (i.E ·.E) o Y<|.Z d Y<|.ak Y (IN (λ h=>h Y))<|.k<|.U Y<|aP (k+1) q
 exact .aq<|.Z Y<|.ax Y Y ⟨Y,p.pk []⟩
def N3(c:Co)(m p:Nat)(y:Cd)(x:Cn)(w:World)(D:OkC m c)(A:m<=4)(H:c.at_=cR)(t:GdC true y)(K:y.sz<=60)(hd:y.dp<=15)(E:RdC w c)(h:RdCd w y x)(g:∀ (j:Nat) u,[c.va,c.vt,c.vx,c.vr,c.vn,c.vh,c.vl][j]? =some u->w.cell? ⟨p,j,none⟩=some u):
  CallsV prog 9 [(.P p),((aX).ag x)] w λ r W=>∃ v,r= .tuple #[v,.I ((0:Nat):Int)]/\Sat w [cL v 3 un (jg c y.ls (I c.tk))] W:=by
 have k:=Sat.start w;refine aa func9 Y Y<|.h<|.bx 0 k Y λ R _ N _ _=>.W Y<|.dk [0] N Y (pl [0,1,2,3,4,1005,6,7,8,9] .fin) λ l d=>.z 3 d Y<|.e Y (λ _ s=>.QW fW Y (λ j u h=>s.E _ _ (g j u h)) Y) d<|.e Y (λ _ s=>.dV gW Y s (i:=0) Y Y) d<|.c 0 d (zE c m y x _ D A H t K hd (E.E l.E) (h.E l.E)) Y ?_;rintro _ _ ⟨Q,rfl,P⟩;have q:=l.ay P;have o:=q.pk [0];refine⟨o,?_⟩;exact .Z o Y<|.bK Y Y Y ⟨_,Y,q.pk [1]⟩
end Go.Proofs.YtcgidfgdbhihbaaGreatDoor
namespace Go.Kw
open Go.RowKit
section
variable {P:Program} {n:Nat} {L:aA} {w w0:World} {cs:List Chunk} {K:Value->World->Prop} {d:Option Nat} {x:Operand} {ty:TypeId} {g:Option (Nat×Bool)} {pos:String} {af:Array Edge}
def Ev.Ml{T i b off m:Nat}{U:TypeId}{j vs:List Value}(H:dF P T m=true)(Q:aM L x=some (.pointer (some ⟨b,off,none⟩)))(K:Sat w0 cs w)(y:cs[i]? =some (ai b U j))(N:J m (ww off j)=vs)(E:I vs=m):
  Ev P n L w ⟨d,.load T x,ty,pos,af,g⟩ (.agg vs.toArray):=.of λ ρ R=>by
 subst E;have A:=Ze (P:=P) w ⟨b,off,none⟩ vs (λ q u o=>by
  rw[Yg];rw[<-N,Yu]at o;split at o
  ·rw[YI]at o;exact K.cell y o
  ·cases o)
 have p:(isAgg T).run P w= .ok true w:=by
  unfold dF at H;cases l:P.underlying T with
  |none=>simp[l]at H
  |some D=>cases D<;>simp[l]at H<;>simp[isAgg,Xy l,go_sem]
 have t:(sizeOf T).run P w= .ok (I vs) w:=by
  unfold dF at H;cases k:P.info? T with
  |none=>simp[k]at H
  |some W=>simp[k]at H;simp[sizeOf,typeInfo,k,H.2,go_sem]
 have r:(Instr.loadAt T (ρ x)).run P w= .ok (.agg vs.toArray) w:=by
  simp only[Instr.loadAt,loadVar,R Q,Instr.sureAddr,XC,XG,Xw,p,t,A,Z7]
 simp only[execOp,XC,r,Xw,XG]
def Uo{α:Type}(E:Enc α)(m:Nat)(H:E.s=m)(a b:α)(d:Array Value):Instr.fill (λ i=>some (i*m,m)) ((Array.range (2*m)).map (d[· %d.size]!)) [(0,E.ag a),(1,E.ag b)]=some (E.all [a,b]).toArray:=by
 have g:(Array.range (2*m)).map (d[· %d.size]!)=([]++(List.range (2*m)).map (d[· %d.size]!)).toArray:=by
  apply a18;simp
 have l:∀ x:α,I (E.enc x)=m:=λ x=>by rw[E.len,H]
 rw[g,jX E m H a 0 [] _ _ bw cf,jX E m H b 1 _ _ _ a3I cf,Instr.fill];have j:List.drop m (List.drop m ((List.range (2*m)).map (d[· %d.size]!)))=[]:=by
  apply Yo;simp;omega
 rw[j,Enc.all_cons,Enc.all_one];simp
def OpE.VS{α:Type}{y:Operand}{t e b m:Nat}{z:Value}(E:Enc α)(a i:α)(H:SlTy P t e E.s z b)(A:E.s=m)(hp:0<m)(hm:2*m<=16777216)(Q:Sat w0 cs w)(R:aM L x=some (E.ag a))(T:aM L y=some (E.ag i))
  (N:∀ u W,Sat w0 (cs++[cL u e E [a,i]]) W->Chg [] w W->K u W):OpE P n L w ⟨d,.buildSlice t 2 #[(0,x),(1,y)],ty,pos,af,g⟩ K:=by
 subst A;have l:=Uo E E.s Y a i;obtain⟨a0,q,X,i3,i4⟩:=H.info;have hz:=H.zs;refine .val (λ ρ p=>?_) (N (.slice (some ⟨w.heap.size,0,none⟩) 2 2) (w.alloc (.cells (E.all [a,i]).toArray e)) ?_ (.alloc _ _))
 ·have j:(Instr.buildSlice t 2 #[(0,E.ag a),(1,E.ag i)]).run P w= .ok (.slice (some ⟨w.heap.size,0,none⟩) 2 2) (w.alloc (.cells (E.all [a,i]).toArray e)):=by
   have D:=l z.cells;have o:¬ 2^24<2*E.s:=O
   have r:¬ (2*E.s:Nat)=0:=O
   have k:¬ (E.s:Nat)=0:=O
   have r1:(zeroValue e).run P w= .ok z w:=by simp[zeroValue,typeInfo,q,X,go_sem]
   have r2:(sizeOf e).run P w= .ok E.s w:=by simp[sizeOf,typeInfo,q,i3,go_sem]
   have r3:(newRow e (E.all [a,i]).toArray).run P w= .ok ⟨w.heap.size,0,none⟩ (w.alloc (.cells (E.all [a,i]).toArray e)):=a2N
   simp only[Instr.buildSlice,Xy H.und,r2,XC,Xw,a1x,o,r,k,Yy,r1,XG,D,r3]
  simp only[execOp,Zk,XZ,Zy,p R,p T,XC,j,Xw,XG]
 ·have h:=Q.vG e E.s 2 2 (E.all [a,i]) a0B (KM _) (by rw[E.all_length];rfl);unfold cL;rw[Xx a5c]at h;exact h
end
section
variable {P:Program} {n:Nat} {fn:Func} {Φ:Value->World->Prop} {L:aA} {w:World}
end
