/-The walks of the functions of F16t,printed by our own program (kwgen.py) out of our descriptions (base.py). -/
import Derived.Test.YtcgidfgdbhihbaaGreatDoorM02s
import Derived.Test.YtcgidfgdbhihbaaGreatDoorF15u
import Derived.Test.YtcgidfgdbhihbaaGreatDoorKv
import Derived.Test.YtcgidfgdbhihbaaGreatDoorF13
open List renaming length→I,take→J,drop→ww
set_option linter.all false
set_option maxHeartbeats 2000000
set_option maxRecDepth 100000
open Go.Proofs.YtcgidfgdbhihbaaGreatDoor
open List
open Go.Proofs.Tryz
namespace Go.Proofs.YtcgidfgdbhihbaaGreatDoor
open Go.RowKit Go.Kw
def tu:JI prog 159=true:=F
def wK(v:Value)(b:List Nat)(w:World)(H:RdL w v t1 b)(l:∀ x∈b,x<256)(hn:I b<=1000000000)(h4:4<=I b)(d:qg (jP (J (I b-4) b))=ww (I b-4) b):
  CallsV prog 56 [v] w λ r w'=>∃ v',r= .tuple #[v',.I ((0:Nat):Int)]/\Sat w [cL v' 5 t1 (J (I b-4) b)] w':=by
 refine cd func56 Y λ k=>.W Y<|.h<|.ln 1 (H.E k.E) Y<|.Z Y<|.ak Y (IN O)<|.k<|.h<|.ln 1 (H.E k.E) Y<|.W Y<|.s<|.dk [] k Y (pl [0,1,2,5,6,7] (.two 3 8 (.two 4 8 (pl [1008,9,10] .fin) (pl [9,1004,10] .fin)) (pl [9,1003,1004,10] .fin))) λ o j=>.z 2 j Y<|.e Y (λ _ s=>.bg (E:=a7 .u8) (a:=0) (c:=(I b-4)) cy Y (H.E s.E) Y ⟨_,Y⟩ (KD _) O) j<|.z 2 j Y<|.e Y (λ _ s=>.bg (E:=a7 .u8) (a:=(I b-4)) (c:=I b) cy Y (H.E s.E) ⟨_,Y⟩ Y O (KM _)) j<|.two Y Y Y Y Y Y (OpE.call Tq Y ((Cu _ (ww 0 (J (I b-4) b)) _ ((H.E o.E).sub (a:=0) (b:=(I b-4)) (KD _) O) (λ x i=>l x (XX (Yf i))) cf).mono λ r1 _ h1=>?_)) (OpE.ev (Ev.Mg (E:=a7 .u8) underlying159 Y ((H.E o.E).sub (a:=(I b-4)) (b:=I b) O (KM _)) cf) ⟨j,?_⟩)
 ·obtain⟨rfl,p1⟩:=h1;have K:=o.ay p1;have A:=K.pk [];refine⟨A,?_⟩;refine .two Y Y Y Y Y Y (OpE.call Tp Y ((kJ (jP (ww 0 (J (I b-4) b))) _ (qi (λ x i=>l x (XX (Yf i))))).mono λ r2 _ h2=>?_)) (OpE.ev (Ev.Mg (E:=a7 .u8) underlying159 Y ((H.E K.E).sub (a:=(I b-4)) (b:=I b) O (KM _)) cf) ⟨A,?_⟩)
  ·obtain⟨rfl,p2⟩:=h2;have W:=K.ay p2;have D:=W.pk [];refine⟨D,?_⟩;refine .f Y (.ev (Ev.Mg (E:=a7 .u8) underlying159 Y ((H.E W.E).sub (a:=(I b-4)) (b:=I b) O (KM _)) cf) ⟨D,?_⟩);refine .e Y (λ _ s=>.Mj (E:=a7 .u8) ze Y ((H.E s.E).sub (a:=(I b-4)) (b:=I b) O (KM _)) a3n bl) D<|.e Y (λ _ s=>.zm tu Y cf Y Y) D<|.fin<|.ak Y (IN (λ h=>h a3O))<|.k<|.h<|.f Y (.wu t1 cy W λ v1 _ u _=>?_);have u:=u.nn;refine .a 2 Y (.bg (E:=a7 .u8) (a:=0) (c:=(I b-4)) cy Y (H.E u.E) Y ⟨_,Y⟩ (KD _) O)<|.ap 0 u 0 ((H.E u.E).sub (a:=0) (b:=(I b-4)) (KD _) O) Y λ v2 _ s5 _=>.Z Y<|.bK Y Y Y ?_;have s7:=(s5.pk [0]).bp 0 Y (show(J (I b-4) b).drop 0=b.take (I b-4)from bw);exact⟨_,Y,s7⟩
  refine .e Y (λ _ s=>.Mj (E:=a7 .u8) ze Y ((H.E s.E).sub (a:=(I b-4)) (b:=I b) O (KM _)) a3n bl) A<|.c 0 A (kJ (jP (ww 0 (J (I b-4) b))) _ (qi (λ x i=>l x (XX (Yf i))))) Y λ r3 _ h3=>?_;obtain⟨rfl,p3⟩:=h3;have s8:=K.ay p3;have X:=s8.pk [];refine⟨X,?_⟩;refine .e Y (λ _ s=>.zm tu Y cf Y Y) X<|.fin<|.ak Y (IN (λ h=>h a3O))<|.k<|.h<|.f Y (.wu t1 cy s8 λ v3 _ y _=>?_);have y:=y.nn;refine .a 2 Y (.bg (E:=a7 .u8) (a:=0) (c:=(I b-4)) cy Y (H.E y.E) Y ⟨_,Y⟩ (KD _) O)<|.ap 0 y 0 ((H.E y.E).sub (a:=0) (b:=(I b-4)) (KD _) O) Y λ a0 _ P _=>.Z Y<|.bK Y Y Y ?_;have Q:=(P.pk [0]).bp 0 Y (show(J (I b-4) b).drop 0=b.take (I b-4)from bw);exact⟨_,Y,Q⟩
 refine .e Y (λ _ s=>.Mj (E:=a7 .u8) ze Y ((H.E s.E).sub (a:=(I b-4)) (b:=I b) O (KM _)) a3n bl) j<|.c 0 j (Cu _ (ww 0 (J (I b-4) b)) _ ((H.E o.E).sub (a:=0) (b:=(I b-4)) (KD _) O) (λ x i=>l x (XX (Yf i))) cf) Y λ r4 _ N=>?_;obtain⟨rfl,p4⟩:=N;have p:=o.ay p4;have S5:=p.pk [];refine⟨S5,?_⟩;refine .c 0 S5 (kJ (jP (ww 0 (J (I b-4) b))) _ (qi (λ x i=>l x (XX (Yf i))))) Y λ r5 _ h5=>?_;obtain⟨rfl,p5⟩:=h5;have q:=p.ay p5;have S6:=q.pk [];refine⟨S6,?_⟩;refine .e Y (λ _ s=>.zm tu Y cf Y Y) S6<|.fin<|.ak Y (IN (λ h=>h a3O))<|.k<|.h<|.f Y (.wu t1 cy q λ v5 _ g _=>?_);have g:=g.nn;refine .a 2 Y (.bg (E:=a7 .u8) (a:=0) (c:=(I b-4)) cy Y (H.E g.E) Y ⟨_,Y⟩ (KD _) O)<|.ap 0 g 0 ((H.E g.E).sub (a:=0) (b:=(I b-4)) (KD _) O) Y λ v6 _ R _=>?_;have t:Sat w [cL v6 5 t1 (ww 0 (J (I b-4) b))] _:=R;refine .Z Y<|.bK Y Y Y ?_;have T:=(t.pk [0]).bp 0 Y (show(J (I b-4) b).drop 0=b.take (I b-4)from bw);exact⟨_,Y,T⟩
def tz(v:Value)(b p:List Nat)(w:World)(i:RdL w v t1 b)(he:b=aQ p)(g:∀ x∈p,x<256)(j:I p<=10000000):
  CallsV prog 56 [v] w λ r W=>∃ d,r= .tuple #[d,.I ((0:Nat):Int)]/\Sat w [cL d 5 t1 p] W:=by
 subst he;have l:=ch p;have t:J (I (aQ p)-4) (aQ p)=p:=by rw[l,Yh,aQ,take_left']<;>rfl
 have hd:ww (I (aQ p)-4) (aQ p)=qg (jP p):=by rw[l,Yh,aQ,drop_left']<;>rfl
 have h:=wK v (aQ p) w i (λ x H=>by
  rcases XE.1 H with H|H
  ·exact g x H
  ·exact qh _ x H) O O (by rw[t,hd])
 rw[t]at h;exact h
def Gq(W w:World)(cs:List Chunk)(g:Nat)(q:Value)(l:List Nat)(m:Nat)(H:Sat W ([ai g 224 [q,.bool true]]++cs) w)(d:RdL W q t1 l)(j:m<=I l)(y:I l<=1000000000):
  CallsV prog 215 [(.P g),(.I m)] w λ r u=>RdL W r t1 (ww 0 (J m l))/\∃ i,RdL W i t1 (ww m l)/\Sat W ([ai g 224 [i,.bool true]]++cs) u:=by
 refine aa func215 Y Y<|.W Y<|.h<|.ld 3 H 0 Y<|.ld 6 H 0 Y<|.ln 0 (d.E H.E) Y<|.Z Y<|.ak Y (IN O)<|.k<|.h<|.ld 3 H 0 Y<|.a 1 Y (.bg (E:=a7 .u8) (a:=0) (c:=m) cy Y (d.E H.E) Y ⟨_,Y⟩ (KD _) j)<|.Z Y<|.h<|.ld 4 H 0 Y<|.a 1 Y (.bg (E:=a7 .u8) (a:=m) (c:=I l) cy Y (d.E H.E) ⟨_,Y⟩ Y j (KM _))<|.st 2 H 0 Y (h1:=((d.E H.E).sub (a:=m) (b:=I l) j (KM _)).ae) λ _ t _=>have p:=t.sn;.j<|.Z Y<|.ax Y Y ?_;have o:=d.sub (a:=0) (b:=m) (KD _) j;have k:=d.sub (a:=m) (b:=I l) j (KM _);rw[XH]at k;exact⟨o,_,k,p⟩
def kL(W w:World)(cs:List Chunk)(g:Nat)(i:Value)(l t:List Nat)(x lim:Nat)(q:Sat W ([ai g 224 [i,.bool true]]++cs) w)(k:RdL W i t1 l)(he:l=uv x++t)(j:∀ y∈l,y<256)(p:I l<=1000000000)(o:x<=lim)(H:lim<=1000000000000):
  CallsV prog 214 [.P g,.I (lim:Int)] w λ r u=>r= .I (x:Int)/\∃ d,RdL W d t1 t/\Sat W ([ai g 224 [d,.bool true]]++cs) u:=by
 subst he;have h:=Nt W w cs g i true (uv x++t) lim q k j p H;rw[iK O o]at h;exact h
def qD(W w:World)(cs:List Chunk)(g:Nat)(i:Value)(l a t:List Nat)(m:Nat)(o:Sat W ([ai g 224 [i,.bool true]]++cs) w)(j:RdL W i t1 l)(he:l=a++t)(H:I a=m)(k:I l<=1000000000):
  CallsV prog 215 [.P g,.I (m:Int)] w λ r p=>RdL W r t1 a/\∃ d,RdL W d t1 t/\Sat W ([ai g 224 [d,.bool true]]++cs) p:=by
 subst he;have h:=Gq W w cs g i (a++t) m o j cf k;rw[YR,take_left' H,drop_left' H]at h;exact h
def oU{kind k:Nat}{ps:List (List Nat×Nat)}{y:Nat}(h:y∈e9 kind (ww k ps)):y∈e9 kind ps:=by
 obtain⟨p,H,d⟩:=Z4.1 h;exact Z4.2 ⟨p,Yf H,d⟩
def oV(kind k:Nat)(ps:List (List Nat×Nat)):I (e9 kind (ww k ps))<=I (e9 kind ps):=by
 have e:e9 kind ps=e9 kind (J k ps)++e9 kind (ww k ps):=by
  unfold e9;rw[<-a0q,XV]
 rw[e,AT];omega
def zX{kind k:Nat}{ps:List (List Nat×Nat)}{p:List Nat×Nat}(h:ps[k]? =some p):e9 kind (ww k ps)=uv (if kind=0 then I p.1 else p.2)++(p.1++e9 kind (ww (k+1) ps)):=by
 rw[my h];simp[e9,oF]
def wL:∀ {l:List Nat},(∀ x∈l,x<2^8)->l.map (· %2^8)=l
 |[],_=>rfl
 |x::r,h=>by rw[XZ,wL λ y H=>h y zc,XN (h x bw)]
def zY(l:List Nat)(k:Nat):J (64*k) l++eZ l k=J (64*(k+1)) l:=by
 rw[show 64*(k+1)=64*k+64 by omega,take_add]<;>rfl
def Iy(W w:World)(cs:List Chunk)(g:Nat)(bv:Value)(l:List Nat)(hs:Sat W ([ai g 224 [bv,.bool true]]++cs) w)(hl:OkN l)(hb:RdL W bv t1 (kG l 0)):
  CallsV prog 167 [(.P g)] w λ r w'=>∃ v',r= .tuple #[v',.bool true]/\∃ a3,Sat W ([ai g 224 [a3,.bool true],cL v' 3 un l]++cs) w':=by
 have a5:=hl.len;have hP:kG l 0=uv (I l)++(uv 0++e9 0 (lH l (cY (I l)))):=by rw[AX,kF];simp
 have t:∀ y∈kG l 0,y<256:=kV bl;have c4:=mY hl (k:=0) bl;have H:=If List.length hP;simp only[AT]at H;have c7:cY (I l)<=64:=by unfold cY;omega
 refine aa func167 Y Y<|.Z Y<|.h<|.z 1 Y<|have A1:=hs.oc [0] 1;.c 0 (kL _ _ _ _ _ (kG l 0) (uv 0++e9 0 (lH l (cY (I l)))) (I l) 4096 A1 hb hP t O a5 O) Y ?_;rintro _ _ ⟨rfl,c2,K,p1⟩;have s1:=p1.join.od [0];refine .z 1 Y<|have A2:=s1.oc [0] 1;.c 0 (kL _ _ _ _ _ (uv 0++e9 0 (lH l (cY (I l)))) (e9 0 (lH l (cY (I l)))) 0 1 A2 K Y (λ y X=>t y (by rw[hP];exact Yb _ X)) hJ O O) Y ?_;rintro _ _ ⟨rfl,p,N,p2⟩;have s2:=p2.join.od [0];refine .e Y (.build Fv Y ⟨Y,Y,trivial⟩ Y)<|.al 0 s2 Y λ b1 _ s3 _ _=>have b6:=s3.mn;.sa 0 b6 1 (vs:=[(.I (I l)),(.I (0:Nat)),.N,.N,(.I (0:Nat)),.N]) Y t7 λ c0 s4 _=>have a2:=s4.sn;.j<|.s<|.h<|.ld 1 a2 1 Y<|.Z Y<|.ak Y Y<|.k<|.W Y<|.V Y ?_;have s5:=(a2.aC 3 un).mn;have s6:Sat W ([ai g 224 [p,(.bool true)],ai b1 229 [(.I (I l)),(.I (0:Nat)),.N,.N,(.I (0:Nat)),.N],cL Value.N 3 un (J (64*0) l)]++cs) c0:=by
  have T:[]=J (64*0) l:=rfl;rw[<-T];exact s5
 refine .lq [0,4] Y (α:=Nat×Value×Value) (λ(k,d,u)=>[(7,u),(8,(.I k))]) (λ(k,d,u) w'=>Sat W (s6.V [(0,ai g 224 [d,(.bool true)]),(2,cL u 3 un (J (64*k) l))]++cs) w'/\(k<=cY (I l))/\(RdL W d t1 (e9 0 (ww k (lH l (cY (I l))))))) (λ(k,d,u)=>cY (I l)-k) (0,p,.N) ⟨s6,KD _,N⟩ ?_;rintro⟨k,d,u⟩ w5 ⟨q,hk,E⟩;refine .s<|.h<|.ld 3 q 0 Y<|.ld 4 q 1 Y<|.Z Y<|.ab Y (λ c1=>?_) λ c1=>?_
 ·refine .q<|.Z Y<|.W Y<|.h<|.ld 1 q 1 Y<|.Z Y<|.cc Y Y ?_;have a4:k<cY (I l):=by unfold cY;omega
  have hd:=zX (kind:=0) (yw (l:=l) a4);rw[Xp Y]at hd;have c6:=oV 0 k (lH l (cY (I l)));have R:=If List.length hd;simp only[AT]at R;have c5:=cD l k;refine .r<|.ld 5 q 0 Y<|.ln 0 (E.E q.E) Y<|have A3:=q.oc [0,1,2] 1;.c 0 (kL _ _ _ _ _ (e9 0 (ww k (lH l (cY (I l))))) (bQ (eZ l k)++e9 0 (ww (k+1) (lH l (cY (I l))))) (I (bQ (eZ l k))) (I (e9 0 (ww k (lH l (cY (I l)))))) A3 E hd (λ y X=>t y (by rw[hP];exact Yb _ (Yb _ (oU X)))) O O O) Y ?_;rintro _ _ ⟨rfl,c3,P,p3⟩;have s8:=p3.join.od [0,1,2];have A4:=s8.oc [0,1,2] 1;refine .c 0 (qD _ _ _ _ _ (bQ (eZ l k)++e9 0 (ww (k+1) (lH l (cY (I l))))) (bQ (eZ l k)) (e9 0 (ww (k+1) (lH l (cY (I l))))) (I (bQ (eZ l k))) A4 P Y Y hJ) Y ?_;rintro _ _ ⟨D,A,Q,p4⟩;have s9:=p4.join.od [0,1,2];refine .c 0 (wJ _ (bQ (eZ l k)) (eZ l k) _ (D.E s9.E) (mw _ _) O (xB O (λ y X=>by have:=hl.lt y (jD X);omega))) Y ?_;rintro _ _ ⟨c8,rfl,p5⟩;have o:=(s9.ay p5).mn;refine .W Y<|.h<|.ld 3 o 0 Y<|.ln 7 (o.aj 3 Y) Y<|.cm 1 o (oT _ (I l) k _ (o.cell (i:=1) (j:=0) Y Y) O O) Y λ _ a0=>.Z Y<|.ak Y (IN (λ h=>h a5g))<|.k<|.trim [0,4,7,8,9,10] Y<|.r<|.ap 2 a0 2 (a0.aj 3 Y) Y λ v1 b7 a6 _=>have a1:=a6.sn;.Z Y<|.U Y ?_;have a9:=a1.pt [0,1,2];have b2:Sat W ([ai g 224 [A,(.bool true)],ai b1 229 [(.I (I l)),(.I (0:Nat)),.N,.N,(.I (0:Nat)),.N],cL v1 3 un (J (64*(k+1)) l)]++cs) b7:=by
   have T:J (64*k) l++eZ l k=J (64*(k+1)) l:=zY l k;rw[<-T];exact a9
  exact aP (k+1,A,v1) ⟨b2,O,Q⟩
 refine .aq<|.s<|.dt [0,1,2] q Y (pl [0,1,2,3,4,5,6] .fin) λ b3 S1=>.ld 4 S1 0 Y<|.Z S1 Y<|.bK Y Y Y ?_;have b4:=b3.pt [0,2];have b5:Sat W ([ai g 224 [d,(.bool true)],cL u 3 un l]++cs) w5.drew:=by
  have T:J (64*k) l=l:=by rw[Xx O]
  rw[<-T];exact b4
 exact⟨_,Y,_,b5⟩
def Iz(W w:World)(cs:List Chunk)(g:Nat)(bv:Value)(l:List Nat)(hs:Sat W ([ai g 224 [bv,.bool true]]++cs) w)(E:OkN l)(hb:RdL W bv t1 (kG l 1)):
  CallsV prog 167 [(.P g)] w λ r w'=>∃ v',r= .tuple #[v',.bool true]/\∃ c4,Sat W ([ai g 224 [c4,.bool true],cL v' 3 un l]++cs) w':=by
 have c7:=E.len;have i0:=E.mx;have h0:=E.WM;have i2:=de l;have c8:(aT l).map (· %2^8)=aT l:=wL (λ x hx=>by have:=iQ (gu (gH l E.mx)) x hx;omega);have hP:kG l 1=uv (I l)++(uv 1++(uv (I (aT l))++(aT l++e9 1 (jV l (cY (I l)))))):=by rw[Ew,kF,Xp Y,c8];simp
 have A:∀ y∈kG l 1,y<256:=kV bl;have h7:=mY E (k:=1) bl;have a1:=If List.length hP;simp only[AT]at a1;have i1:cY (I l)<=64:=by unfold cY;omega
 refine aa func167 Y Y<|.Z Y<|.h<|.z 1 Y<|have A1:=hs.oc [0] 1;.c 0 (kL _ _ _ _ _ (kG l 1) (uv 1++(uv (I (aT l))++(aT l++e9 1 (jV l (cY (I l)))))) (I l) 4096 A1 hb hP A O c7 O) Y ?_;rintro _ _ ⟨rfl,h3,a4,p1⟩;have s1:=p1.join.od [0];refine .z 1 Y<|have A2:=s1.oc [0] 1;.c 0 (kL _ _ _ _ _ (uv 1++(uv (I (aT l))++(aT l++e9 1 (jV l (cY (I l)))))) (uv (I (aT l))++(aT l++e9 1 (jV l (cY (I l))))) 1 1 A2 a4 Y (λ y R=>A y (by rw[hP];exact Yb _ R)) hJ O O) Y ?_;rintro _ _ ⟨rfl,g9,a5,p2⟩;have s2:=p2.join.od [0];refine .e Y (.build Fv Y ⟨Y,Y,trivial⟩ Y)<|.al 0 s2 Y λ P _ s3 _ _=>have g5:=s3.mn;.sa 0 g5 1 (vs:=[(.I (I l)),(.I (1:Nat)),.N,.N,(.I (0:Nat)),.N]) Y t7 λ _ s4 _=>have c3:=s4.sn;.j<|.s<|.h<|.ld 1 c3 1 Y<|.Z Y<|.cc Y Y<|.h<|.z 2 Y<|have A3:=c3.oc [0,1] 1;.c 0 (kL _ _ _ _ _ (uv (I (aT l))++(aT l++e9 1 (jV l (cY (I l))))) (aT l++e9 1 (jV l (cY (I l)))) (I (aT l)) 1024 A3 a5 Y (λ y R=>A y (by rw[hP];exact Yb _ (Yb _ R))) hJ O O) Y ?_;rintro _ _ ⟨rfl,h4,a6,p3⟩;have s5:=p3.join.od [0,1];have A4:=s5.oc [0,1] 1;refine .c 0 (qD _ _ _ _ _ (aT l++e9 1 (jV l (cY (I l)))) (aT l) (e9 1 (jV l (cY (I l)))) (I (aT l)) A4 a6 Y Y hJ) Y ?_;rintro _ w6 ⟨H,p,a9,p4⟩;have s6:=p4.join.od [0,1];refine .ln 0 (H.E s6.E) Y<|.V Y ?_;have s7:Sat W ([ai g 224 [p,(.bool true)],ai P 229 [(.I (I l)),(.I (1:Nat)),.N,.N,(.I (0:Nat)),.N],cL Value.N 3 un ([])]++cs) _:=(s6.aC 3 un).sR;have s8:Sat W ([ai g 224 [p,(.bool true)],ai P 229 [(.I (I l)),(.I (1:Nat)),.N,.N,(.I (0:Nat)),.N],cL Value.N 3 un (J 0 (aT l))]++cs) w6:=by
  have q:[]=J 0 (aT l):=rfl;rw[<-q];exact s7
 refine .lq [0,4,23,24] Y (α:=Nat×Value) (λ(k,t)=>[(25,(.I k))]) (λ(k,t) w'=>Sat W (s8.V [(1,ai P 229 [(.I (I l)),(.I (1:Nat)),t,.N,(.I (0:Nat)),.N]),(2,cL t 3 un (J k (aT l)))]++cs) w'/\(k<=I (aT l))) (λ(k,t)=>I (aT l)-k) (0,.N) ⟨s8,KD _⟩ ?_;rintro⟨k,t⟩ w7 ⟨s9,hk⟩;refine .W Y<|.ab Y (λ c1=>?_) λ c1=>?_
 ·refine .q<|.s ?_;obtain⟨x,hx⟩:=ut (aT l) k c1;refine .r<|.ix 0 (H.E s9.E) Y<|.le 0 (H.E s9.E) hx Y<|.Z Y<|have h2:=iQ (gu (gH l E.mx)) x (a8 hx);.r<|.ld 1 s9 1 Y<|.b 2 Y (.bS un x bc Y s9 Y λ v1 _ c9 _=>have K:=c9.mn;.ap 0 K 2 (K.aj 3 Y) Y λ v2 _ e0 _=>have N:=(e0.sn).pt [0,1,2];.st 1 N 1 Y (h1:=(N.aj 2 Y).ae) λ g6 e1 _=>have b5:=e1.sn;.j<|.U Y ?_);have e2:=b5.pt [0,1,2];have e3:Sat W ([ai g 224 [p,(.bool true)],ai P 229 [(.I (I l)),(.I (1:Nat)),v2,.N,(.I (0:Nat)),.N],cL v2 3 un (J (k+1) (aT l))]++cs) g6:=by
   have q:J k (aT l)++[x]=J (k+1) (aT l):=by rw[ao hx]
   rw[<-q];exact e2
  exact aP (k+1,v2) ⟨e3,O⟩
 refine .aq<|.W Y<|.V Y ?_;have e4:Sat W ([ai g 224 [p,(.bool true)],ai P 229 [(.I (I l)),(.I (1:Nat)),t,.N,(.I (0:Nat)),.N],cL t 3 un (aT l)]++cs) w7:=by
  have q:J k (aT l)=aT l:=by rw[show k=I (aT l) by omega,XH]
  rw[<-q];exact s9
 have e5:=(e4.aC 3 un).mn;have b6:Sat W ([ai g 224 [p,(.bool true)],ai P 229 [(.I (I l)),(.I (1:Nat)),t,.N,(.I (0:Nat)),.N],cL t 3 un (aT l),cL Value.N 3 un (J (64*0) l)]++cs) w7:=by
  have q:[]=J (64*0) l:=rfl;rw[<-q];exact e5
 refine .lq [0,4] Y (α:=Nat×Value×Value) (λ(k,o,X)=>[(7,X),(8,(.I k))]) (λ(k,o,X) w'=>Sat W (b6.V [(0,ai g 224 [o,(.bool true)]),(3,cL X 3 un (J (64*k) l))]++cs) w'/\(k<=cY (I l))/\(RdL W o t1 (e9 1 (ww k (jV l (cY (I l))))))) (λ(k,o,X)=>cY (I l)-k) (0,p,.N) ⟨b6,KD _,a9⟩ ?_;rintro⟨k,o,X⟩ g7 ⟨d,hk,a3⟩;refine .s<|.h<|.ld 3 d 0 Y<|.ld 4 d 1 Y<|.Z Y<|.ab Y (λ c2=>?_) λ c2=>?_
 ·refine .q<|.Z Y<|.W Y<|.h<|.ld 1 d 1 Y<|.Z Y<|.ak Y Y<|.s ?_;have c6:k<cY (I l):=by unfold cY;omega
  have hd:=zX (kind:=1) (yx (l:=l) c6);rw[Xn bl]at hd;have h8:=oV 1 k (jV l (cY (I l)));have b4:=If List.length hd;simp only[AT,aO]at b4;have c5:=cD l k;have Q:=gH l E.mx;have h9:=fH (GoodLens.xV Q) (eZ l k);refine .r<|.ld 4 d 0 Y<|.ln 0 (a3.E d.E) Y<|.z 1 Y<|have A5:=d.oc [0,1,2,3] 1;.c 0 (kL _ _ _ _ _ (e9 1 (ww k (jV l (cY (I l))))) (aI (cz (aT l) (eZ l k))++e9 1 (ww (k+1) (jV l (cY (I l))))) (I (cz (aT l) (eZ l k))) (8*I (e9 1 (ww k (jV l (cY (I l)))))) A5 a3 hd (λ y R=>A y (by rw[hP];exact Yb _ (Yb _ (Yb _ (Yb _ (oU R)))))) O O O) Y ?_;rintro _ _ ⟨rfl,h5,b2,p5⟩;have e6:=p5.join.od [0,1,2,3];refine .Z Y<|.dt [1,2,3] e6 Y (pl [0,1,2,3,4,5,7,8,1006,1009,1010,11,12,13,14,15] .fin) λ e7 S1=>.ld 1 S1 0 Y<|.z 3 S1 Y<|.e Y (λ _ s=>.quo (b:=8) Y Y O en) S1<|.z 2 S1 Y<|have A6:=e7.oc [0,1,2,3] 1;.c 0 S1 (qD _ _ _ _ _ (aI (cz (aT l) (eZ l k))++e9 1 (ww (k+1) (jV l (cY (I l))))) (aI (cz (aT l) (eZ l k))) (e9 1 (ww (k+1) (jV l (cY (I l))))) ((I (cz (aT l) (eZ l k))+7)/8) A6 b2 Y (by rw[aO]) (by simp only[AT,aO];omega)) Y ?_;rintro _ _ ⟨a2,a0,b3,p6⟩;have T:=p6.join.od [0,1,2,3];have S2:=T.pt [1,2,3];refine⟨S2,?_⟩;refine .c 0 S2 (oT _ (I l) k _ (T.cell (i:=1) (j:=0) Y Y) O O) Y ?_;rintro _ _ ⟨rfl,p7⟩;have D:=(T.ay p7).mn;have S3:=D.pt [1,2,3];refine⟨S3,?_⟩;refine .c 0 S3 (tt _ _ (aT l) (aI (cz (aT l) (eZ l k))) (eZ l k) (I (cz (aT l) (eZ l k))) (min 64 (I l-k*64)) _ (D.aj 2 Y) (a2.E D.E) O (gu Q) (j0 _) a3v a3v O (by rw[show min 64 (I l-k*64)=I (eZ l k) by rw[c5];omega];exact EC (GoodLens.xV Q) _ (λ y R=>(qf E.mx y (jD R)).2))) Y ?_;rintro _ _ ⟨h6,rfl,p8⟩;have u:=(D.ay p8).mn;have S4:=u.pt [1,2,3];refine⟨S4,?_⟩;refine .Z S4 Y<|.s<|.s<|.trim [0,4,7,8,9,10,11] Y<|.r<|.ld 3 u 0 Y<|.ln 7 (u.aj 4 Y) Y<|.cm 1 u (oT _ (I l) k _ (u.cell (i:=1) (j:=0) Y Y) O O) Y λ _ b7=>.Z Y<|.ak Y (IN (λ h=>h a5g))<|.k<|.r<|.ap 2 b7 3 (b7.aj 4 Y) Y λ v3 g8 e8 _=>have c0:=e8.sn;.Z Y<|.U Y ?_;have g0:=c0.pt [0,1,2,3];have g1:Sat W ([ai g 224 [a0,(.bool true)],ai P 229 [(.I (I l)),(.I (1:Nat)),t,.N,(.I (0:Nat)),.N],cL t 3 un (aT l),cL v3 3 un (J (64*(k+1)) l)]++cs) g8:=by
   have q:J (64*k) l++eZ l k=J (64*(k+1)) l:=zY l k;rw[<-q];exact g0
  exact aP (k+1,a0,v3) ⟨g1,O,b3⟩
 refine .aq<|.s<|.dt [0,1,2,3] d Y (pl [0,1,2,3,4,5,6] .fin) λ g2 S5=>.ld 4 S5 0 Y<|.Z S5 Y<|.bK Y Y Y ?_;have g3:=g2.pt [0,3];have g4:Sat W ([ai g 224 [o,(.bool true)],cL X 3 un l]++cs) g7.drew:=by
  have q:J (64*k) l=l:=by rw[Xx O]
  rw[<-q];exact g3
 exact⟨_,Y,_,g4⟩
def Gr(W w:World)(cs:List Chunk)(g:Nat)(d:Value)(l:List Nat)(k:Sat W ([ai g 224 [d,.bool true]]++cs) w)(j:OkN l)(H:RdL W d t1 (kG l (bV l))):
  CallsV prog 167 [.P g] w λ r q=>∃ o,r= .tuple #[o,.bool true]/\∃ i,Sat W ([ai g 224 [i,.bool true],cL o 3 un l]++cs) q:=by
 by_cases h:bV l=1
 ·rw[h]at H;exact Iz W w cs g d l k j H
 have p:bV l=0:=by have:=ed l;omega
 rw[p]at H;exact Iy W w cs g d l k j H
def eG{b p:List Nat}(he:b=aQ p)(d:∀ x∈p,x<256):∀ x∈b,x<256:=λ x H=>by
 rw[he]at H;rcases XE.1 H with H|H
 ·exact d x H
 exact qh _ x H
def Cz(v:Value)(b l:List Nat)(w:World)(hv:RdL w v t1 b)(k:OkN l)(he:b=aQ (kG l (bV l))):
  CallsV prog 108 [v] w λ r w'=>∃ g lv W ps,r= .tuple #[.P g,.I 0]/\bP ps=nD l/\Sat w [ai g 229 [(.I (I l)),(.I (bV l)),lv,W,(.I (0:Nat)),.N],cL lv 3 un (dS l),cL W 284 dI ps,da ps,cL Value.N 3 un ([])] w':=by
 refine cd func108 Y λ t=>.Z Y<|.h<|.c 1 (tz _ b (kG l (bV l)) _ (hv.E t.E) he (kV (ed l)) (by have:=mY k (ed l);omega)) Y ?_;rintro _ w1 ⟨T,rfl,p1⟩;have P:=t.ay p1;refine .W Y<|.Z Y<|.ak Y Y<|.p<|have y:=P.aj 0 Y;have K:=hv.E P.E;have u:Sat w1 [] w1:=Sat.start _;.r<|.a 1 Y (.build Vq Y ⟨(y.E u.E).ae,Y,trivial⟩ Y)<|.al 0 u Y λ b1 _ s2 _ _=>.sa 0 s2 0 (vs:=[T,(.bool true)]) Y (t8 ⟨(y.E s2.E).ae,Y,trivial⟩) λ _ Q _=>have Q:=Q.nn;.j<|.h<|have A1:=Q.tail.oc [0] 1;.c 0 (Gr _ _ _ _ _ l A1 k y) Y ?_;rintro _ _ ⟨a1,rfl,a0,p2⟩;have s4:=(Sat.order [0,1] bl p2.join).aH.nn;refine .W Y<|.Z Y<|.ak Y Y<|.k<|.h<|.c 1 (zU _ l _ (s4.aj 1 Y) k) Y ?_;rintro _ _ ⟨X,D,o,p,rfl,H,p3⟩;have d:=s4.ay p3;exact .W Y<|.s<|have q:∀ x∈b,x<256:=λ x N=>eG he (kV (ed l)) x N;have A:∀ x∈aQ (lI (I l) (bV l) (dS l) (bP p)),x<256:=λ x N=>q x (by rw[he,<-yY,<-H];exact N);.r<|.c 4 (tm X (I l) (bV l) D o (dS l) p _ (d.cell (i:=2) (j:=0) Y Y) (d.cell (i:=2) (j:=1) Y Y) (d.cell (i:=2) (j:=2) Y Y) (d.cell (i:=2) (j:=3) Y Y) (d.aj 3 Y) (d.aj 4 Y) (d.nr 5 Y) k.len (ed _) (xO k) ((yX H k).1) ((yX H k).2) (by rw[H];exact Fi _)) Y λ r4 _ h4=>have R:=d.ay h4;.cq 1 R (yc _ _ (aQ (lI (I l) (bV l) (dS l) (bP p))) b _ (R.aj 7 Y) (K.E R.E) A q) Y λ _ s7=>.a 0 Y (.oG Y)<|.Z Y<|.ak Y (IN (λ E=>E (by rw[H,yY,he])))<|.k<|.Z Y<|.bK Y Y Y ⟨X,D,o,p,Y,H,(P.ay (s7.pk [2,3,4,5,6])).sub (.cons _ (.refl _))⟩
def iu(p:ByteArray):List ByteArray->List Nat->List Nat
 |x::W,c::C=>yb p x c++iu x W C
 |_,_=>[]
def iU{W:List ByteArray}{k:Nat}{x:ByteArray}(H:W[k]? =some x):eS W (k+1)=x:=by
 unfold eS;rw[Xn O,Yh,cZ H]
def E5{W:List ByteArray}{C:List Nat}{k c:Nat}{x:ByteArray}(d:W[k]? =some x)(H:C[k]? =some c):iu (eS W k) (ww k W) (ww k C)=uv (bu (eS W k) x)++(uv (x.size-bu (eS W k) x)++(bL (x.extract (bu (eS W k) x) x.size)++(uv (c-1)++iu x (ww (k+1) W) (ww (k+1) C)))):=by
 rw[eo d,eo H,iu,yb];simp only[KW]
def wM{W:List ByteArray}{C:List Nat}(h:I C=I W):∀ k,k<=I W->dy W C k++iu (eS W k) (ww k W) (ww k C)=uv (I W)++iu (eS W 0) W C
 |0,_=>rfl
 |k+1,hk=>by
  rw[<-wM h k O];have H:W[k]? =some W[k]:=py O;have d:C[k]? =some C[k]:=py O;rw[E5 H d,dy,cZ H,cZ d,iU H,yb];simp only[KW]
def IA{W:List ByteArray}{C:List Nat}(h:I C=I W):dy W C (I W)=uv (I W)++iu (eS W 0) W C:=by
 have:=wM h (I W) (KM _);rw[Yo (KM _)]at this;simpa[iu]using this
def wN:∀ (a b:List UInt8),J (fM a b) a=J (fM a b) b
 |x::a,y::b=>by
  unfold fM;split
  ·rename_i h;rw[YN,YN,h,wN a b]
  simp
 |[],_=>by simp[fM]
 |_::_,[]=>by simp[fM]
def zZ:∀ (a b:List UInt8),fM a b<=I a
 |x::a,y::b=>by
  have:=zZ a b;unfold fM;split
  ·simp;omega
  omega
 |[],_=>by simp[fM]
 |_::_,[]=>by simp[fM]
def IB(a b:ByteArray):bu a b<=a.size:=by have:=zZ a.data.toList b.data.toList;rw[tK]at this;exact this
theorem iV(s:ByteArray):strOf (bL s)=s:=by unfold bL;rw[rE]
def Ny(p x:ByteArray):p.extract 0 (bu p x)++strOf (bL (x.extract (bu p x) x.size))=x:=by
 rw[iV];refine k7 ?_;have e:(p.extract 0 (bu p x)++x.extract (bu p x) x.size).data.toList=(p.extract 0 (bu p x)).data.toList++(x.extract (bu p x) x.size).data.toList:=bw
 rw[e,tL,tL,YR,a0j];have h:=wN p.data.toList x.data.toList;show J (fM p.data.toList x.data.toList) p.data.toList++_=_;have H:J (x.size-bu p x) (ww (bu p x) x.data.toList)=ww (bu p x) x.data.toList:=Xx (by rw[XD,tK];exact KM _);rw[h,H];exact XV _ _
def IC{W:List ByteArray}{C:List Nat}{k c:Nat}{p x:ByteArray}(g:W[k]? =some x)(H:C[k]? =some c)(d:p=eS W k):iu p (ww k W) (ww k C)=uv (bu p x)++(uv (x.size-bu p x)++(bL (x.extract (bu p x) x.size)++(uv (c-1)++iu x (ww (k+1) W) (ww (k+1) C)))):=by
 subst d;exact E5 g H
def eV{a b:List Nat}(H:∀ y∈a,y<256)(d:∀ y∈b,y<256):∀ y∈a++b,y<256:=λ y g=>(XE.1 g).elim (H y) (d y)
def Nz(p x:ByteArray)(c:Nat):∀ y∈yb p x c,y<256:=eV (eV (eV (dG _) (dG _)) (mR _)) (dG _)
def mM:∀ (p:ByteArray) (W:List ByteArray) (C:List Nat),∀ y∈iu p W C,y<256
 |p,x::W,c::C=>eV (Nz p x c) (mM x W C)
 |_,[],_=>λ y h=>by simp[iu]at h
 |_,_::_,[]=>λ y h=>by simp[iu]at h
def lN:∀ (p:ByteArray) (W:List ByteArray) (C:List Nat),(∀ x∈W,x.size<=120)->I (iu p W C)<=I W*150
 |p,x::W,c::C,h=>by
  have d:=rC p x c;have g:=h x (Yp ..);have i:=lN x W C λ y H=>h y (Ya _ H);simp only[iu,AT,No];omega
 |_,[],_,_=>by simp[iu]
 |_,_::_,[],_=>by simp[iu]
def Gs{W:List ByteArray}(C:List Nat)(p:ByteArray)(k:Nat)(h:∀ x∈W,x.size<=120)(g:I W<=1024):I (iu p (ww k W) (ww k C))<=153600:=by
 have H:=lN p (ww k W) (ww k C) λ x d=>h x (Yf d);rw[XD]at H;omega
def E7{p:List Nat}(H:∀ x∈p,x<256):∀ x∈aQ p,x<256:=eV H (qh _)
def sr(W w:World)(cs:List Chunk)(g:Nat)(D:Value)(x lim:Nat)(t:List Nat)(o:Sat W ([ai g 219 [D,.bool true]]++cs) w)(k:RdL W D t1 (uv x++t))(l:∀ y∈uv x++t,y<256)(R:I (uv x++t)<=1000000000)(i:x<2^64)(p:x<=lim)(K:lim<=1000000000000):
  CallsV prog 162 [(.P g),(.I lim)] w λ r Q=>r= .I ((x:Nat):Int)/\∃ d,RdL W d t1 t/\Sat W ([ai g 219 [d,.bool true]]++cs) Q:=by
 refine aa func162 Y Y<|.Z Y<|.h<|.ld 3 o 0 Y<|.cm 0 o (gk _ (uv x++t) _ (k.E o.E) l) Y λ _ j=>.W Y<|.s<|have u:=rm i t;.weaken [(0,_),(1,_),(4,_),(5,(.int .u64 x)),(6,_),(7,_),(8,_),(9,_),(10,_),(11,_),(12,_),(13,_),(14,_),(15,_),(16,_)] ⟨Y,Y,Y,If some (If (λ q:Nat×Nat×Nat=>Value.int .u64 ((q.1:Nat):Int)) u),Y,Y,Y,Y,Y,Y,Y,Y,Y,Y,Y,trivial⟩<|.weaken [(0,_),(1,_),(4,_),(5,_),(6,(.I (I (uv x):Nat))),(7,_),(8,_),(9,_),(10,_),(11,_),(12,_),(13,_),(14,_),(15,_),(16,_)] ⟨Y,Y,Y,Y,If some (If (λ q:Nat×Nat×Nat=>Value.I ((q.2.1:Nat):Int)) u),Y,Y,Y,Y,Y,Y,Y,Y,Y,Y,trivial⟩<|.weaken [(0,_),(1,_),(4,_),(5,_),(6,_),(7,(.I (0:Nat))),(8,_),(9,_),(10,_),(11,_),(12,_),(13,_),(14,_),(15,_),(16,_)] ⟨Y,Y,Y,Y,Y,If some (If (λ q:Nat×Nat×Nat=>Value.I ((q.2.2:Nat):Int)) u),Y,Y,Y,Y,Y,Y,Y,Y,Y,trivial⟩<|.r<|.ld 3 j 0 Y<|.Z Y<|.ak Y (IN (Nat.not_lt.2 p))<|.k<|.h<|.ld 4 j 0 Y<|.a 1 Y (.bg (E:=a7 .u8) (a:=I (uv x)) (c:=I (uv x++t)) cy Y (k.E j.E) ⟨_,Y⟩ Y se (KM _))<|.st 2 j 0 Y (h1:=((k.E j.E).sub (a:=I (uv x)) (b:=I (uv x++t)) se (KM _)).ae) λ _ N _=>have A:=N.sn;.j<|.Z Y<|.ax Y Y<|have P:=A.pt [0];⟨Y,_,?_,P⟩;have H:=k.sub (a:=I (uv x)) (b:=I (uv x++t)) se (KM _);rw[XH,a2s]at H;exact H
def ID(W w:World)(cs:List Chunk)(g:Nat)(o:Value)(n:Nat)(s t:List Nat)(H:Sat W ([ai g 219 [o,.bool true]]++cs) w)(i:RdL W o t1 (s++t))(p:∀ y∈s++t,y<256)(D:I (s++t)<=1000000000)(k:n=I s):
  CallsV prog 163 [(.P g),(.I n)] w λ r A=>r= .string (strOf s)/\∃ j,RdL W j t1 t/\Sat W ([ai g 219 [j,.bool true]]++cs) A:=by
 refine aa func163 Y Y<|.W Y<|.h<|.ld 3 H 0 Y<|.ld 6 H 0 Y<|.ln 0 (i.E H.E) Y<|.Z Y<|.ak Y (IN se)<|.k<|.h<|.ld 3 H 0 Y<|.a 1 Y (.bg (E:=a7 .u8) (a:=0) (c:=n) cy Y (i.E H.E) Y ⟨_,Y⟩ O se)<|.e Y (.dr underlying58 underlying9 underlying5 Y ((i.E H.E).sub (a:=0) (b:=n) O se))<|.Z Y<|.h<|.ld 4 H 0 Y<|.a 1 Y (.bg (E:=a7 .u8) (a:=n) (c:=I (s++t)) cy Y (i.E H.E) ⟨_,Y⟩ Y se (KM _))<|.st 2 H 0 Y (h1:=((i.E H.E).sub (a:=n) (b:=I (s++t)) se (KM _)).ae) λ _ q _=>have l:=q.sn;.j<|.Z Y<|.ax Y Y<|have u:=l.pt [0];⟨by rw[k,a2b,YR],_,?_,u⟩;have d:=i.sub (a:=n) (b:=I (s++t)) se (KM _);rw[XH,show List.drop n (s++t)=t by rw[k,a2s]]at d;exact d
def NA(v:Value)(b:List Nat)(W:List ByteArray)(C:List Nat)(w:World)(hv:RdL w v t1 b)(he:b=aQ (dy W C (I W)))(a1:okW W)(e3:I C=I W)(j:∀ x∈W,x.size<=120)(hC:∀ c∈C,1<=c/\c<=4096)(m3:C.sum<=4096)(hn:I W<=1024):
  CallsV prog 107 [v] w λ r w'=>∃ g R t vo,r= .tuple #[.P g,.I 0]/\Sat w [ai g 221 [R,t,vo],cL R 9 aw W,cL t 3 un C,cL vo 3 un (ordN W)] w':=by
 refine cd func107 Y λ g2=>.W Y<|have m8:=ez C j (I W) (KM _);.r<|.c 1 (tz _ b (dy W C (I W)) _ (hv.E g2.E) he (ir W C _) O) Y ?_;rintro _ w1 ⟨l2,rfl,p1⟩;have s1:=g2.ay p1;refine .W Y<|.Z Y<|.ak Y Y<|.p ?_;have d:=s1.aj 0 Y;rw[IA e3]at d;have i6:=hv.E s1.E;have g3:Sat w1 [] w1:=Sat.start _;have m2:=lN (eS W 0) W C j;have o1:=aF (I W);refine .r<|.a 1 Y (.build Vp Y ⟨(d.E g3.E).ae,Y,trivial⟩ Y)<|.al 0 g3 Y λ b1 _ s2 _ _=>.sa 0 s2 0 (vs:=[l2,(.bool true)]) Y (t8 ⟨(d.E s2.E).ae,Y,trivial⟩) λ _ s3 _=>have s3:=s3.nn;.j<|.h<|.e Y (.build QL Y trivial Y)<|.bx 0 s3 Y λ b2 _ s4 _ _=>.Z Y<|.W Y<|.h<|have A1:=s4.tail.oc [0,1] 1;.c 0 (sr _ _ _ _ _ (I W) 1024 (iu (eS W 0) W C) A1 d (eV (dG _) (mM _ _ _)) a0J O O O) Y ?_;rintro _ _ ⟨rfl,h5,e5,p2⟩;have s5:=(Sat.order [0,1] bl p2.join).aH.nn;refine .V Y<|have s6:=s5.aC 9 aw;have s7:=s6.aC 3 un;have s8:=s7.bp 2 Y (show[]=J 0 W from Y);have s9:=s8.bp 3 Y (show[]=J 0 C from Y);.lq [0,6,7] Y (α:=Nat×Value×ByteArray×Nat×Value×Value) (λ(k,bv,p,z,R,t)=>[(8,(.string p)),(9,(.I z)),(10,(.I ((I W-k):Nat)))]) (λ(k,bv,p,z,R,t) w'=>Sat w1 [ai b1 219 [bv,(.bool true)],ai b2 221 [R,t,.N],cL R 9 aw (J k W),cL t 3 un (J k C)] w'/\(k<=I W)/\(RdL w1 bv t1 (iu p (ww k W) (ww k C)))/\(p=eS W k)/\(p.size<=120)/\(z=(J k C).sum)) (λ(k,bv,p,z,R,t)=>I W-k) (0,h5,(ByteArray.mk #[]),0,.N,.N) ⟨s9,KD _,by rw[YR,YR];exact e5,Y,bl,Y⟩ ?_;rintro⟨k,bv,p,z,R,t⟩ w6 ⟨c2,hk,h7,hp,n5,hz⟩;refine .s<|.h<|.z 3 Y<|.B 28 Y (λ g1=>?_) λ g1=>?_
 ·refine .ld 1 c2 0 Y<|.Z Y<|.cc Y Y<|.q<|.s ?_;obtain⟨x,u⟩:=ut W k O;obtain⟨c,H⟩:=ut C k O;have o2:=j x (Xs u);have m9:=hC c (Xs H);have n2:=y9 p x;have m1:=IB p x;have n3:=Gs C x (k+1) j hn;have n6:=aF (bu p x);have n7:=aF (x.size-bu p x);have n8:=aF (c-1);have i5:=zJ C (k+1);rw[jG H]at i5;have e4:=h7;rw[IC u H hp]at e4;refine .r<|.a 1 Y (.br underlying9 Y)<|have A2:=c2.tail.oc [0,1,2,3] 1;.c 0 (sr _ _ _ _ _ (bu p x) p.size (uv (x.size-bu p x)++(bL (x.extract (bu p x) x.size)++(uv (c-1)++iu x (ww (k+1) W) (ww (k+1) C)))) A2 e4 (eV (dG _) (eV (dG _) (eV (mR _) (eV (dG _) (mM _ _ _))))) a0J O O O) Y ?_;rintro _ _ ⟨rfl,m5,e6,p3⟩;have i8:=(Sat.order [0,1,2,3] bl p3.join).aH.nn;refine .W Y<|.dk [1,2,3] i8 Y (pl [0,1,2,1003,1004,5,6] .fin) λ i9 S1=>.z 2 S1 Y<|.e Y (λ _ s=>.eF (l:=0) (h:=(bu p x)) underlying9 Y Y ⟨_,Y⟩ O O) S1<|have A3:=i9.tail.oc [0,1,2,3] 1;.c 0 S1 (sr _ _ _ _ _ (x.size-bu p x) 120 (bL (x.extract (bu p x) x.size)++(uv (c-1)++iu x (ww (k+1) W) (ww (k+1) C))) A3 e6 (eV (dG _) (eV (mR _) (eV (dG _) (mM _ _ _)))) a0J O O O) Y ?_;rintro _ _ ⟨rfl,m6,e7,p4⟩;have g4:=(Sat.order [0,1,2,3] bl p4.join).aH.nn;have S2:=g4.pk [1,2,3];refine⟨S2,?_⟩;have A4:=g4.tail.oc [0,1,2,3] 1;refine .c 0 S2 (ID _ _ _ _ _ (x.size-bu p x) (bL (x.extract (bu p x) x.size)) (uv (c-1)++iu x (ww (k+1) W) (ww (k+1) C)) A4 e7 (eV (mR _) (eV (dG _) (mM _ _ _))) a0J (by rw[aB,XB];omega)) Y ?_;rintro _ _ ⟨rfl,m7,e8,p5⟩;have g5:=(Sat.order [0,1,2,3] bl p5.join).aH.nn;have S3:=g5.pk [1,2,3];refine⟨S3,?_⟩;refine .e Y (λ _ s=>.Ue Y Y (by rw[iV,XB,XB];omega)) S3<|.Z S3 Y<|.s<|.weaken [(0,_),(6,_),(7,_),(8,_),(9,_),(10,_),(11,_),(12,(.string x)),(26,_),(27,_),(28,_),(29,_),(30,_),(34,_),(35,_),(36,_),(37,_),(38,_),(39,_),(40,_),(41,_),(42,_)] ⟨Y,Y,Y,Y,Y,Y,Y,If some (If Value.string (Ny p x)),Y,Y,Y,Y,Y,Y,Y,Y,Y,Y,Y,Y,Y,Y,trivial⟩<|.r<|have A5:=g5.tail.oc [0,1,2,3] 1;.c 0 (sr _ _ _ _ _ (c-1) 4095 (iu x (ww (k+1) W) (ww (k+1) C)) A5 e8 (eV (dG _) (mM _ _ _)) a0J O O O) Y ?_;rintro _ _ ⟨rfl,a0,c0,p6⟩;have o:=(Sat.order [0,1,2,3] bl p6.join).aH.nn;refine .W Y<|.weaken [(0,_),(6,_),(7,_),(8,_),(9,_),(10,_),(11,_),(12,_),(13,(.I c)),(26,_),(27,_),(28,_),(29,_),(30,_),(34,_),(35,_),(36,_),(37,_),(38,_),(39,_),(40,_),(41,_),(42,_),(43,_),(44,_)] ⟨Y,Y,Y,Y,Y,Y,Y,Y,If some (If (λ q:Nat=>Value.I (q:Int)) (show c-1+1=c by omega)),Y,Y,Y,Y,Y,Y,Y,Y,Y,Y,Y,Y,Y,Y,Y,Y,trivial⟩<|.U Y<|.s<|.s ?_;rcases Yv k with h8|h8
  ·refine .r<|.ld 3 o 1 Y<|.ln 0 (o.aj 2 Y) Y<|.z 2 Y<|.Gf 54 Y (IN a1A)<|.a 6 Y (.br underlying9 Y)<|.z 3 Y<|.Gf 64 Y (IN O)<|.cp 1 o (gI x _ O) Y λ _ a2=>.a 0 Y (.cK Y)<|.z 2 Y<|.Gf 69 Y (by rw[a1.2 x (Xs u)]<;>rfl)<|.Z Y<|.ak Y (IN O)<|.p<|.trim [0,6,7,8,9,10,11,12,13] Y<|have i1:=(a2.aj (E:=aw) 2 Y).gY bl;have i2:=(a2.aj (E:=a7 .i64) 3 Y).gY bl;.gB [0,1] [0] a2 Y Y 18 (pl [0] (.loose 1 (pl [2,3,4,5,6] (.loose 9 (.loose 10 (.loose 11 (pl [12] (.loose 13 (.two 7 14 (.two 8 14 (pl [1014,1015] (.loose 16 (pl [17] (.bar 18 (pl [19,20,1021] .fin))))) (pl [1008,1015] (.loose 16 (pl [17] (.bar 18 (pl [19,20,1021] .fin)))))) (pl [1007,1008,1015] (.loose 16 (pl [17] (.bar 18 (pl [19,20,1021] .fin)))))))))))))) mixed F<|have c3:=a2.drew;have T:=c3.pk [0,1];.z 1 T Y<|.loose Y Y Y (λ _ s=>.move Y) T<|.ld 3 T 1 Y<|.z 1 T Y<|.loose Y Y Y (λ _ s=>.move Y) T<|.loose Y Y Y (λ _ s=>.nilCheck Y) T<|.loose Y Y Y (λ _ s=>.fieldAddr BW Y Y) T<|.ld 0 T 1 Y<|.loose Y Y Y (λ _ s=>.move Y) T<|.Mf (λ v1 v2 v3 w'=>Sat w1 [ai b1 219 [a0,(.bool true)],ai b2 221 [R,t,.N],cL v2 9 aw (J k W++[x]),cL t 3 un (J k C),cL v3 3 un ([c])] w') Y ?_ ?_ ?_
   ·refine OpE.bS aw x bI Y c3 Y λ v1 _ a3 _=>⟨a3.pick [0,1] Y,?_,?_⟩
    ·refine OpE.aD 2 bI a3 Y Y Y underlying28 (a3.aj 4 Y) mv mv λ v2 _ a4 _=>have a4:=a4.pk [0,1,2,3];⟨a4.pick [0,1] Y,?_⟩;exact OpE.bS un c bc Y a4 Y λ v3 _ g6 _=>⟨g6.pk [0,1],g6⟩
    refine OpE.bS un c bc Y a3 Y λ q2 _ A _=>have A:=A.nn;⟨A.pick [0,1] Y,?_⟩;exact OpE.aD 2 bI A Y Y Y underlying28 (A.aj 4 Y) mv mv λ v5 _ a5 _=>have a5:=a5.pk [0,1,2,3,5];⟨a5.pk [0,1],a5⟩
   ·refine OpE.bS un c bc Y c3 Y λ v6 _ g7 _=>⟨g7.pick [0,1] Y,?_⟩;refine OpE.bS aw x bI Y g7 Y λ v7 _ D _=>have D:=D.nn;⟨D.pick [0,1] Y,?_⟩;exact OpE.aD 2 bI D Y Y Y underlying28 (D.aj 5 Y) mv mv λ v8 _ a6 _=>have a6:=a6.pk [0,1,2,3,4];⟨a6.pk [0,1],a6⟩
   rintro v1 v2 v3 q4 c4;have S5:=c4.pk [0,1];refine .f Y (.aD 3 bc c4 Y Y Y underlying22 (c4.aj 4 Y) mv mv λ v9 _ K _=>have K:=K.pk [0,1,2,3];have S6:=K.pk [0,1];⟨S6,?_⟩);refine .loose Y Y Y (λ _ s=>.nilCheck Y) S6<|.z 1 S6 Y<|.bar Y Y Y (OpE.aG BQ K (i:=1) Y Y Y ((K.aj 2 Y).ae) Y λ _ c5 _=>have S7:=c5.pk [0];⟨S7,?_⟩);refine .z 2 S7 Y<|.f Y (.aG qp c5 (i:=1) Y Y Y ((c5.aj 3 Y).ae) Y λ _ g8 _=>have S8:=g8.pk [0];⟨S8,?_⟩);exact .fin<|.U Y<|.U Y<|have k0:=g8.bp 2 Y (show J k W++[x]=W.take (k+1)from(cF u).symm);have k1:=k0.bp 3 Y (show J k C++[c]=C.take (k+1)from(cF H).symm);⟨(k+1,a0,x,(z+c),v2,v9),⟨Y,Y,If some (If (λ q:Nat=>Value.I (q:Int)) (show I W-k-1=I W-(k+1) by omega)),Y,Y,Y,trivial⟩,⟨k1.pk [0,1,2,3],O,c0,(iU u).symm,O,by rw[jG H,hz]⟩,wv⟩
  obtain⟨y,hy⟩:=ut W (k-1) O;have i0:p=y:=by rw[hp];unfold eS;rw[Xn O,cZ hy]
  have g0:=a1.1.lt hy u O;rw[<-i0]at g0;refine .r<|.ld 3 o 1 Y<|.ln 0 (o.aj 2 Y) Y<|.z 2 Y<|.Gt 54 Y (LW a1A)<|.a 2 Y (.TY Y Y)<|.z 2 Y<|.Gf 59 Y (IN (λ h9=>h9 g0))<|.a 1 Y (.br underlying9 Y)<|.z 3 Y<|.Gf 64 Y (IN O)<|.cp 1 o (gI x _ O) Y λ _ a9=>.a 0 Y (.cK Y)<|.z 2 Y<|.Gf 69 Y (by rw[a1.2 x (Xs u)]<;>rfl)<|.Z Y<|.ak Y (IN O)<|.p<|.trim [0,6,7,8,9,10,11,12,13] Y<|have i3:=(a9.aj (E:=aw) 2 Y).gY bl;have i4:=(a9.aj (E:=a7 .i64) 3 Y).gY bl;.gB [0,1] [0] a9 Y Y 18 (pl [0] (.loose 1 (pl [2,3,4,5,6] (.loose 9 (.loose 10 (.loose 11 (pl [12] (.loose 13 (.two 7 14 (.two 8 14 (pl [1014,1015] (.loose 16 (pl [17] (.bar 18 (pl [19,20,1021] .fin))))) (pl [1008,1015] (.loose 16 (pl [17] (.bar 18 (pl [19,20,1021] .fin)))))) (pl [1007,1008,1015] (.loose 16 (pl [17] (.bar 18 (pl [19,20,1021] .fin)))))))))))))) mixed F<|have c6:=a9.drew;have X:=c6.pk [0,1];.z 1 X Y<|.loose Y Y Y (λ _ s=>.move Y) X<|.ld 3 X 1 Y<|.z 1 X Y<|.loose Y Y Y (λ _ s=>.move Y) X<|.loose Y Y Y (λ _ s=>.nilCheck Y) X<|.loose Y Y Y (λ _ s=>.fieldAddr BW Y Y) X<|.ld 0 X 1 Y<|.loose Y Y Y (λ _ s=>.move Y) X<|.Mf (λ h3 b7 e1 w'=>Sat w1 [ai b1 219 [a0,(.bool true)],ai b2 221 [R,t,.N],cL b7 9 aw (J k W++[x]),cL t 3 un (J k C),cL e1 3 un ([c])] w') Y ?_ ?_ ?_
  ·refine OpE.bS aw x bI Y c6 Y λ h3 _ b3 _=>⟨b3.pick [0,1] Y,?_,?_⟩
   ·refine OpE.aD 2 bI b3 Y Y Y underlying28 (b3.aj 4 Y) mv mv λ b7 _ b4 _=>have b4:=b4.pk [0,1,2,3];⟨b4.pick [0,1] Y,?_⟩;exact OpE.bS un c bc Y b4 Y λ e1 _ g9 _=>⟨g9.pk [0,1],g9⟩
   refine OpE.bS un c bc Y b3 Y λ p7 _ N _=>have N:=N.nn;⟨N.pick [0,1] Y,?_⟩;exact OpE.aD 2 bI N Y Y Y underlying28 (N.aj 4 Y) mv mv λ p8 _ b5 _=>have b5:=b5.pk [0,1,2,3,5];⟨b5.pk [0,1],b5⟩
  ·refine OpE.bS un c bc Y c6 Y λ p9 _ h0 _=>⟨h0.pick [0,1] Y,?_⟩;refine OpE.bS aw x bI Y h0 Y λ q0 _ P _=>have P:=P.nn;⟨P.pick [0,1] Y,?_⟩;exact OpE.aD 2 bI P Y Y Y underlying28 (P.aj 5 Y) mv mv λ q1 _ b6 _=>have b6:=b6.pk [0,1,2,3,4];⟨b6.pk [0,1],b6⟩
  rintro h3 b7 e1 q5 c7;have m4:=c7.pk [0,1];refine .f Y (.aD 3 bc c7 Y Y Y underlying22 (c7.aj 4 Y) mv mv λ m0 _ Q _=>have Q:=Q.pk [0,1,2,3];have c1:=Q.pk [0,1];⟨c1,?_⟩);refine .loose Y Y Y (λ _ s=>.nilCheck Y) c1<|.z 1 c1 Y<|.bar Y Y Y (OpE.aG BQ Q (i:=1) Y Y Y ((Q.aj 2 Y).ae) Y λ _ c8 _=>have e2:=c8.pk [0];⟨e2,?_⟩);refine .z 2 e2 Y<|.f Y (.aG qp c8 (i:=1) Y Y Y ((c8.aj 3 Y).ae) Y λ _ h1 _=>have h4:=h1.pk [0];⟨h4,?_⟩);exact .fin<|.U Y<|.U Y<|have k2:=h1.bp 2 Y (show J k W++[x]=W.take (k+1)from(cF u).symm);have k3:=k2.bp 3 Y (show J k C++[c]=C.take (k+1)from(cF H).symm);⟨(k+1,a0,x,(z+c),b7,m0),⟨Y,Y,If some (If (λ q:Nat=>Value.I (q:Int)) (show I W-k-1=I W-(k+1) by omega)),Y,Y,Y,trivial⟩,⟨k3.pk [0,1,2,3],O,c0,(iU u).symm,O,by rw[jG H,hz]⟩,wv⟩
 refine .Z Y<|.ak Y Y<|.aq<|.s<|.s<|have k4:=c2.bp 2 Y (show J k W=W from by rw[show k=I W by omega,XH]);have k5:=k4.bp 3 Y (show J k C=C from by rw[show k=I C by omega,XH]);have c9:=k5.aC 3 un;.r<|.ld 1 c9 0 Y<|.c 3 (wE _ _ _ _ _ _ _ _ (c9.xW 1 2 3 4 Y Y Y Y) e3 j (λ c hc=>⟨(hC c hc).1,by have:=(hC c hc).2;omega⟩) O) Y λ r9 _ h6=>have e0:=(c9.ay h6).nn;.cp 1 e0 (yc _ _ (aQ (dy W C (I W))) b _ (e0.aj 5 Y) (i6.E e0.E) (E7 (ir W C _)) (by rw[he];exact E7 (ir W C _))) Y λ _ h2=>.a 0 Y (.oG Y)<|.Z Y<|.ak Y (IN (λ h9=>h9 he.symm))<|.k<|.h<|.z 1 Y<|have A6:=h2.tail.oc [1,2,0,3,4,5] 2;.c 0 (wD _ _ _ _ _ _ W A6 a1 (λ x u=>XL (j x u) bl) O ((h2.aj 3 Y).ae)) Y ?_;rintro _ _ ⟨rfl,q3,i7⟩;have k9:=(Sat.order [3,0,1,4,5,6,2] bl i7.join).aH.nn;exact .j<|.Z Y<|.bK Y Y Y ⟨_,_,_,_,Y,(s1.ay (k9.pk [1,2,3,6])).sub (.cons _ (.refl _))⟩
def lexB(us:List ByteArray):List Nat:=aQ (dy (ah us) (aJ us) (I (ah us)))
def cw(l:List Nat):List Nat:=aQ (kG l (bV l))
def E8(us:List ByteArray):∀ c∈aJ us,c<=I us:=λ c H=>by
 unfold aJ at H;obtain⟨w,_,rfl⟩:=Y7.1 H;unfold im;exact a2t
def yd{us:List ByteArray}(h:I us<=1024/\I (ah us)<=8):OkN (gj us):=by
 obtain⟨h,g⟩:=h;have d:=bZ us;refine⟨by unfold gj;rw[Xu];omega,λ x H=>?_⟩;have:=zb x H;omega
def oW{us:List ByteArray}(h:Vc us):I (lexB us)<=160000:=by
 have g:=bZ us;have d:=h.1.1;have i:=ez (W:=ah us) (aJ us) (λ x H=>h.2 x (cT.1 H)) _ (KM _);unfold lexB;rw[ch];omega
def oX{us:List ByteArray}(h:I us<=1024/\I (ah us)<=8):I (cw (gj us))<=2000004:=by
 have:=mY (yd h) (ed (gj us));unfold cw;rw[ch];omega
def tA:Enc (Nat×Nat):=⟨2,λ x=>[.I (x.1:Int),.I (x.2:Int)],λ _=>Y,λ x u h=>by simp at h;rcases h with rfl|rfl<;>rfl⟩
def NB{l:List Nat}{k x:Nat}(H:l[k]? =some x)(h:k%16=0):iL l (k+1)=iL l k++[(x,I (cE 0 (J k l)))]:=by
 rw[iL,Xp h,getD_some H]
def NC{l:List Nat}{k:Nat}(h:¬ k%16=0):iL l (k+1)=iL l k:=by rw[iL,Xn h]
def ye{l:List Nat}{k x:Nat}(H:l[k]? =some x):cE 0 (J (k+1) l)=cE 0 (J k l)++gx (x+1-z8 l k):=by rw[ao H,vi]<;>rfl
def wO(v:Value)(l:List Nat)(w:World)(y:RdL w v un l)(N:OkP l):
  CallsV prog 143 [v] w λ r w'=>∃ g bv sv,r= .tuple #[.P g,.I ((0:Nat):Int)]/\Sat w [ai g 253 [.I (I l:Int),.I (I (cE 0 l):Int),bv,sv],cL bv 5 t1 (aI (cE 0 l)),cL sv 257 tA (iL l (I l))] w':=by
 refine cd func143 Y λ t=>.W Y<|.s<|have b4:=N.len;.r<|.ln 1 (y.E t.E) Y<|.Z Y<|.ak Y (IN (by have:=N.len;omega))<|.k<|.h<|.ln 1 (y.E t.E) Y<|.e Y (.build Vs Y ⟨Y,trivial⟩ Y)<|.bx 0 t Y λ b1 _ s1 _ _=>.Z Y<|.h<|.c 0 (kI _) Y ?_;rintro _ _ ⟨b2,rfl,p1⟩;have s2:=s1.ay p1;refine .Z Y<|.W Y<|.h<|.ln 1 (y.E s2.E) Y<|.V Y<|have s3:=s2.aC 257 tA;.lq [0,4,5,17,18] Y (α:=Nat×Value×List Bool×Value×List (Nat×Nat)) (λ(k,W,bits,sv,q)=>[(6,(.I (((z8 l k:Nat):Int)-1))),(19,(.I k))]) (λ(k,W,bits,sv,q) w'=>Sat w [ai b1 253 [(.I (I l)),(.I (0:Nat)),.N,sv],ai b2 312 [W,(.I (I bits:Nat))],cL W 5 t1 (aI bits),cL sv 257 tA q] w'/\(k<=I l)/\(bits=cE 0 (J k l))/\(q=iL l k)/\(I bits<=42*k)) (λ(k,W,bits,sv,q)=>I l-k) (0,.N,[],.N,[]) ⟨s3,KD _,Y,Y,KD _⟩ ?_;rintro⟨k,W,bits,sv,q⟩ b6 ⟨o,hk,H,d,a9⟩;refine .W Y<|.ab Y (λ c1=>?_) λ c1=>?_
 ·refine .q<|.s ?_;obtain⟨x,p⟩:=ut l k c1;have b5:=N.lt x (a8 p);have a6:=za N p;have b3:=Fl (v:=x+1-z8 l k) O;refine .r<|.ix 1 (y.E o.E) Y<|.le 0 (y.E o.E) p Y<|.W Y<|.l<|.s<|.bM 24 ((x<0)\/(2147483647<x)) ?_ ?_
  ·refine .z 3 Y<|.B 27 Y (λ R=>?_) λ R=>?_
   ·refine .M Y (by simp[R])
   refine .M Y (by simp[R])
  refine .ak Y (IN O)<|.h<|.a 2 Y (.leq Y Y)<|.Z Y<|.ak Y (IN O)<|.p<|.h<|.a 1 Y (.rem (b:=16) Y Y O)<|.Z Y<|.ab Y (λ Q=>?_) λ Q=>?_
  ·have a5:I q=(k+15)/16:=by rw[d,lx]
   have T:=(o.aj (E:=tA) 3 Y).gY bl;refine .gB [0,1,2] [1,2] o Y Y 13 (pl [0,1,2,3,4,5,6,1007,8,1009,1010] (.loose 11 (pl [12] (.bar 13 .fin)))) mixed F<|have s5:=o.drew;have S1:=s5.pk [0,1,2];.ld 4 S1 0 Y<|.c 2 S1 (xX _ (I bits) _ (s5.cell (i:=1) (j:=1) Y Y)) Y ?_;rintro _ _ ⟨rfl,p2⟩;have s6:=(s5.ay p2).nn;have S2:=s6.pk [0,1,2];refine⟨S2,?_⟩;refine .e Y (λ _ s=>.build Vt Y ⟨Y,Y,trivial⟩ Y) S2<|.f Y (.bO tA (x,I bits) LZ bl bl s6 Y λ v1 _ s7 _=>have S3:=s7.pk [0,1,2];⟨S3,?_⟩);refine .f Y (.aD 3 LZ s7 Y Y Y underlying251 (s7.aj 4 Y) cf cf λ v2 _ K _=>have K:=K.pk [0,1,2,3];have P:=K.pk [0,1,2];⟨P,?_⟩);refine .loose Y Y Y (λ _ s=>.nilCheck Y) P<|.z 1 P Y<|.bar Y Y Y (OpE.aG Tm K (i:=0) Y Y Y ((K.aj 3 Y).ae) Y λ _ s9 _=>have S5:=s9.pk [1,2];⟨S5,?_⟩);refine .fin<|.h<|.a 3 Y (.nu Y Y O O)<|.z 1 Y<|have A1:=s9.tail.oc [1,2,0,3] 2;.c 0 (E2 _ _ _ _ _ bits (x+1-z8 l k) A1 O O O) Y ?_;rintro _ _ ⟨rfl,a3,p3⟩;have X:=(Sat.order [2,0,1,3] bl p3.join).aH.nn;exact .j<|.U Y<|.U Y ⟨(k+1,a3,bits++gx (x+1-z8 l k),v2,q++[(x,I bits)]),⟨If some (If (Value.I) a4u),Y,Y,Y,Y,Y,Y,trivial⟩,⟨X,O,by rw[ye p,H],by rw[NB p Q,d,H],se⟩,wv⟩
  refine .k<|.h<|.a 3 Y (.nu Y Y O O)<|.z 1 Y<|have A2:=o.tail.oc [1,2,0,3] 2;.c 0 (E2 _ _ _ _ _ bits (x+1-z8 l k) A2 O O O) Y ?_;rintro _ _ ⟨rfl,a4,p4⟩;have a0:=(Sat.order [2,0,1,3] bl p4.join).aH.nn;exact .j<|.U Y<|.U Y ⟨(k+1,a4,bits++gx (x+1-z8 l k),sv,q),⟨If some (If (Value.I) a4u),Y,Y,Y,Y,Y,Y,trivial⟩,⟨a0,O,by rw[ye p,H],by rw[NC Q,d],se⟩,wv⟩
 refine .aq<|.h<|.c 3 (qB _ _ (aI bits) _ (o.cell (i:=1) (j:=0) Y Y) (o.aj 2 Y) a3v) Y λ r5 _ h5=>have A:=(o.ay h5).nn;.cp 1 A (xX _ (I bits) _ (A.cell (i:=1) (j:=1) Y Y)) Y λ _ D=>.st 2 D 0 Y (h1:=(D.aj 4 Y).ae) λ _ a1 _=>.st 2 a1 0 Y λ _ u _=>have u:=u.nn;.j<|.Z Y<|.bK Y Y Y ?_;have a2:=(Sat.order [0,4,3,1,2] bl u.tail).aH.pk [0,1,2];rw[show k=I l by omega,XH]at H;rw[show k=I l by omega]at d;subst H d;exact⟨_,_,_,Y,a2⟩
def Aa(l:List Nat){a b:Nat}(h:a<=b):I (cE 0 (J a l))<=I (cE 0 (J b l)):=by
 have e:J b l=J a l++ww a (J b l):=by
  have H:=XV a (J b l);rw[take_take,Y5 h]at H;exact H.symm
 rw[e,sN,AT];omega
def IE{l:List Nat}(h:OkP l){k:Nat}{x y:Nat×Nat}(w:1<=k)(q:(iL l (I l))[k]? =some x)(r:(iL l (I l))[k-1]? =some y):y.1<=x.1/\y.2<=x.2/\x.1<4096/\x.2<=200000:=by
 obtain⟨rfl,H⟩:=qn l _ _ _ q;obtain⟨rfl,d⟩:=qn l _ _ _ r;have g:l.getD (16*k) 0=l[16*k]:=getD_some (py H);have j:l.getD (16*(k-1)) 0=l[16*(k-1)]:=getD_some (py d);have t:=YJ.1 h.asc (16*(k-1)) (16*k) d H O;have A:=h.lt _ (a0m H);have i:=lu (J (16*k) l) 0 λ p o=>h.lt p (XX o);have u:=h.len;rw[Xo]at i;exact⟨by rw[g,j];omega,Aa l O,by rw[g];exact A,a0H⟩
def Rq(l:List Nat):List Nat:=uv (I l)++uv (I (cE 0 l))++aI (cE 0 l)
def IF{s:List (Nat×Nat)}{k:Nat}{x y:Nat×Nat}(g:1<=k)(H:s[k]? =some x)(d:s[k-1]? =some y):sO s (k+1)=sO s k++uv (x.1-y.1)++uv (x.2-y.2):=by
 rw[sO,Xn O,KV,KV,H,d]<;>rfl
def tB(g:Nat)(bv sv:Value)(l:List Nat)(w:World)(h0:w.cell? ⟨g,0,none⟩=some (.I (I l:Int)))(h1:w.cell? ⟨g,1,none⟩=some (.I (I (cE 0 l):Int)))(h2:w.cell? ⟨g,2,none⟩=some bv)(t:w.cell? ⟨g,3,none⟩=some sv)(T:RdL w bv t1 (aI (cE 0 l)))(H:RdL w sv tA (iL l (I l)))(K:OkP l):
  CallsV prog 144 [(.P g)] w λ r w'=>Sat w [cL r 5 t1 (aQ (oK l))] w':=by
 refine cd func144 Y λ u=>.W Y<|have a4:=K.len;have a2:=lu l 0 K.lt;have a5:=aO (cE 0 l);have a0:=lx l (I l);have b3:=aF (I l);have b4:=aF (I (cE 0 l));.r<|.a 3 Y (.load ca Y (u.E _ _ h0))<|.c 1 (dM Value.N ([]) (I l) _ (RdL.nil _ _) bw O) Y λ r1 _ P=>have W:=u.ay P;.Z Y<|.h<|.a 4 Y (.load ca Y (W.E _ _ h1))<|.c 1 (dM r1 (uv (I l)) (I (cE 0 l)) _ (W.aj 0 Y) O O) Y λ r2 _ Q=>have s2:=W.ay Q;.Z Y<|.h<|.a 4 Y (.load vq Y (s2.E _ _ h2))<|.ap 0 s2 1 (T.E s2.E) Y (h1:=se) (h2:=se) λ v1 _ s3 _=>.W Y<|.V Y<|.lq [0] Y (α:=Nat×Value×List Nat) (λ(k,q,A)=>[(3,q),(4,(.I k))]) (λ(k,q,A) w'=>Sat w [cL q 5 t1 A] w'/\(1<=k)/\(k<=I (iL l (I l))\/k=1)/\(A=Rq l++sO (iL l (I l)) k)/\(I A<=40000+20*k)) (λ(k,q,A)=>I (iL l (I l))+1-k) (1,v1,uv (I l)++uv (I (cE 0 l))++aI (cE 0 l)) ⟨s3.pick [1] Y,KM _,O,by simp[Rq,sO],hJ⟩ ?_;rintro⟨k,q,A⟩ b5 ⟨E,hk,a3,o,a1⟩;refine .s<|.h<|.a 4 Y (.load qs Y (E.E _ _ t))<|.ln 0 (H.E E.E) Y<|.Z Y<|.ab Y (λ c1=>?_) λ c1=>?_
 ·refine .q<|.s ?_;obtain⟨x,p⟩:=ut (iL l (I l)) k c1;obtain⟨y,N⟩:=ut (iL l (I l)) (k-1) O;obtain⟨a6,a9,b1,b2⟩:=IE K hk p N;refine .dk [0] E Y (pl [0,1,2,3,4,5,6,7,8,9,10,11,12,13,14,15,16,17,18,19,1020,21] .fin) λ s6 d=>.z 4 d Y<|.e Y (λ _ s=>.load qs Y (s.E _ _ t)) d<|.ix 1 d (H.E ·.E) Y<|.fl 0 d (H.E ·.E) Y<|.lf 0 d (H.E ·.E) p Y<|.z 3 d Y<|.e Y (λ _ s=>.load qs Y (s.E _ _ t)) d<|.ix 2 d (H.E ·.E) Y<|.fl 0 d (H.E ·.E) Y<|.lf 0 d (H.E ·.E) N Y<|.c 2 d (dM q A (x.1-y.1) _ (s6.aj 0 Y) O O) Y λ r3 _ R=>have s7:=s6.ay R;have S2:=s7.pk [0];⟨S2,?_⟩;refine .Z S2 Y<|.dk [0,1] s7 Y (pl [0,1,2,3,4,5,6,7,8,9,10,11,12,13,14,15,16,17,18,19,1020,21] .fin) λ s8 i=>.z 4 i Y<|.e Y (λ _ s=>.load qs Y (s.E _ _ t)) i<|.ix 1 i (H.E ·.E) Y<|.fl 0 i (H.E ·.E) Y<|.lf 0 i (H.E ·.E) p Y<|.z 3 i Y<|.e Y (λ _ s=>.load qs Y (s.E _ _ t)) i<|.ix 2 i (H.E ·.E) Y<|.fl 0 i (H.E ·.E) Y<|.lf 0 i (H.E ·.E) N Y<|.c 2 i (dM r3 (A++uv (x.1-y.1)) (x.2-y.2) _ (s8.aj 1 Y) (by have h8:=aF (x.1-y.1);rw[AT];omega) O) Y λ r4 _ h4=>have s9:=s8.ay h4;have S4:=s9.pk [0,1];⟨S4,?_⟩;exact .Z S4 Y<|.trim [0,3,4] Y<|.U Y<|aP (k+1,r4,A++uv (x.1-y.1)++uv (x.2-y.2)) ⟨s9.pk [2],O,O,by rw[IF hk p N,o];simp only[KW],by have h8:=aF (x.1-y.1);have h9:=aF (x.2-y.2);simp only[AT];omega⟩
 refine .aq<|.s ?_;have j:A=oK l:=by
  rw[o];unfold oK Rq;rcases Yv (I (iL l (I l))) with e|e
  ·rw[e,show k=1 by omega]<;>rfl
  rw[show k=I (iL l (I l)) by omega]
 refine .r<|.c 1 (sq _ A _ (E.aj 0 Y) (λ x p=>jQ l x (by rw[<-j];exact p)) (by rw[j];have:=ly K;omega)) Y λ r5 _ h5=>have X:=E.ay h5;.Z Y<|.ax Y Y ?_;have D:=X.pk [1];rw[j]at D;exact D
def Uv{l:List Nat}(h:OkP l){k x:Nat}(H:l[k]? =some x):LI (aI (cE 0 l)) (I (cE 0 (J k l))) (x+1-z8 l k)/\I (cE 0 (J k l))+I (gx (x+1-z8 l k))=I (cE 0 (J (k+1) l))/\I (cE 0 (J (k+1) l))<=I (cE 0 l):=by
 have g:=za h H;have i:=h.lt x (a8 H);have e:=ye H;have d:=Aa l (show k+1<=I l from b8 H);rw[XH]at d;have E:cE 0 l=cE 0 (J k l)++(gx (x+1-z8 l k)++cE (SY 0 (J (k+1) l)) (ww (k+1) l)):=by
  rw[<-KW,<-e,<-sN,XV]
 refine⟨?_,by rw[e,AT],d⟩;rw[E];exact LK _ _ O O
def ND(v:Value)(b l:List Nat)(w:World)(hv:RdL w v t1 b)(a1:I b<=1000000)(t:J ((I (cE 0 l)+7)/8) b=aI (cE 0 l))(u:I (cE 0 l)<=8*I b)(g:OkP l):
  CallsV prog 169 [v,(.I (I (cE 0 l):Nat)),(.I (I l))] w λ r W=>∃ T,r= .tuple #[T,.bool true]/\Sat w [cL T 3 un l] W:=by
 refine cd func169 Y λ j=>.W Y<|have a3:=g.len;have a2:=lu l 0 g.lt;have i:=aO (cE 0 l);have y:=j0 (cE 0 l);.r<|.c 2 (kK _ b (I (cE 0 l)) _ (hv.E j.E) u O) Y ?_;rintro _ _ ⟨R,E,rfl,p1⟩;have s1:=j.ay p1;refine .W Y<|.Z Y<|.ak Y (IN bw)<|.k<|.Z Y<|.W Y<|.V Y<|have N:=s1.aC 3 un;.lq [8,22] Y (α:=Nat×Nat×Value×List Nat) (λ(k,ps,q,o)=>[(10,q),(11,(.I (((z8 l k:Nat):Int)-1))),(23,(.I k))]) (λ(k,ps,q,o) W=>Sat w (N.U [(0,ai R 327 [E,(.I (I (cE 0 l):Nat)),(.I ps)]),(2,cL q 3 un o)]) W/\(k<=I l)/\(ps=I (cE 0 (J k l)))/\(o=J k l)) (λ(k,ps,q,o)=>I l-k) (0,0,.N,[]) ⟨N,KD _,Y,Y⟩ ?_;rintro⟨k,ps,q,o⟩ a6 ⟨P,hk,d,H⟩;refine .W Y<|.ab Y (λ K=>?_) λ K=>?_
 ·refine .q<|.s ?_;obtain⟨x,p⟩:=ut l k K;obtain⟨A,D,a4⟩:=Uv g p;have a5:=g.lt x (a8 p);have a0:=za g p;refine .r<|.z 1 Y<|have X:=P.tail.oc [0,1,2] 2;.c 0 (Nx _ _ _ _ _ (J ((I (cE 0 l)+7)/8) b) (I (cE 0 l)) ps (x+1-z8 l k) X (by rw[t];exact y) (by rw[t,i];omega) (by rw[t,i];omega) O O (by rw[d];omega) (by rw[t,d];exact A)) Y ?_;rintro _ _ ⟨rfl,p2⟩;have s4:=(Sat.order [0,1,2] bl p2.join).aH.nn;refine .W Y<|.s<|.bM 35 ((0≠0)\/(2147483648<(x+1-z8 l k))) ?_ ?_
  ·refine .M Y (by simp[])
  exact .ak Y (IN cf)<|.k<|.h<|.a 3 Y (.add Y Y en)<|.Z Y<|.weaken [(8,_),(10,_),(11,(.I x)),(12,_),(13,_),(22,_),(23,_),(25,_),(26,_),(27,_),(28,_),(29,_),(36,_),(37,_),(38,_),(39,_)] ⟨Y,Y,If some (If (Value.I) O),Y,Y,Y,Y,Y,Y,Y,Y,Y,Y,Y,Y,Y,trivial⟩<|.r<|.b 2 Y (.bS un x bc Y s4 Y λ v1 _ Q _=>.ap 0 Q 2 (Q.aj 3 Y) Y (h1:=by rw[H];simp;omega) (h2:=by rw[H];simp;omega) λ v2 _ s6 _=>.Z Y<|.U Y ⟨(k+1,(ps+I (gx (x+1-z8 l k))),v2,o++[x]),⟨Y,If some (If (Value.I) a4u),Y,Y,Y,trivial⟩,⟨s6.pk [0,1,2],O,by rw[d];exact D,by rw[ao p,H]⟩,wv⟩)
 refine .aq<|.Z Y<|.bK Y Y Y ?_;rw[show k=I l by omega,XH]at H;subst H;exact⟨_,Y,P.pk [2]⟩
end Go.Proofs.YtcgidfgdbhihbaaGreatDoor
namespace Go.Kw
def Rr:∀ c,c<128->∀ b,b<2->((c+128*b)|||128)=c+128:=a1O
def E9:∀ (l:List Nat) (i v x k:Nat),(∀ y∈l,y<256)->i<=9->C8 i v l=(x,k,0)->∃ y t,l=pM (9-i) y++t/\x=v+y*2^(7*i)/\k=i+I (pM (9-i) y)/\(0<i->0<y)/\(y<2^(64-7*i))
 |[],i,v,x,k,_,_,h=>by simp[C8]at h
 |c::r,i,v,x,k,hb,hi,h=>by
  have X:c<256:=hb c (Yp ..);rw[C8]at h;split at h
  ·simp at h
  ·rename_i h9
   split at h
   ·rename_i h128
    split at h
    ·simp at h
    ·rename_i h0
     simp only[XO,a2c]at h;have N:c%2^7=c:=XN O;have p:∀ f,pM f c=[c%2^8]:=λ f=>by unfold pM;cases f<;>simp[h128]
     have D:c%2^8=c:=XN O;refine⟨c,r,by rw[p,D];rfl,by rw[<-h.1,N],by rw[p,<-h.2];rfl,λ P=>by omega,?_⟩;by_cases e:i=9
     ·have:c=1:=Yx λ d=>h9 ⟨e,d⟩;subst e;subst this;decide
     ·have W:2^7<=2^(64-7*i):=Y1 bl O;omega
   ·rename_i h128
    have K:i<9:=by
     rcases XI i 9 with j|j
     ·exact j
     ·exact absurd ⟨O,O⟩ h9
    obtain⟨y,t,E,q,w,A,T⟩:=E9 r (i+1) _ x k (λ y Q=>hb y (Ya _ Q)) O h;have R:=A O;have H:c%2^7=c-128:=O
    have g:¬ (c-128+128*y)<128:=O
    have u:pM (9-i) (c-128+128*y)=c::pM (9-(i+1)) y:=by
     rw[show 9-i=(9-(i+1))+1 by omega,pM,Xn g];have hd:(c-128+128*y)/2^7=y:=O
     have o:(c-128+128*y)%2^8=(c-128)+128*(y%2):=O
     rw[hd,o,Rr (c-128) O (y%2) O,Nat.sub_add_cancel O]
    refine⟨c-128+128*y,t,by rw[u,E];rfl,?_,by rw[u,w,No];omega,λ _=>by omega,?_⟩
    ·rw[q,H,Yc,YG];congr 2;rw[show 7*(i+1)=7+7*i by omega,a0h,ZN 128 y,Zd]
    ·have P:2^(64-7*i)=2^7*2^(64-7*(i+1)):=by rw[<-a0h];congr 1;omega
     omega
def NF{l:List Nat}(k:∀ y∈l,y<256)(h:(iJ l).2.2=0):l=uv (iJ l).1++l.drop (iJ l).2.1/\(iJ l).1<2^64:=by
 obtain⟨y,r,d,g,i,_,j⟩:=E9 l 0 0 (iJ l).1 (iJ l).2.1 k bl (ZR Y (ZR Y h));have H:(iJ l).1=y:=by rw[g];simp
 have o:(iJ l).2.1=I (uv y):=by rw[i,XU];rfl
 refine⟨?_,by rw[H];exact j⟩;rw[H,o];have E:l=uv y++r:=d
 conv=>lhs;rw[E]
 rw[E,a2s]
