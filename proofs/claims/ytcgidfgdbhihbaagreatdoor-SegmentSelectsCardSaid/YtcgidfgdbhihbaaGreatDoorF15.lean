/-The walks of the functions of F15,printed by our own program (kwgen.py) out of our descriptions (base.py). -/
import Derived.Test.YtcgidfgdbhihbaaGreatDoorMst
import Derived.Test.YtcgidfgdbhihbaaGreatDoorF02
import Derived.Test.YtcgidfgdbhihbaaGreatDoorM15u
open List renaming length→I,take→J,drop→ww
set_option linter.all false
set_option maxHeartbeats 2000000
set_option maxRecDepth 100000
open Go.Proofs.YtcgidfgdbhihbaaGreatDoor
open List
open Go.Proofs.Tryz
namespace Go.Proofs.YtcgidfgdbhihbaaGreatDoor
open Go.RowKit Go.Kw
def Gh(v:Value)(l:List Nat)(w:World)(d:RdL w v un l)(t:I l<=128)(p:∀ x∈l,x<=2147483647):
  CallsV prog 280 [v] w λ r W=>r= .I 0/\Sat w [] W:=by
 refine cd func280 Y λ H=>.W Y<|.h<|.ln 1 (d.E H.E) Y<|.Z Y<|.ak Y (IN O)<|.p<|.h<|.ln 1 (d.E H.E) Y<|.V Y<|.lq [8,9] Y (α:=Nat) (λ k=>[(10,(.I k))]) (λ k W=>Sat w [] W/\(k<=I l)) (λ k=>I l-k) 0 ⟨H,KD _⟩ ?_;rintro k u ⟨g,q⟩;refine .W Y<|.ab Y (λ j=>?_) λ j=>?_
 ·refine .q<|.s ?_;obtain⟨x,o⟩:=ut l k j;refine .r<|.ix 0 (d.E g.E) Y<|.le 0 (d.E g.E) o Y<|.W Y<|.bM 19 ((x<0)\/(2147483647<x)) ?_ ?_
  ·refine .z 3 Y<|.B 16 Y (λ i=>?_) λ i=>?_
   ·refine .M Y a0V
   refine .M Y a0V
  exact .ak Y (IN (by have:=p x (a8 o);omega))<|.k<|.U Y<|aP (k+1) ⟨g,O⟩
 exact .aq<|.Z Y<|.ax Y Y ⟨Y,g⟩
def jW(x:Nat)(w:World)(i:x<2^63):
  CallsV prog 336 [(.I x)] w λ r W=>r= .I ((jA x:Nat):Int)/\Sat w [] W:=by
 exact cd func336 Y λ H=>.W Y<|have g:=bitLen_le64 x;.r<|.cp 2 H (oO x _ O) Y λ _ d=>.e Y (.HQ (b:=1) Y Y)<|.a 1 Y (.quo (b:=7) Y Y O en)<|.Z Y<|.ax Y Y ⟨Y,d⟩
def Nk(v:Value)(l:List Nat)(W:Nat)(w:World)(g:RdL w v un l)(Q:I l<=4096)(K:∀ x∈l,x<2^63)(hw:W<=31):
  CallsV prog 317 [v,(.I W)] w λ r p=>r= .I ((jB W l:Nat):Int)/\Sat w [] p:=by
 refine cd func317 Y λ H=>.Z Y<|.W Y<|.h<|.ln 1 (g.E H.E) Y<|.V Y<|.lq [0,1,11,12] Y (α:=Nat×Nat×Nat×Nat) (λ(k,n,c,b)=>[(5,(.I n)),(6,(.I c)),(7,(.I (((b:Nat):Int)-1))),(13,(.I k))]) (λ(k,n,c,b) p=>Sat w [] p/\(k<=I l)/\(gw W (J k l)=(k,n,c,b))/\(n<=20*k)/\(c<=k)/\(b<=k)) (λ(k,n,c,b)=>I l-k) (0,0,0,0) ⟨H,KD _,Y,KM _,KM _,KM _⟩ ?_;rintro⟨k,n,c,b⟩ w1 ⟨d,hk,t,R,P,N⟩;refine .W Y<|.ab Y (λ q=>?_) λ q=>?_
 ·refine .q<|.s ?_;obtain⟨x,i⟩:=ut l k q;refine .r<|.ix 1 (g.E d.E) Y<|.le 0 (g.E d.E) i Y<|.W Y<|have D:=K x (a8 i);have T:=Yn x (2^W);.U Y<|.Z Y<|.ab Y (λ j=>?_) λ j=>?_
  ·exact .s<|have u:=fU (k+1-b);have y:=fU (x/2^W);.r<|.a 3 Y (.nu Y Y O O)<|.cp 0 d (jW (k+1-b) _ O) Y λ _ X=>.cp 1 X (jW (x/2^W) _ O) Y λ _ s3=>.Z Y<|.Z Y<|.U Y<|.U Y ⟨(k+1,(n+((jA (k+1-b))+(jA (x/2^W)))),(c+1),k+1),⟨Y,Y,If some (If (Value.I) O),Y,Y,Y,Y,Y,trivial⟩,⟨s3,O,by rw[ao i,mu,t];simp[mr,j],a3r,O,O⟩,wv⟩
  exact .k<|.U Y<|aP (k+1,n,c,b) ⟨d,O,by rw[ao i,mu,t];simp[mr,j],a3r,O,O⟩
 refine .aq<|.s<|have A:I l*W<=4096*31:=a1t Q hw;have h1:=fU (I l);have h2:=fU W;have h3:=fU c;.r<|.ln 2 (g.E d.E) Y<|.cp 0 d (jW (I l) _ O) Y λ _ s4=>.cp 2 s4 (jW W _ O) Y λ _ s5=>.cq 2 s5 (jW c _ O) Y λ _ E=>.ln 2 (g.E E.E) Y<|.a 3 Y (.quo (b:=8) Y Y O en)<|.Z Y<|.ax Y Y ?_;have o:k=I l:=O
 refine⟨?_,E⟩;unfold jB;rw[show gw W l=(k,n,c,b) by rw[<-t,o,XH]]
def Gi(v:Value)(l:List Nat)(W:Nat)(w:World)(H:RdL w v un l)(hn:I l<=4096)(hb:∀ x∈l,x<2^63)(hw:W<=31):
  CallsV prog 281 [v,(.I W)] w λ r T=>Sat w [cL r 5 t1 (jC W l)] T:=by
 refine cd func281 Y λ N=>.Z Y<|.h<|.c 0 (kI _) Y ?_;rintro _ _ ⟨b1,rfl,p1⟩;have s1:=N.ay p1;refine .Z Y<|.Z Y<|.W Y<|.h<|.ln 1 (H.E s1.E) Y<|.V Y<|have s2:=s1.aC 5 t1;.lq [0,1,5,14,15] Y (α:=Nat×Value×List Bool×Value×List Nat×Nat×Nat) (λ(k,q,bits,ev,E,c,b)=>[(6,ev),(7,(.I c)),(8,(.I (((b:Nat):Int)-1))),(16,(.I k))]) (λ(k,q,bits,ev,E,c,b) T=>Sat w [ai b1 312 [q,(.I (I bits:Nat))],cL q 5 t1 (aI bits),cL ev 5 t1 E] T/\(k<=I l)/\(dH W (J k l)=(k,bits,E,c,b))/\(I bits<=31*k)/\(I E<=20*k)/\(c<=k)/\(b<=k)) (λ(k,q,bits,ev,E,c,b)=>I l-k) (0,.N,[],.N,[],0,0) ⟨s2,KD _,Y,bw,bw,KM _,KM _⟩ ?_;rintro⟨k,q,bits,ev,E,c,b⟩ b3 ⟨p,hk,t,a2,a4,a3,a1⟩;refine .W Y<|.ab Y (λ X=>?_) λ X=>?_
 ·refine .q<|.s ?_;obtain⟨x,y⟩:=ut l k X;refine .r<|.ix 1 (H.E p.E) Y<|.le 0 (H.E p.E) y Y<|.W Y<|have a0:=hb x (a8 y);have b2:=Yn x (2^W);have a5:1<=2^W:=Nat.one_le_two_pow;have a6:2^W<=2^31:=Y1 bl hw;.r<|.a 5 Y (.Q3 (b:=1) Y Y Y ey ey)<|.e Y (.MF W Y Y Y (by simp only[IntKind.bits];rw[Z0,XN O]) a0S a0S)<|.z 1 Y<|have A1:=p.tail.oc [0,1,2] 2;.c 0 (zy _ _ _ _ _ bits (x%2^W) W A1 (Zp _ O) O O) Y ?_;rintro _ _ ⟨rfl,u,p2⟩;have R:=(Sat.order [0,1,2] bl p2.join).aH.nn;refine .j<|.Z Y<|.Z Y<|.ab Y (λ A=>?_) λ A=>?_
  ·exact .h<|.a 3 Y (.nu Y Y O O)<|.c 1 (dM ev E (k+1-b) _ (R.aj 2 Y) O O) Y λ r3 _ D=>have s5:=R.ay D;.Z Y<|.h<|.c 3 (dM r3 (E++uv (k+1-b)) (x/2^W) _ (s5.aj 3 Y) (by have h8:=aF (k+1-b);simp only[AT];omega) O) Y λ r4 _ h4=>have s6:=s5.ay h4;.Z Y<|.Z Y<|.U Y<|.trim [0,1,5,6,7,8,9,10,11,14,15,16] Y<|.U Y ⟨(k+1,u,bits++aY (x%2^W) W,r4,E++uv (k+1-b)++uv (x/2^W),(c+1),k+1),⟨Y,Y,If some (If (Value.I) O),Y,Y,Y,Y,Y,Y,trivial⟩,⟨s6.pk [0,1,4],O,by rw[ao y,fA,t];simp[et,A],a0A,LS,O,O⟩,wv⟩
  exact .k<|.U Y<|aP (k+1,u,bits++aY (x%2^W) W,ev,E,c,b) ⟨R,O,by rw[ao y,fA,t];simp[et,A],a0A,LS,O,O⟩
 refine .aq<|.s ?_;have a9:=aO bits;have h1:=aF (I l);have h2:=aF W;have h3:=aF c;refine .r<|.ln 1 (H.E p.E) Y<|.c 1 (dM Value.N ([]) (I l) _ (RdL.nil _ _) bw O) Y λ r5 _ h5=>?_;have s8:=p.ay h5;refine .Z Y<|.h<|.c 3 (dM r5 (uv (I l)) W _ (s8.aj 3 Y) O O) Y λ r6 _ h6=>?_;have s9:=(s8.ay h6).nn;refine .Z Y<|.h<|.c 3 (dM r6 (uv (I l)++uv W) c _ (s9.aj 4 Y) hJ O) Y λ r7 _ h7=>?_;have d:=s9.ay h7;refine .Z Y<|.h<|.c 2 (qB _ _ (aI bits) _ (d.cell (i:=0) (j:=0) Y Y) (d.aj 1 Y) O) Y λ r8 _ K=>?_;have g:=d.ay K;refine .ap 0 g 5 (g.aj 6 Y) Y (h1:=hJ) (h2:=hJ) λ v1 _ o _=>.ap 1 o 5 (o.aj 2 Y) Y (h1:=hJ) (h2:=hJ) λ v2 _ P _=>.Z Y<|.ax Y Y ?_;have Q:=(P.pk [5]).bp 0 Y (show uv (I l)++uv W++uv c++aI bits++E=jC W l from a1X);exact Q
def Nl(v:Value)(l:List Nat)(w:World)(hv:RdL w v un l)(hn:I l<=4096)(X:∀ x∈l,x<2^63):
  CallsV prog 282 [v] w λ r W=>r= .I ((dR l 32:Nat):Int)/\Sat w [] W:=by
 refine cd func282 Y λ K=>.Z Y<|.h<|.al 0 K Y λ Q w1 s1 _ _=>.j<|.W Y<|.V Y<|have s2:Sat w [ai Q 384 (un.all (List.replicate 32 0))] w1:=s1;.lq [0,3] Y (α:=Nat×Nat×List Nat) (λ(k,g,j)=>[(4,(.I g)),(6,(.I k))]) (λ(k,g,j) W=>Sat w [ai Q 384 (un.all j)] W/\(k<=32)/\(I j=32)/\(∀ i,i<k->j[i]? =some (jB i l))/\(g=dR l k)) (λ(k,g,j)=>32-k) (0,0,List.replicate 32 0) ⟨s2,O,bw,λ i D=>absurd D O,Y⟩ ?_;rintro⟨k,g,j⟩ a0 ⟨N,hk,p,t,o⟩;refine .W Y<|.ab Y (λ T=>?_) λ T=>?_
 ·refine .q<|.Z Y<|.h<|.cp 3 N (Nk _ l k _ (hv.E N.E) hn X O) Y λ _ s4=>.e Y (.dU DK Y Y O)<|.f Y (.setArr (E:=a7 .i64) (a:=(jB k l)) 0 dB s4 Y Y Y Y O λ _ P _=>have P:=P.nn;.j<|.s ?_);have H:(j.set k (jB k l))[k]? =some (jB k l):=by rw[Yi O]
  have u:(j.set k (jB k l))[g]? =some (jB g l):=by
   by_cases y:g=k
   ·rw[y];exact H
   rw[Zn (λ h=>y h.symm)];exact t g (by have:=j7 l k;omega)
  refine .dk [0] P Y (pl [0,1,2,3,4,5,6] .fin) λ R q=>.z 1 q Y<|.e Y (λ _ s=>.dU DK Y Y O) q<|.e Y (λ _ s=>.load ca Y (s.sS (E:=a7 .i64) 0 Y H bl Y)) q<|.z 1 q Y<|.e Y (λ _ s=>.dU DK Y Y (by have:=j7 l k;omega)) q<|.e Y (λ _ s=>.load ca Y (s.sS (E:=a7 .i64) 0 Y u bl Y)) q<|.Z q Y<|.ab Y (λ A=>?_) λ A=>?_
  ·refine .U Y<|.U Y ?_;exact aP (k+1,k,j.set k (jB k l)) ⟨R,O,a0P,λ i D=>by
   by_cases d:i=k
   ·rw[d];exact H
   ·rw[Zn (λ h=>d h.symm)];exact t i O,by rw[dR,<-o];simp[A]⟩
  refine .k<|.U Y ?_;exact aP (k+1,g,j.set k (jB k l)) ⟨R,O,a0P,λ i D=>by
   by_cases d:i=k
   ·rw[d];exact H
   ·rw[Zn (λ h=>d h.symm)];exact t i O,by rw[dR,<-o];simp[A]⟩
 refine .aq<|.Z Y<|.ax Y Y ?_;rw[show k=32 by omega]at o;rw[<-o];exact⟨Y,N.pk []⟩
def DZ(v:Value)(l:List Nat)(w:World)(g:RdL w v un l)(q:I l<=128)(i:∀ x∈l,x<=2147483647):
  CallsV prog 240 [v] w λ r W=>∃ o,r= .tuple #[o,.I 0]/\Sat w [cL o 5 t1 (bQ l)] W:=by
 refine cd func240 Y λ d=>.s ?_;have H:∀ x∈l,x<2^63:=λ x t=>by have:=i x t;omega
 exact .U Y<|.s<|.h<|.cp 1 d (Gh _ l _ (g.E d.E) q i) Y λ _ j=>.Z Y<|.Z Y<|.ak Y Y<|.k<|.h<|.cp 2 j (Nl _ l _ (g.E j.E) O H) Y λ _ k=>.c 0 (Gi _ l (dR l 32) _ (g.E k.E) O H (by have:=j7 l 32;omega)) Y λ R _ p=>have u:=(k.ay p).nn;.Z Y<|.bK Y Y Y ⟨_,Y,u⟩
def bk:Enc It:=⟨4,λ x=>[.I (x.w:Int),.I x.sym,.I (x.lf:Int),.I (x.rt:Int)],λ _=>Y,λ x u h=>by simp at h;rcases h with rfl|rfl|rfl|rfl<;>rfl⟩
def zR{α:Type}{l:List α}{i j:Nat}{x y z:α}(H:l[i]? =some x)(d:l[j]? =some y)(h:z∈(l.set i y).set j x):z∈l:=by
 rcases YT h with h|rfl
 ·rcases YT h with h|rfl
  ·exact h
  exact Xs d
 exact Xs H
def wH{α:Type}(P:Program)(i:FuncId)(cap:Array Value)(val:α->Value)(key:α->Nat)(D:α->Prop)(d:World)(cs:List Chunk):Prop:=
 ∀ c w,Sat d ([c]++cs) w->∀ a b,D a->D b->CallsV P i ([val a,val b]++cap.toList) w λ r W=>∃ z:Int,r= .I z/\(z<0↔key a<key b)/\Sat w [] W
def wI{α:Type}{key:α->Nat}{l:List α}{n:Nat}(j:n=I l):ew key 0 l (n-0-1)=bN key l:=by
 obtain⟨i,H,d,g⟩:=Lm (key:=key) [] l [] (a:=0) (n:=n-0-1) Y O;simp only[YW,Yr]at H;rw[H];exact kg d g
def Uq(W w:World)(cs:List Chunk)(v:Value)(l:List It)(a b:Nat)(key:It->Nat)(D:It->Prop)(R:FuncId)(cap:Array Value)(hE:Enters prog R)(N:wH prog R cap bk.ag key D W cs)(hs:Sat W ([cL v 351 bk l]++cs) w)(hD:∀ x∈l,D x)(ha:a<=I l)(hb:b<=I l)(hn:I l<=1000000000000):
  CallsV prog 346 [v,(.I a),(.I b),(.func (.func R) #[] cap)] w λ r g=>r= .tuple #[]/\Sat W ([cL v 351 bk (ew key a l (b-a-1))]++cs) g:=by
 refine aa func346 Y Y<|.V Y<|.lq [0,1,2,3] Y (α:=Nat) (λ k=>[(8,(.I ((a+k+1):Nat)))]) (λ k g=>Sat W ([cL v 351 bk (ew key a l k)]++cs) g/\(k=0\/a+k+1<=b)/\(∀ x∈ew key a l k,D x)) (λ k=>b-k) 0 ⟨hs,.inl Y,hD⟩ ?_;rintro k w1 ⟨s1,hk,X⟩;refine .s<|.Z Y<|.ab Y (λ c1=>?_) λ c1=>?_
 ·refine .q<|.V Y<|.lq [0,1,2,3,8] Y (α:=Nat×List It) (λ(j,d)=>[(9,(.I j))]) (λ(j,d) g=>Sat W ([cL v 351 bk d]++cs) g/\(j<=a+k+1)/\(nA key a j d=nA key a (a+k+1) (ew key a l k))/\(I d=I l)/\(∀ x∈d,D x)) (λ(j,d)=>j) (a+k+1,ew key a l k) ⟨s1,KM _,Y,mh ..,X⟩ ?_;rintro⟨j,d⟩ a5 ⟨s2,hj,H,a0,q⟩;refine .s<|.s ?_;obtain⟨x,t⟩:=ut d j O;obtain⟨y,u⟩:=ut d (j-1) O;refine .md [0,1,2,3,8,9] Y (λ K L' g=>Weak ([(34,(.bool (decide ((a<j)/\(key x<key y)))))]++K) L'/\Sat W s2.L g) ?_ ?_
  ·refine .draw (λ g=>Sat W ([cL v 351 bk d]++cs) g) (pl [0,1,2,3,4,5,6,7,8,9,10,11,12,13,1014,15,16] .fin) mixed F<|have p:=s2.drew;.z 4 p Y<|.B 21 Y (λ T=>?_) λ T=>?_
   ·refine .ix 3 p (·.aj 0 Y) Y<|.lg 0 p (·.aj 0 Y) t Y<|.ix 3 p (·.aj 0 Y) Y<|.lg 0 p (·.aj 0 Y) u Y<|.b 0 p Y (.kD hE Y Y ((N _ _ p x y (q _ (a8 t)) (q _ (a8 u))).mono ?_));rintro _ _ ⟨z1,rfl,a2,p1⟩;have s4:Sat W ([cL v 351 bk d]++cs) _:=(p.ay p1).sR;have Q:Sat W ([_]++cs) _:=s4.sub (.cons_cons _ (.refl _));refine⟨Q,?_⟩;exact .a 0 Q Y (λ _ s=>.MC Y Y a2)<|.Z Q Y ⟨⟨If some (If Value.bool a3i),Y,Y,Y,Y,Y,Y,trivial⟩,s4⟩
   exact .Z p Y ⟨⟨If some (If Value.bool a3i),Y,Y,Y,Y,Y,Y,trivial⟩,p⟩
  rintro L' a4 ⟨a1,s5⟩;refine .weaken _ a1<|.ab Y (λ P=>?_) λ P=>?_
  ·refine .q<|have o:=(s5.aj (E:=bk) 0 Y).gY bl;.FA (λ g=>Sat W ([cL v 351 bk d]++cs) g) (λ g=>Sat W ([]++cs) g) 15 (pl [0,1] (.loose 2 (.loose 3 (.loose 4 (pl [5,6,7,8,9] (.loose 10 (.loose 11 (.loose 12 (pl [13,14] (.bar 15 (pl [16,1017] .fin))))))))))) (λ g h=>h.sub (.cons _ (.refl _))) mixed F<|have i:=s5.drew;.z 2 i Y<|.loose Y Y Y (λ _ s=>.move Y) i<|.loose Y Y Y (λ _ s=>.move Y) i<|.loose Y Y Y (λ _ s=>.PQ (b:=1) Y Y O O) i<|.ix 3 i (·.aj 0 Y) Y<|.lg 0 i (·.aj 0 Y) u Y<|.loose Y Y Y (λ _ s=>.move Y) i<|.loose Y Y Y (λ _ s=>.move Y) i<|.loose Y Y Y (λ _ s=>.lK rU Y Y o O) i<|.lg 0 i (·.aj 0 Y) t Y<|.ix 0 i (·.aj 0 Y) Y<|.bar Y Y Y (OpE.DO (a:=y) 0 Ma i Y Y Y uT bl λ _ s7 _=>have S2:Sat W ([]++cs) _:=s7.sub (.cons _ (.refl _));⟨S2,?_⟩);refine .e Y (λ _ s=>.lK rU Y Y o O) S2<|.f Y (.DO (a:=x) 0 Ma s7 Y Y Y uT bl λ _ s8 _=>have S3:Sat W ([]++cs) _:=s8.sub (.cons _ (.refl _));⟨S3,?_⟩);exact .fin<|.U Y<|aP (j-1,(d.set j y).set (j-1) x) ⟨s8,O,by rw[<-H,yU P t u],by simp only[Xt];exact a0,λ z hz=>q z (zR t u hz)⟩
  refine .aq ?_;have A:∀ x∈ew key a l (k+1),D x:=by rw[show ew key a l (k+1)=d from((kj P t u).symm.trans H).symm];exact q
  have s9:Sat W ([cL v 351 bk (ew key a l (k+1))]++cs) a4:=by
   have hq:d=ew key a l (k+1):=(kj P t u).symm.trans H;rw[<-hq];exact s5
  exact .U Y<|aP (k+1) ⟨s9,.inr O,A⟩
 refine .aq ?_;show aE _ _ _ _ _ _;refine cr Y ?_;have a3:Sat W ([cL v 351 bk (ew key a l (b-a-1))]++cs) w1:=by
  have hq:ew key a l k=ew key a l (b-a-1):=by rw[show k=b-a-1 by omega]
  rw[<-hq];exact s1
 exact⟨Y,a3⟩
def Ur(W w:World)(cs:List Chunk)(v:Value)(l:List It)(n:Nat)(key:It->Nat)(D:It->Prop)(i:FuncId)(cap:Array Value)(E:Enters prog i)(p:wH prog i cap bk.ag key D W cs)(j:Sat W ([cL v 351 bk l]++cs) w)(o:∀ x∈l,D x)(H:n=I l)(K:I l<=16):
  CallsV prog 337 [v,(.I n),(.func (.func i) #[] cap)] w λ r d=>r= .tuple #[]/\Sat W ([cL v 351 bk (bN key l)]++cs) d:=by
 refine aa func337 Y Y<|.Z Y<|.W Y<|.l<|.lq [0,1,2,6,7,8,10] Y (α:=Unit) (λ _=>[]) (λ _ d=>Sat W j.L d) (λ _=>0) () j ?_;rintro _ N t;refine .s<|.Z Y<|.ak Y (IN O)<|.aq<|.h<|.z 4 Y<|have A:Sat W ([cL v 351 bk l]++([]++cs)) _:=(Sat.order [0] bl t).cut 1;.c 0 (Uq W _ cs v l 0 n key D i cap E p A o (KD _) O O) Y ?_;rintro _ _ ⟨rfl,P⟩;have k:Sat W ([cL v 351 bk (ew key 0 l (n-0-1))]++cs) _:=P;refine .j<|.l<|.lq [0,1,2,6,7,8,10,11,12,23,24,25,26,27] Y (α:=Unit) (λ _=>[]) (λ _ d=>Sat W k.L d) (λ _=>0) () k ?_;rintro _ g u;refine .s<|.Z Y<|.ak Y (IN O)<|.aq ?_;show aE _ _ _ _ _ _;refine cr Y ?_;have y:Sat W ([cL v 351 bk (bN key l)]++cs) g:=by
  have q:ew key 0 l (n-0-1)=bN key l:=wI H;rw[<-q];exact u
 exact⟨Y,y⟩
def Q9(W w:World)(cs:List Chunk)(v:Value)(l:List It)(key:It->Nat)(D:It->Prop)(i:FuncId)(cap:Array Value)(E:Enters prog i)(p:wH prog i cap bk.ag key D W cs)(H:Sat W ([cL v 351 bk l]++cs) w)(d:∀ x∈l,D x)(g:I l<=16):
  CallsV prog 318 [v,(.func (.func i) #[] cap)] w λ r k=>r= .tuple #[]/\Sat W ([cL v 351 bk (bN key l)]++cs) k:=by
 refine aa func318 Y Y<|.r<|.ln 2 (H.aj 0 Y) Y<|.z 1 Y<|have A:Sat W ([cL v 351 bk l]++([]++cs)) _:=(Sat.order [0] bl H).cut 1;.c 0 (Ur W _ cs v l (I l) key D i cap E p A d Y g) Y ?_;rintro _ _ ⟨rfl,P⟩;have j:Sat W ([cL v 351 bk (bN key l)]++cs) _:=P;refine .j ?_;show aE _ _ _ _ _ _;exact cr Y ⟨Y,j⟩
def Us(W w:World)(cs:List Chunk)(v:Value)(l:List Nat)(a b:Nat)(key:Nat->Nat)(D:Nat->Prop)(R:FuncId)(cap:Array Value)(hE:Enters prog R)(N:wH prog R cap (λ x:Nat=>Value.I (x:Int)) key D W cs)(hs:Sat W ([cL v 3 un l]++cs) w)(hD:∀ x∈l,D x)(ha:a<=I l)(hb:b<=I l)(hn:I l<=1000000000000):
  CallsV prog 289 [v,(.I a),(.I b),(.func (.func R) #[] cap)] w λ r g=>r= .tuple #[]/\Sat W ([cL v 3 un (ew key a l (b-a-1))]++cs) g:=by
 refine aa func289 Y Y<|.V Y<|.lq [0,1,2,3] Y (α:=Nat) (λ k=>[(8,(.I ((a+k+1):Nat)))]) (λ k g=>Sat W ([cL v 3 un (ew key a l k)]++cs) g/\(k=0\/a+k+1<=b)/\(∀ x∈ew key a l k,D x)) (λ k=>b-k) 0 ⟨hs,.inl Y,hD⟩ ?_;rintro k w1 ⟨s1,hk,X⟩;refine .s<|.Z Y<|.ab Y (λ c1=>?_) λ c1=>?_
 ·refine .q<|.V Y<|.lq [0,1,2,3,8] Y (α:=Nat×List Nat) (λ(j,d)=>[(9,(.I j))]) (λ(j,d) g=>Sat W ([cL v 3 un d]++cs) g/\(j<=a+k+1)/\(nA key a j d=nA key a (a+k+1) (ew key a l k))/\(I d=I l)/\(∀ x∈d,D x)) (λ(j,d)=>j) (a+k+1,ew key a l k) ⟨s1,KM _,Y,mh ..,X⟩ ?_;rintro⟨j,d⟩ a5 ⟨s2,hj,H,a0,q⟩;refine .s<|.s ?_;obtain⟨x,t⟩:=ut d j O;obtain⟨y,u⟩:=ut d (j-1) O;refine .md [0,1,2,3,8,9] Y (λ K L' g=>Weak ([(34,(.bool (decide ((a<j)/\(key x<key y)))))]++K) L'/\Sat W s2.L g) ?_ ?_
  ·refine .draw (λ g=>Sat W ([cL v 3 un d]++cs) g) (pl [0,1,2,3,4,5,6,7,8,9,10,11,12,13,1014,15,16] .fin) mixed F<|have p:=s2.drew;.z 4 p Y<|.B 21 Y (λ T=>?_) λ T=>?_
   ·refine .ix 3 p (·.aj 0 Y) Y<|.le 0 p (·.aj 0 Y) t Y<|.ix 3 p (·.aj 0 Y) Y<|.le 0 p (·.aj 0 Y) u Y<|.b 0 p Y (.kD hE Y Y ((N _ _ p x y (q _ (a8 t)) (q _ (a8 u))).mono ?_));rintro _ _ ⟨z1,rfl,a2,p1⟩;have s4:Sat W ([cL v 3 un d]++cs) _:=(p.ay p1).sR;have Q:Sat W ([_]++cs) _:=s4.sub (.cons_cons _ (.refl _));refine⟨Q,?_⟩;exact .a 0 Q Y (λ _ s=>.MC Y Y a2)<|.Z Q Y ⟨⟨If some (If Value.bool a3i),Y,Y,Y,Y,Y,Y,trivial⟩,s4⟩
   exact .Z p Y ⟨⟨If some (If Value.bool a3i),Y,Y,Y,Y,Y,Y,trivial⟩,p⟩
  rintro L' a4 ⟨a1,s5⟩;refine .weaken _ a1<|.ab Y (λ P=>?_) λ P=>?_
  ·refine .q<|have o:=(s5.aj (E:=a7 .i64) 0 Y).gY bl;.FA (λ g=>Sat W ([cL v 3 un d]++cs) g) (λ g=>Sat W ([]++cs) g) 15 (pl [0,1] (.loose 2 (.loose 3 (.loose 4 (pl [5,6,7,8,9] (.loose 10 (.loose 11 (.loose 12 (pl [13,14] (.bar 15 (pl [16,1017] .fin))))))))))) (λ g h=>h.sub (.cons _ (.refl _))) mixed F<|have i:=s5.drew;.z 2 i Y<|.loose Y Y Y (λ _ s=>.move Y) i<|.loose Y Y Y (λ _ s=>.move Y) i<|.loose Y Y Y (λ _ s=>.PQ (b:=1) Y Y O O) i<|.ix 3 i (·.aj 0 Y) Y<|.le 0 i (·.aj 0 Y) u Y<|.loose Y Y Y (λ _ s=>.move Y) i<|.loose Y Y Y (λ _ s=>.move Y) i<|.loose Y Y Y (λ _ s=>.lK bc Y Y o O) i<|.le 0 i (·.aj 0 Y) t Y<|.ix 0 i (·.aj 0 Y) Y<|.bar Y Y Y (OpE.dJ (a:=y) 0 dB i Y Y Y Y uT λ _ s7 _=>have S2:Sat W ([]++cs) _:=s7.sub (.cons _ (.refl _));⟨S2,?_⟩);refine .e Y (λ _ s=>.lK bc Y Y o O) S2<|.f Y (.dJ (a:=x) 0 dB s7 Y Y Y Y uT λ _ s8 _=>have S3:Sat W ([]++cs) _:=s8.sub (.cons _ (.refl _));⟨S3,?_⟩);exact .fin<|.U Y<|aP (j-1,(d.set j y).set (j-1) x) ⟨s8,O,by rw[<-H,yU P t u],by simp only[Xt];exact a0,λ z hz=>q z (zR t u hz)⟩
  refine .aq ?_;have A:∀ x∈ew key a l (k+1),D x:=by rw[show ew key a l (k+1)=d from((kj P t u).symm.trans H).symm];exact q
  have s9:Sat W ([cL v 3 un (ew key a l (k+1))]++cs) a4:=by
   have hq:d=ew key a l (k+1):=(kj P t u).symm.trans H;rw[<-hq];exact s5
  exact .U Y<|aP (k+1) ⟨s9,.inr O,A⟩
 refine .aq ?_;show aE _ _ _ _ _ _;refine cr Y ?_;have a3:Sat W ([cL v 3 un (ew key a l (b-a-1))]++cs) w1:=by
  have hq:ew key a l k=ew key a l (b-a-1):=by rw[show k=b-a-1 by omega]
  rw[<-hq];exact s1
 exact⟨Y,a3⟩
def Ut(W w:World)(cs:List Chunk)(v:Value)(l:List Nat)(n:Nat)(key:Nat->Nat)(D:Nat->Prop)(i:FuncId)(cap:Array Value)(E:Enters prog i)(p:wH prog i cap (λ x:Nat=>Value.I (x:Int)) key D W cs)(j:Sat W ([cL v 3 un l]++cs) w)(o:∀ x∈l,D x)(H:n=I l)(K:I l<=16):
  CallsV prog 339 [v,(.I n),(.func (.func i) #[] cap)] w λ r d=>r= .tuple #[]/\Sat W ([cL v 3 un (bN key l)]++cs) d:=by
 refine aa func339 Y Y<|.Z Y<|.W Y<|.l<|.lq [0,1,2,6,7,8,10] Y (α:=Unit) (λ _=>[]) (λ _ d=>Sat W j.L d) (λ _=>0) () j ?_;rintro _ N t;refine .s<|.Z Y<|.ak Y (IN O)<|.aq<|.h<|.z 4 Y<|have A:Sat W ([cL v 3 un l]++([]++cs)) _:=(Sat.order [0] bl t).cut 1;.c 0 (Us W _ cs v l 0 n key D i cap E p A o (KD _) O O) Y ?_;rintro _ _ ⟨rfl,P⟩;have k:Sat W ([cL v 3 un (ew key 0 l (n-0-1))]++cs) _:=P;refine .j<|.l<|.lq [0,1,2,6,7,8,10,11,12,23,24,25,26,27] Y (α:=Unit) (λ _=>[]) (λ _ d=>Sat W k.L d) (λ _=>0) () k ?_;rintro _ g u;refine .s<|.Z Y<|.ak Y (IN O)<|.aq ?_;show aE _ _ _ _ _ _;refine cr Y ?_;have y:Sat W ([cL v 3 un (bN key l)]++cs) g:=by
  have q:ew key 0 l (n-0-1)=bN key l:=wI H;rw[<-q];exact u
 exact⟨Y,y⟩
def Uu(W w:World)(cs:List Chunk)(v:Value)(l:List Nat)(key:Nat->Nat)(D:Nat->Prop)(i:FuncId)(cap:Array Value)(E:Enters prog i)(p:wH prog i cap (λ x:Nat=>Value.I (x:Int)) key D W cs)(H:Sat W ([cL v 3 un l]++cs) w)(d:∀ x∈l,D x)(g:I l<=16):
  CallsV prog 325 [v,(.func (.func i) #[] cap)] w λ r k=>r= .tuple #[]/\Sat W ([cL v 3 un (bN key l)]++cs) k:=by
 refine aa func325 Y Y<|.r<|.ln 2 (H.aj 0 Y) Y<|.z 1 Y<|have A:Sat W ([cL v 3 un l]++([]++cs)) _:=(Sat.order [0] bl H).cut 1;.c 0 (Ut W _ cs v l (I l) key D i cap E p A d Y g) Y ?_;rintro _ _ ⟨rfl,P⟩;have j:Sat W ([cL v 3 un (bN key l)]++cs) _:=P;refine .j ?_;show aE _ _ _ _ _ _;exact cr Y ⟨Y,j⟩
def Nn(a b:It)(w:World)(k:a.w<2^62)(l:b.w<2^62):
  CallsV prog 319 [((bk).ag a),((bk).ag b)] w λ r W=>∃ z:Int,r= .I z/\(z<0↔a.w<b.w)/\Sat w [] W:=cd func319 Y λ H=>.h<|.bx 0 H Y λ i _ g _ _=>.bx 0 g Y λ j _ d _ _=>.Z Y<|.h<|.ld 1 d 0 Y<|.ld 1 d 1 Y<|.e Y (.sub Y Y en)<|.Z Y<|.ax Y Y ⟨_,Y,O,d.pk []⟩
def Np(a b:It)(w:World)(k:a.w<2^62)(l:b.w<2^62):
  CallsV prog 321 [((bk).ag a),((bk).ag b)] w λ r W=>∃ z:Int,r= .I z/\(z<0↔a.w<b.w)/\Sat w [] W:=cd func321 Y λ H=>.h<|.bx 0 H Y λ i _ g _ _=>.bx 0 g Y λ j _ d _ _=>.Z Y<|.h<|.ld 1 d 0 Y<|.ld 1 d 1 Y<|.e Y (.sub Y Y en)<|.Z Y<|.ax Y Y ⟨_,Y,O,d.pk []⟩
def Gj(v:Value)(c:List Nat)(w:World)(g:RdL w v un c)(u:I c<=8)(q:∀ x∈c,x<=4096):
  CallsV prog 283 [v,(.I (15:Nat))] w λ r W=>r= .I 0/\Sat w [] W:=by
 refine cd func283 Y λ H=>.W Y<|.l<|.s<|.bM 8 ((15<1)\/(15<15)) ?_ ?_
 ·refine .M Y (by simp[])
 refine .ak Y (IN O)<|.h<|.ln 1 (g.E H.E) Y<|.Z Y<|.ak Y (IN O)<|.k<|.W Y<|.h<|.ln 1 (g.E H.E) Y<|.V Y<|.lq [1,19,20] Y (α:=Nat×Nat) (λ(k,p)=>[(5,(.I p)),(21,(.I k))]) (λ(k,p) W=>Sat w [] W/\(k<=I c)/\(p<=k)) (λ(k,p)=>I c-k) (0,0) ⟨H,KD _,KM _⟩ ?_;rintro⟨k,p⟩ A ⟨d,t,y⟩;refine .W Y<|.ab Y (λ j=>?_) λ j=>?_
 ·refine .q<|.s ?_;obtain⟨x,l⟩:=ut c k j;refine .r<|.ix 0 (g.E d.E) Y<|.le 0 (g.E d.E) l Y<|.W Y<|.s<|.bM 30 ((x<0)\/(4096<x)) ?_ ?_
  ·refine .z 3 Y<|.B 27 Y (λ i=>?_) λ i=>?_
   ·refine .M Y a0V
   refine .M Y a0V
  refine .ak Y (IN (by have:=q x (a8 l);omega))<|.k<|.Z Y<|.ab Y (λ o=>?_) λ o=>?_
  ·exact .U Y<|.U Y<|aP (k+1,(p+1)) ⟨d,O,O⟩
  exact .k<|.U Y<|aP (k+1,p) ⟨d,O,O⟩
 exact .aq<|.s<|.h<|.a 2 Y (.Mq (a:=1) (b:=15) Y Y O O)<|.Z Y<|.ak Y (IN O)<|.k<|.Z Y<|.ax Y Y ⟨Y,d⟩
def zS(v:Value)(l:List Nat)(w:World)(o:RdL w v un l)(E:I l<=8):
  CallsV prog 255 [v] w λ r W=>r= .bool (ei l)/\Sat w [] W:=by
 refine cd func255 Y λ g=>.W Y<|.h<|.ln 1 (o.E g.E) Y<|.Z Y<|.ak Y (IN O)<|.k<|.W Y<|.h<|.ln 1 (o.E g.E) Y<|.V Y<|.lq [9,10] Y (α:=Nat×Nat) (λ(k,s)=>[(3,(.I s)),(11,(.I k))]) (λ(k,s) W=>Sat w [] W/\(k<=I l)/\(s=jK (J k l))/\(s<=k*2^14)/\(∀ x∈J k l,x<=15)) (λ(k,s)=>I l-k) (0,0) ⟨g,KD _,Y,KD _,bw⟩ ?_;rintro⟨k,s⟩ K ⟨j,D,d,y,H⟩;refine .W Y<|.ab Y (λ t=>?_) λ t=>?_
 ·refine .q<|.s ?_;obtain⟨x,i⟩:=ut l k t;refine .r<|.ix 0 (o.E j.E) Y<|.le 0 (o.E j.E) i Y<|.W Y<|.s<|.bM 20 ((x<0)\/(15<x)) ?_ ?_
  ·refine .z 3 Y<|.B 17 Y (λ q=>?_) λ q=>?_
   ·refine .M Y a2F
   refine .M Y a2F
  refine .ab Y (λ u=>?_) λ u=>?_
  ·exact .Z Y<|.ax Y Y ⟨by rw[uN (a8 i) O],j⟩
  refine .k<|.Z Y<|.ab Y (λ p=>?_) λ p=>?_
  ·have A:2^(15-x)<=2^14:=Y1 bl O;exact .r<|.a 3 Y (.Mq (a:=1) Y Y O O)<|.Z Y<|.U Y<|aP (k+1,(s+(1*2^(15-x)))) ⟨j,O,a1N,O,all_take H i O⟩
  exact .k<|.U Y<|aP (k+1,s) ⟨j,O,a1N,O,all_take H i O⟩
 refine .aq<|.Z Y<|.ax Y Y ?_;rw[show k=I l by omega,XH]at d H;exact⟨by rw[xH H,d],j⟩
def Ir(v:Value)(l:List It)(w:World)(d:RdL w v bk l)(j:I l<=1000000)(h0:0<I l):
  CallsV prog 320 [v] w λ r W=>Sat w [cL r 351 bk l] W:=cd func320 Y λ H=>.W Y<|.h<|.a 1 Y (.U9 underlying348 Y Y (RdL.gY (E:=bk) (d.E H.E) bl) O)<|.j<|.ak Y Y<|.k<|.h<|.f Y (.wu bk rU H λ k _ g _=>.ap 1 g 0 (d.E g.E) Y λ o _ i _=>.Z Y<|.ax Y Y<|i)
def zT(v:Value)(c:List Nat)(w:World)(j:RdL w v un c)(hn:I c<=8)(y:∀ x∈c,x<=4096):
  CallsV prog 284 [v] w λ r W=>Sat w [cL r 351 bk (leaves c)] W:=by
 refine cd func284 Y λ H=>.Z Y<|.W Y<|.h<|.ln 1 (j.E H.E) Y<|.V Y<|have D:=H.aC 351 bk;.lq [6,7] Y (α:=Nat×Value) (λ(k,o)=>[(3,o),(8,(.I k))]) (λ(k,o) W=>Sat w [cL o 351 bk (aR 0 (J k c))] W/\(k<=I c)) (λ(k,o)=>I c-k) (0,.N) ⟨D,KD _⟩ ?_;rintro⟨k,o⟩ w1 ⟨g,X⟩;refine .W Y<|.ab Y (λ p=>?_) λ p=>?_
 ·refine .q<|.s ?_;obtain⟨x,d⟩:=ut c k p;refine .r<|.ix 1 (j.E g.E) Y<|.le 0 (j.E g.E) d Y<|.Z Y<|.Z Y<|.ab Y (λ i=>?_) λ i=>?_
  ·have l:=fp (J k c) 0;rw[Xo]at l;refine .r<|.a 3 Y (.build QP Y ⟨Y,Y,trivial⟩ Y)<|.f Y (.bO bk (⟨x,k,0,0⟩:It) rU bl bl g Y λ v1 _ q _=>?_);refine .ap 0 q 0 (q.aj 1 Y) Y λ T _ E _=>?_;refine .Z Y<|.U Y ?_;have K:=(E.pk [0]).bp 0 Y (show aR 0 (J k c)++[(⟨x,k,0,0⟩:It)]=aR 0 (J (k+1) c)from a4J);exact aP (k+1,T) ⟨K,O⟩
  exact .k<|.U Y<|have N:=g.bp 0 Y (show aR 0 (J k c)=aR 0 (J (k+1) c)from a4J);aP (k+1,o) ⟨N,O⟩
 refine .aq<|.s<|have Q:=g.bp 0 Y (show aR 0 (J k c)=aR 0 c from by rw[show k=I c by omega,XH]);.r<|.z 1 Y<|have A:=Q.tail.oc [0] 1;.c 0 (Q9 w _ _ o (aR 0 c) It.w (λ x:It=>x.w<2^62) 319 #[] TJ (λ _ w _ a b t u=>Nn a b w t u) A (λ x d=>by have:=y _ (l5 _ _ x d).1;show x.w<2^62;omega) (by have:=fp c 0;omega)) Y ?_;rintro _ _ ⟨rfl,P⟩;have R:=(Sat.order [0] bl P.join).aH.nn;exact .j<|.Z Y<|.ax Y Y<|R
def Nq(a b g:Nat)(v:Value)(l:List Nat)(w:World)(q:w.cell? ⟨g,0,none⟩=some v)(H:RdL w v un l)(p:∀ x∈l,x<2^62)(t:a<I l)(i:b<I l):
  CallsV prog 326 [(.I a),(.I b),(.P g)] w λ r W=>∃ z:Int,r= .I z/\(z<0↔l.getD a 0<l.getD b 0)/\Sat w [] W:=by
 refine cd func326 Y λ j=>.W Y ?_;obtain⟨x,k⟩:=ut l a t;obtain⟨y,o⟩:=ut l b i;have A:=p x (a8 k);have D:=p y (a8 o);exact .dk [] j Y (pl [0,1,2,3,4,5,6,7,8,9] .fin) λ u d=>.e Y (λ _ s=>.load gy Y (s.E _ _ q)) d<|.ix 1 d (H.E ·.E) Y<|.le 0 d (H.E ·.E) k Y<|.e Y (λ _ s=>.load gy Y (s.E _ _ q)) d<|.ix 1 d (H.E ·.E) Y<|.le 0 d (H.E ·.E) o Y<|.e Y (λ _ s=>.sub Y Y en) d<|.Z d Y<|.ax Y Y ⟨_,Y,by rw[KV,KV,k,o];simp only[YZ];omega,u.pk []⟩
def ti(v:Value)(l:List Nat)(w:World)(g:RdL w v un l)(hn:I l<=8)(T:∀ x∈l,x<2^62):
  CallsV prog 299 [v] w λ r W=>Sat w [cL r 3 un (ba l)] W:=by
 refine cd func299 Y λ H=>.h<|.bx 0 H Y λ D w1 K _ _=>?_;have d:Sat w [ai D 22 [v]] w1:=by
  have t:=cells_one ((g.E H.E).ae);rw[t]at K;exact K
 refine .Z Y<|.W Y<|.h<|.ld 0 d 0 Y<|.ln 0 (g.E d.E) Y<|.V Y<|have N:=d.aC 3 un;.lq [1,6,7] Y (α:=Nat×Value) (λ(k,o)=>[(3,o),(8,(.I k))]) (λ(k,o) W=>Sat w (N.U [(1,cL o 3 un (bH 0 (J k l)))]) W/\(k<=I l)) (λ(k,o)=>I l-k) (0,.N) ⟨N,KD _⟩ ?_;rintro⟨k,o⟩ a0 ⟨q,hk⟩;refine .W Y<|.ab Y (λ E=>?_) λ E=>?_
 ·refine .q<|.s ?_;obtain⟨x,p⟩:=ut l k E;refine .r<|.ix 1 (g.E q.E) Y<|.le 0 (g.E q.E) p Y<|.Z Y<|.Z Y<|.ab Y (λ u=>?_) λ u=>?_
  ·have A:=gG (J k l) 0;rw[Xo]at A;refine .r<|.b 2 Y (.bS un k bc Y q Y λ v1 _ P _=>?_);refine .ap 0 P 1 (P.aj 2 Y) Y λ v2 _ s5 _=>?_;refine .Z Y<|.U Y ?_;have s6:=(s5.pk [0,1]).bp 1 Y (show bH 0 (J k l)++[k]=bH 0 (J (k+1) l)from a4K);exact aP (k+1,v2) ⟨s6,O⟩
  exact .k<|.U Y<|have s7:=q.bp 1 Y (show bH 0 (J k l)=bH 0 (J (k+1) l)from a4K);aP (k+1,o) ⟨s7,O⟩
 refine .aq<|.s<|have s8:=q.bp 1 Y (show bH 0 (J k l)=bH 0 l from a4r);.r<|.a 1 Y (.kE Y)<|have Q:=s8.tail.oc [1,0] 1;.c 0 (Uu w _ _ o (bH 0 l) (au l) (λ i=>i<I l) 326 #[(.P D)] TL (λ _ W t a b R y=>Nq a b _ v l W (t.cell (i:=1) (j:=0) Y Y) (g.E t.E) T R y) Q (λ x p=>by have:=l6 _ _ x p;omega) (by have:=gG l 0;omega)) Y ?_;rintro _ _ ⟨rfl,X⟩;have s9:=(Sat.order [1,0] bl X.join).aH.nn;exact .j<|.Z Y<|.ax Y Y<|s9.pk [1]
def tj(v:Value)(l:List Nat)(w:World)(t:RdL w v un l)(hn:I l<=8)(hb:∀ x∈l,x<=15):
  CallsV prog 286 [v] w λ r W=>Sat w [cL r 102 t2 (dn l)] W:=by
 refine cd func286 Y λ E=>.W Y<|have a3:=iF l;.r<|.ln 1 (t.E E.E) Y<|.f Y (.df t2 0 Fx Y E Y Y O O O λ v1 _ s1 _=>.Z Y<|.W Y<|.h<|.c 1 (ti _ l _ (t.E s1.E) hn (λ x q=>by have:=hb x q;omega)) Y λ r1 _ h1=>have Q:=s1.ay h1;.ln 0 (Q.aj 1 Y) Y<|.V Y<|.lq [0,3,12,13] Y (α:=Nat×Nat×Nat×List Nat) (λ(k,d,g,i)=>[(4,(.int .u64 d)),(5,(.I g)),(14,(.I k))]) (λ(k,d,g,i) W=>Sat w (Q.U [(0,cL v1 102 t2 i)]) W/\(k<=I (ba l))/\(fz l (J k (ba l))=(k,d,g,i))/\(d<2^64)/\(I i=I l)/\(∀ j y,k<=j->(ba l)[j]? =some y->g<=au l y)) (λ(k,d,g,i)=>I (ba l)-k) (0,0,0,List.replicate (I l) 0) ⟨Q,KD _,Y,O,bw,λ _ _ _ _=>KD _⟩ ?_);rintro⟨k,d,g,i⟩ a4 ⟨o,hk,u,a2,D,A⟩;refine .W Y<|.ab Y (λ X=>?_) λ X=>?_
 ·refine .q<|.s ?_;obtain⟨x,q⟩:=ut (ba l) k X;have N:=km l x (a8 q);obtain⟨n,H⟩:=ut l x N.1;have p:au l x=n:=by simp[au,KV,H]
  have a1:=A k x (KM _) q;have a0:=hb n (a8 H);refine .r<|.ix 1 (o.aj 1 Y) Y<|.le 0 (o.aj 1 Y) q Y<|.W Y<|.Z Y<|.ab Y (λ K=>?_) λ K=>?_
  ·exact .r<|.a 1 Y (.PX (b:=1) Y Y Y)<|.ix 2 (t.E o.E) Y<|.le 0 (t.E o.E) H Y<|.Z Y<|.r<|.ix 5 (t.E o.E) Y<|.le 0 (t.E o.E) H Y<|.ix 0 (o.aj 0 Y) Y<|.f Y (.dJ (a:=(((d+1)%2^64)*2^(n-g)%2^64)) 0 mD o Y Y Y Y O λ _ R _=>have R:=R.nn;.Z Y<|.U Y<|aP (k+1,(((d+1)%2^64)*2^(n-g)%2^64),n,i.set x (((d+1)%2^64)*2^(n-g)%2^64)) ⟨R,O,a3T,O,by simp only[Xt];exact D,λ j y hj P=>by rw[<-p];exact(ct _).get O q P⟩)
  exact .k<|.r<|.ix 5 (t.E o.E) Y<|.le 0 (t.E o.E) H Y<|.ix 0 (o.aj 0 Y) Y<|.f Y (.dJ (a:=d) 0 mD o Y Y Y Y O λ _ T _=>have T:=T.nn;.Z Y<|.U Y<|aP (k+1,d,n,i.set x d) ⟨T,O,a3T,O,by simp only[Xt];exact D,λ j y hj P=>by rw[<-p];exact(ct _).get O q P⟩)
 refine .aq<|.Z Y<|.ax Y Y ?_;have s7:=(o.pk [0]).bp 0 Y (show i=dn l from by unfold dn;rw[show ba l=J k (ba l) by rw[show k=I (ba l) by omega,XH],u]);exact s7
def Nr(v u:Value)(l b:List It)(W:Nat)(w:World)(hv:RdL w v bk l)(g:RdL w u bk b)(hn:I l<=8)(a1:0<I l)(a0:I b<=16)(N:∀ x∈l,x.w<=W)(i:∀ x∈b,x.w<=W)(hW:W<=2^50):
  CallsV prog 285 [v,u] w λ r Q=>Sat w [cL r 351 bk (kq l b)] Q:=by
 refine cd func285 Y λ j=>.Z Y<|.h<|.c 1 (Ir _ l _ (hv.E j.E) O O) Y λ r1 _ A=>have s1:=j.ay A;.W Y<|.V Y<|have s2:=s1.bp 0 Y (show l=l++bB 0 (J (2*0) b)from by simp[bB]);.lq [1] Y (α:=Nat×Value) (λ(q,o)=>[(5,o),(6,(.I ((2*q):Nat)))]) (λ(q,o) Q=>Sat w [cL o 351 bk (l++bB 0 (J (2*q) b))] Q/\(2*q<=I b)) (λ(q,o)=>I b-2*q) (0,r1) ⟨s2,KD _⟩ ?_;rintro⟨q,o⟩ a2 ⟨p,hq⟩;refine .s<|.h<|.ln 3 (g.E p.E) Y<|.Z Y<|.ab Y (λ c1=>?_) λ c1=>?_
 ·refine .q ?_;obtain⟨x,H⟩:=ut b (2*q) O;obtain⟨y,P⟩:=ut b ((2*q)+1) O;have h1:=i x (a8 H);have h2:=i y (a8 P);have D:=fQ 0 (J (2*q) b);rw[Xo]at D;have K:=(p.aj (E:=bk) 0 Y).gY bl;refine .dk [] p Y (pl [0,1,2,3,4,5,6,7,8,9,10,11,12,13,14,15,16,1017,1018,19] .fin) λ s4 d=>.ix 3 d (g.E ·.E) Y<|.fl 0 d (g.E ·.E) Y<|.lf 0 d (g.E ·.E) H Y<|.ix 3 d (g.E ·.E) Y<|.fl 0 d (g.E ·.E) Y<|.lf 0 d (g.E ·.E) P Y<|.z 4 d Y<|.e Y (λ _ s=>.build QP Y ⟨Y,Y,Y,Y,trivial⟩ Y) d<|.f Y (.bO bk (⟨x.w+y.w,-1,2*q,2*q+1⟩:It) rU bl bl s4 Y λ v1 _ k _=>have k:=k.nn;have X:=k.pk [];⟨X,?_⟩);refine .f Y (.aD 0 rU k Y Y Y underlying348 (k.aj 1 Y) cf cf λ v2 _ t _=>have t:=t.pk [0];have R:=t.pk [];⟨R,?_⟩);exact .Z R Y<|.U Y<|have s7:=t.bp 0 Y (show l++bB 0 (J (2*q) b)++[(⟨x.w+y.w,-1,2*q,2*q+1⟩:It)]=l++bB 0 (J (2*(q+1)) b)from by rw[uO q 0 b x y H P];simp);aP (q+1,v2) ⟨s7,O⟩
 refine .aq<|.s<|have s8:=p.bp 0 Y (show l++bB 0 (J (2*q) b)=l++bB 0 b from by rw[xI q 0 b O]);.r<|.z 1 Y<|have T:=s8.tail.oc [0] 1;.c 0 (Q9 w _ _ o (l++bB 0 b) It.w (λ x:It=>x.w<2^62) 321 #[] TK (λ _ w _ a b ha hb=>Np a b w ha hb) T (λ x H=>by show x.w<2^62;rcases XE.1 H with H|H;(have:=N x H;omega);(have:=(qX 0 b W i x H).1;omega)) (by rw[AT,fQ];omega)) Y ?_;rintro _ _ ⟨rfl,p2⟩;have s9:=(Sat.order [0] bl p2.join).aH.nn;exact .j<|.Z Y<|.ax Y Y<|s9
def Cs(v:Value)(c:List Nat)(w:World)(hv:RdL w v un c)(hn:I c<=8)(hc:∀ x∈c,x<=4096):
  CallsV prog 241 [v,(.I (15:Nat))] w λ r w'=>∃ v',r= .tuple #[v',.I 0]/\Sat w [cL v' 3 un (cC c)] w':=by
 refine cd func241 Y λ b6=>.W Y<|.h<|.cp 2 b6 (Gj _ c _ (hv.E b6.E) hn hc) Y λ _ s1=>.Z Y<|.Z Y<|.ak Y Y<|.p<|have i3:=ef c;.r<|.ln 1 (hv.E s1.E) Y<|.f Y (.df un 0 bc Y s1 Y Y O O O λ W _ s2 _=>.Z Y<|.h<|.c 1 (zT _ c _ (hv.E s2.E) hn hc) Y λ r2 _ e4=>?_);have s3:=(s2.ay e4).nn;obtain⟨l,b7,g4⟩:=(s3.aj 1 Y).sv;subst b7;refine .W Y<|.h<|.ln 1 (s3.aj 1 Y) Y<|.Z Y<|.ab Y (λ c1=>?_) λ c1=>?_
 ·refine .s<|.h<|.ln 1 (s3.aj 1 Y) Y<|.V Y<|.lq [7,31,32] Y (α:=Nat×List Nat) (λ(q,d)=>[(33,(.I q))]) (λ(q,d) w'=>Sat w (s3.U [(0,cL W 3 un d)]) w'/\(q<=I (leaves c))/\(d=(J q (leaves c)).foldl (λ ls x=>ls.set x.sym.toNat 1) (List.replicate (I c) 0))/\(I d=I c)) (λ(q,d)=>I (leaves c)-q) (0,List.replicate (I c) 0) ⟨s3,KD _,Y,bw⟩ ?_;rintro⟨q,d⟩ k4 ⟨s4,hq,H,a9⟩;refine .W Y<|.ab Y (λ c2=>?_) λ c2=>?_
  ·refine .q<|.s ?_;obtain⟨x,g⟩:=ut (leaves c) q c2;obtain⟨k0,n,a1,g7⟩:=cM c x (a8 g);have i7:=b8 g7;refine .r<|.ix 0 (s4.aj 1 Y) Y<|.lg 0 (s4.aj 1 Y) g Y<|.al 0 s4 Y λ b1 _ s5 _ _=>.sa 0 s5 2 Y ((bk).one _) λ w6 s6 _=>.j ?_;have s7:Sat w [cL W 3 un d,cL l.val 351 bk (leaves c),ai b1 351 [(.I x.w),(.I n),(.I x.lf),(.I x.rt)]] w6:=by have hq:=s6;(try dsimp only[bk]at hq);rw[a1]at hq;exact hq
   exact .r<|.ld 2 s7 2 Y<|.ix 0 (s7.aj 0 Y) Y<|.f Y (.dJ (a:=1) 0 dB s7 Y Y Y Y uT λ _ s8 _=>have s8:=s8.nn;.j<|.U Y<|aP (q+1,d.set n 1) ⟨s8.pk [0,1],O,by rw[ao g,foldl_append,<-H];simp[a1],by simp only[Xt];exact a9⟩)
  refine .aq<|.Z Y<|.bK Y Y Y ?_;have g8:=(s4.pk [0]).bp 0 Y (show d=cC c from by rw[H,show q=I (leaves c) by omega,XH];unfold cC;rw[Xp c1]);exact⟨_,Y,g8⟩
 refine .k<|.h<|.b 1 Y (.bS (bz It) (l,leaves c) Mb Y s3 Y λ v2 i2 g9 _=>?_);refine .W Y<|.V Y ?_;have h0:=(Sat.order [0,2,1] bl g9.tail).aH.pk [0,1,2];have h4:Sat w [cL W 3 un (List.replicate (I c) 0),cL v2 348 (bz It) ([(l,leaves c)]),aZ 351 bk ([]),cL l.val 351 bk (leaves c)] _:=Sat.order [0,1,3,2] bl (h0.sU 164 bk).tail|>.aH;have c8:Sat w [cL W 3 un (List.replicate (I c) 0),cL v2 348 (bz It) ([(l,leaves c)]),aZ 351 bk ([]++[(l,leaves c)])] i2:=Sat.mJ (A:=[cL W 3 un (List.replicate (I c) 0),cL v2 348 (bz It) ([(l,leaves c)]),aZ 351 bk ([])]) h4 2 Y;refine .lq [7,8] Y (α:=Nat×Value×List (SV×List It)) (λ(k,ov,ps)=>[(11,ov),(46,(.I (14:Nat))),(47,(.I k))]) (λ(k,ov,ps) w'=>Sat w (c8.U [(1,cL ov 348 (bz It) ps),(2,aZ 351 bk ps)]) w'/\(k<=14)/\(ps.map Prod.snd=By c (k+1))/\(ps[0]? =some (l,leaves c))) (λ(k,ov,ps)=>14-k) (0,v2,[(l,leaves c)]) ⟨c8,KD _,Y,Y⟩ ?_;rintro⟨k,ov,ps⟩ w9 ⟨o,hk,P,a3⟩;have g2:I ps=k+1:=by have:=If List.length P;simpa[By]using this
 refine .W Y<|.ab Y (λ c3=>?_) λ c3=>?_
 ·refine .q ?_;obtain⟨p,T⟩:=ut ps (I ps-1) O;have D:p.2=lvl c k:=by
   have h1:(ps.map Prod.snd)[k]? =some p.2:=by rw[XF,show k=I ps-1 by omega,T]<;>rfl
   rw[P,Bz c (by omega:k<k+1)]at h1;exact(Y8 h1).symm
  have hW:4096*2^k<=2^50:=by have:2^k<=2^14:=Y1 bl O;omega
  have e2:4096<=4096*2^k:=ZF _ (Yt k);have e7:=j5 c k;have b5:=ef c;refine .r<|.ln 4 (o.aj 1 Y) Y<|.ix 1 (o.aj 1 Y) Y<|.le 0 (o.aj 1 Y) T Y<|.c 0 (Nr _ _ (leaves c) p.2 (4096*2^k) _ (show RdL _ l.val bk (leaves c)from o.bt 2 Y a3) (o.bt 2 Y T) O O (by rw[D];omega) (λ x g=>XL (hc _ (cM c x g).1) e2) (λ x g=>by rw[D]at g;exact Qv c 4096 hc k x g) hW) Y λ r3 _ h3=>?_;have c9:=o.ay h3;obtain⟨R,c0,g5⟩:=(c9.aj 3 Y).sv;subst c0;exact .f Y (.bS (bz It) (R,kq (leaves c) p.2) Mb Y c9 Y λ v3 _ e0 _=>.ap 0 e0 1 (e0.aj 4 Y) Y λ a6 e1 h5 _=>.Z Y<|.U Y<|have h6:Sat w [cL W 3 un (List.replicate (I c) 0),cL a6 348 (bz It) (ps++[(R,kq (leaves c) p.2)]),aZ 351 bk (ps++[(R,kq (leaves c) p.2)])] e1:=Sat.mJ (A:=[cL W 3 un (List.replicate (I c) 0),cL a6 348 (bz It) (ps++[(R,kq (leaves c) p.2)]),aZ 351 bk ps]) (h5.pick [0,1,2,3] Y) 2 Y;aP (k+1,a6,ps++[(R,kq (leaves c) p.2)]) ⟨h6,O,by rw[Y0,P,HE c (k+1),D]<;>rfl,by rw[XK O];exact a3⟩)
 refine .aq<|.s ?_;have b4:k=14:=O
 subst b4;have g2:I ps=15:=by have:=If List.length P;simpa[By]using this
 have b5:=ef c;refine .r<|.ln 1 (show RdL _ l.val bk (leaves c)from o.bt 2 Y a3) Y<|.W Y<|.h<|.ln 1 (o.aj 1 Y) Y<|.V Y<|.lp [7,11] Y (α:=Nat×Nat×List Nat) (λ(K,t,ls)=>[(12,(.I t)),(13,(.I (((K:Nat):Int)-1)))]) (λ(K,t,ls) w'=>Sat w (o.U [(0,cL W 3 un ls)]) w'/\(K<=15)/\(t<=I (lvl c (K-1)))/\(down c K t ls=cC c)/\(I ls=I c)/\(∀ x∈ls,x<=(15-K)*4096)) (λ(K,t,ls)=>K) (15,2*I (leaves c)-2,List.replicate (I c) 0) ⟨If some (If (Value.I) O),If some (If (Value.I) O),Y,Y,trivial⟩ ⟨o,KM _,uP c O O,by unfold cC;rw[Xn c1],bw,λ x g=>by have:=Za g;omega⟩ ?_;rintro⟨K,t,ls⟩ k2 ⟨u,i5,ht,b3,e6,hB⟩;refine .s<|.h<|.a 1 Y (.geq Y Y)<|.j<|.ab Y (λ c4=>?_) λ c4=>?_
 ·refine .q<|.s ?_;obtain⟨j,rfl⟩:∃ j,K=j+1:=⟨K-1,O⟩;refine .weaken [(7,_),(11,_),(12,_),(13,(.I j)),(68,_)] ⟨Y,Y,Y,If some (If (Value.I) O),Y,trivial⟩ ?_;rw[Yh]at ht;obtain⟨p,T⟩:=ut ps j O;have D:p.2=lvl c j:=by
   have h1:(ps.map Prod.snd)[j]? =some p.2:=by rw[XF,T]<;>rfl
   rw[P,Bz c (by omega:j<15)]at h1;exact(Y8 h1).symm
  have a0:t<=I p.2:=by rw[D];exact ht
  have hX:ww 0 (J t p.2)=J t (lvl c j):=by rw[D]<;>rfl
  have e7:=j5 c j;have b5:=ef c;have i4:I (ww 0 (J t p.2))=t:=by simp;omega
  refine .U Y<|.s<|.h<|.ix 2 (u.aj 1 Y) Y<|.le 0 (u.aj 1 Y) T Y<|.a 1 Y (.bg (E:=bk) (a:=0) (c:=t) rU Y (u.bt 2 Y T) Y ⟨_,Y⟩ O a0)<|.ln 0 ((u.bt 2 Y T).sub (a:=0) (b:=t) O a0) Y<|.V Y<|.lq [7,11,13,77,78] Y (α:=Nat×Nat×List Nat) (λ(q,pk,d)=>[(14,(.I pk)),(79,(.I q))]) (λ(q,pk,d) w'=>Sat w (u.U [(0,cL W 3 un d)]) w'/\(q<=I (ww 0 (J t p.2)))/\(d=cu ls (J q (ww 0 (J t p.2))))/\(pk=ku (J q (ww 0 (J t p.2))))/\(I d=I c)/\(∀ x∈d,x<=(15-(j+1))*4096+q)/\(pk<=q)) (λ(q,pk,d)=>I (ww 0 (J t p.2))-q) (0,0,ls) ⟨u,KD _,Y,Y,e6,λ x g=>by have:=hB x g;omega,KM _⟩ ?_;rintro⟨q,pk,d⟩ k3 ⟨a2,hq,H,N,a9,X,i8⟩;refine .W Y<|.ab Y (λ c5=>?_) λ c5=>?_
  ·refine .q<|.s ?_;obtain⟨x,g⟩:=ut (ww 0 (J t p.2)) q c5;have g6:x∈lvl c j:=by have h:=a8 g;rw[hX]at h;exact XX h
   have c7:=Pe c j x g6;have i9:=c5;refine .r<|.ix 0 ((a2.bt 2 Y T).sub (a:=0) (b:=t) O a0) Y<|.lg 0 ((a2.bt 2 Y T).sub (a:=0) (b:=t) O a0) g Y<|.al 0 a2 Y λ b2 _ h7 _ _=>.sa 0 h7 3 Y ((bk).one _) λ i1 a4 _=>.j<|.h<|.ld 1 a4 3 Y<|.e Y (.geq Y Y)<|.j<|.ab Y (λ c6=>?_) λ c6=>?_
   ·obtain⟨n,a1,i6⟩:∃ n:Nat,x.sym=((n:Nat):Int)/\n<I c:=by rcases c7 with h|⟨n,h⟩;(omega);exact⟨n,h⟩
    have Q:Sat w [cL W 3 un d,cL ov 348 (bz It) ps,aZ 351 bk ps,ai b2 351 [(.I x.w),(.I n),(.I x.lf),(.I x.rt)]] i1:=by have hq:=a4;(try dsimp only[bk]at hq);rw[a1]at hq;exact hq
    obtain⟨y,hy⟩:=ut d n O;have k1:=X y (a8 hy);refine .r<|.ld 2 Q 3 Y<|.ix 0 (Q.aj 0 Y) Y<|.le 0 (Q.aj 0 Y) hy Y<|.ix 1 (Q.aj 0 Y) Y<|.f Y (.dJ (a:=(y+1)) 0 dB Q Y Y Y Y uT λ _ a5 _=>?_);have a5:=a5.nn;refine .j<|.U Y ?_;have h8:=(a5.pk [0,1,2]).bp 0 Y (show d.set n (y+1)=cu ls (J (q+1) (ww 0 (J t p.2)))from by rw[ao g,l7,<-H,bump,Xp O,show x.sym.toNat=n by omega,getD_some hy]);exact aP (q+1,pk,cu ls (J (q+1) (ww 0 (J t p.2)))) ⟨h8,O,Y,by rw[ao g,BB,<-N];simp[show¬ x.sym<0 by omega],by rw[cB];omega,a4U,O⟩
   refine .U Y<|.U Y ?_;have h9:=(a4.pk [0,1,2]).bp 0 Y (show d=cu ls (J (q+1) (ww 0 (J t p.2)))from by rw[ao g,l7,<-H,bump,Xn O]);exact aP (q+1,(pk+1),cu ls (J (q+1) (ww 0 (J t p.2)))) ⟨h9,O,Y,by rw[ao g,BB,<-N];simp[show x.sym<0 by omega],by rw[cB];omega,a4U,O⟩
  refine .aq ?_;have g3:q=t:=O
  have e3:J q (ww 0 (J t p.2))=J t (lvl c j):=by rw[g3,hX,Xx cf]
  rw[e3]at H N;have g0:down c j (2*pk) d=cC c:=by rw[N,H,<-b3,down]
  have g1:2*pk<=I (lvl c (j-1)):=by
   cases j with
   |zero=>have h1:=DA (lvl c 0) t;have h2:ku (lvl c 0)=0:=oB c;omega
   |succ i=>rw[Yh,N];exact qY c i t
  have e8:∀ x∈d,x<=(15-j)*4096:=λ x g=>by have:=X x g;omega
  exact .U Y<|.r<|.a 1 Y (.sub (b:=(1:Int)) Y Y en)<|.Z Y ⟨(j,(2*pk),d),(wk Y),⟨a2,O,g1,g0,O,e8⟩,(show(j)<(j+1)from O)⟩
 refine .aq<|.Z Y<|.bK Y Y Y ?_;have e5:K=0:=O
 subst e5;have i0:=(u.pk [0]).bp 0 Y (show ls=cC c from by rw[<-b3]<;>rfl);exact⟨_,Y,i0⟩
def Ct(v u:Value)(l d:List Nat)(w:World)(q:RdL w v un l)(P:RdL w u un d)(hn:I l<=8)(g:ei l=true)(a4:I d<=4096)(X:∀ s∈d,s<I l/\0<au l s):
  CallsV prog 242 [v,u] w λ r w'=>∃ v',r= .tuple #[v',.I (I (cz l d):Int),.I 0]/\Sat w [cL v' 5 t1 (aI (cz l d))] w':=by
 refine cd func242 Y λ D=>.s<|have p:=GoodLens.mH g;.U Y<|.s<|.l<|.h<|.cp 1 D (zS _ l _ (q.E D.E) hn) Y λ _ s1=>.e Y (.cK Y)<|.Z Y<|.ak Y (by rw[g]<;>rfl)<|.h<|.ln 1 (P.E s1.E) Y<|.Z Y<|.ak Y (IN O)<|.k<|.h<|.c 1 (tj _ l _ (q.E s1.E) hn (iQ g)) Y λ r2 _ h2=>have s2:=s1.ay h2;.Z Y<|.h<|.c 0 (kI _) Y ?_;rintro _ _ ⟨b1,rfl,p3⟩;have s3:=(s2.ay p3).nn;refine .Z Y<|.h<|.a 1 Y (.iR Y)<|.W Y<|.h<|.ln 1 (P.E s3.E) Y<|.V Y<|.lq [0,7,8,9,25,26] Y (α:=Nat×Value×List Bool) (λ(k,W,bits)=>[(27,(.I k))]) (λ(k,W,bits) w'=>Sat w (s3.U [(1,ai b1 312 [W,(.I (I bits:Nat))]),(2,cL W 5 t1 (aI bits))]) w'/\(k<=I d)/\(bits=cz l (J k d))/\(I bits<=15*k)) (λ(k,W,bits)=>I d-k) (0,.N,[]) ⟨s3,KD _,Y,KM _⟩ ?_;rintro⟨k,W,bits⟩ a5 ⟨o,hk,H,a2⟩;refine .W Y<|.ab Y (λ c1=>?_) λ c1=>?_
 ·refine .q<|.s ?_;obtain⟨x,hx⟩:=ut d k c1;refine .r<|.ix 0 (P.E o.E) Y<|.le 0 (P.E o.E) hx Y<|.W Y<|.s<|have t:=X x (a8 hx);have A:=mq t.1;have y:=(nj p t.2).2;have a1:=p.le x;have a3:=jL l;.bM 45 (((x<0)\/(I l<=x))\/((au l x)=0)) ?_ ?_
  ·refine .z 3 Y<|.B 33 Y (λ N=>?_) λ N=>?_
   ·refine .M Y (by simp[N])
   refine .ln 2 (q.E o.E) Y<|.z 3 Y<|.B 39 Y (λ Q=>?_) λ Q=>?_
   ·refine .M Y (by simp[N,Q])
   refine .ix 2 (q.E o.E) Y<|.le 0 (q.E o.E) A Y<|.M Y (by simp[N,Q])
  refine .ak Y (IN O)<|.k<|have T:=(o.aj (E:=a7 .u8) 2 Y).gY bl;.dk [0] o Y (pl [0,1,2,3,4,5,6,7,8,1009] .fin) λ s5 K=>.ix 3 K (·.aj 0 Y) Y<|.le 0 K (·.aj 0 Y) (nj p t.2).1 Y<|.ix 2 K (q.E ·.E) Y<|.le 0 K (q.E ·.E) A Y<|have A1:=s5.tail.oc [1,2,0] 2;.f Y (.xU TH Y Y ((zy _ _ _ _ _ bits (cP l x) (au l x) A1 y O O).mono ?_));rintro _ _ ⟨rfl,a0,p4⟩;have s6:=(Sat.order [2,0,1] bl p4.join).aH.nn;have S2:=s6.pk [0];refine⟨S2,?_⟩;exact .fin<|.U Y<|aP (k+1,a0,bits++aY (cP l x) (au l x)) ⟨s6,O,by rw[ao hx,xL,H],a0A⟩
 refine .aq<|.h<|.c 1 (qB _ _ (aI bits) _ (o.cell (i:=1) (j:=0) Y Y) (o.aj 2 Y) a3v) Y λ r5 _ h5=>have s7:=o.ay h5;.cp 1 s7 (xX _ (I bits) _ (s7.cell (i:=1) (j:=1) Y Y)) Y λ _ s8=>.Z Y<|.ret ?_;show aE _ _ _ _ _ _;refine js Y Y Y Y ?_;have R:bits=cz l d:=a4h
 subst R;exact⟨_,Y,s8.pk [3]⟩
def Gk(v:Value)(l:List Nat)(w:World)(q:RdL w v un l)(hn:I l<=4096)(hb:∀ x∈l,x<8):
  CallsV prog 195 [v] w λ r W=>∃ g X i ps,r= .P g/\bP ps=lH l (cY (I l))/\Sat w [ai g 229 [(.I (I l)),(.I (0:Nat)),X,i,(.I (0:Nat)),.N],cL X 3 un ([]),cL i 284 dI ps,da ps,cL Value.N 3 un ([])] W:=by
 refine cd func195 Y λ o=>.Z Y<|.h<|.ln 1 (q.E o.E) Y<|.e Y (.build Fv Y ⟨Y,Y,trivial⟩ Y)<|.bx 0 o Y λ u _ s1 _ _=>.W Y<|.s<|have s2:=s1.aC 3 un;have s3:Sat w [_,_,cL Value.N 284 dI ([])] _:=s2.aC 284 dI;have s4:Sat w [ai u 229 [(.I (I l)),(.I (0:Nat)),.N,.N,(.I (0:Nat)),.N],cL Value.N 3 un ([]),cL Value.N 284 dI ([]),da ([])] _:=s3.C3;have s5:=s4.aC 3 un;.U Y<|.l<|.lq [0,3] Y (α:=Nat×Value×List Pt) (λ(k,i,ps)=>[(4,(.I ((64*k):Nat)))]) (λ(k,i,ps) W=>Sat w (s5.U [(0,ai u 229 [(.I (I l)),(.I (0:Nat)),.N,i,(.I (0:Nat)),.N]),(2,cL i 284 dI ps),(3,da ps)]) W/\(64*k<=I l+63)/\(bP ps=lH l k)) (λ(k,i,ps)=>I l+64-64*k) (0,.N,[]) ⟨s5,O,Y⟩ ?_;rintro⟨k,i,ps⟩ a2 ⟨j,hk,H⟩;have a0:I ps=k:=by rw[<-eQ,H];simp[lH]
 refine .s<|.h<|.ln 2 (q.E j.E) Y<|.Z Y<|.ab Y (λ c1=>?_) λ c1=>?_
 ·refine .q<|.h<|.ln 5 (q.E j.E) Y<|.e Y (.C0 Y Y)<|.e Y (.bg (E:=a7 .i64) (a:=(64*k)) (c:=(min ((64*k)+64) (I l))) bc Y (q.E j.E) ⟨_,Y⟩ ⟨_,Y⟩ O O)<|.c 0 (DZ _ (ww (64*k) (J (min ((64*k)+64) (I l)) l)) _ ((q.E j.E).sub (a:=(64*k)) (b:=(min ((64*k)+64) (I l))) O O) (by rw[oE,cD];omega) (λ x T=>by rw[oE]at T;have:=hb x (jD T);omega)) Y ?_;rintro _ _ ⟨a1,rfl,p1⟩;have R:=j.ay p1;obtain⟨d,p,N⟩:=(R.aj 5 Y).sv;subst p;exact .Z Y<|.r<|.ld 4 R 0 Y<|.a 1 Y (.build QN Y ⟨Y,trivial⟩ Y)<|.f Y (.bO dI (⟨d,0,bQ (ww (64*k) (J (min ((64*k)+64) (I l)) l))⟩:Pt) LY bl bl R Y λ v1 _ y _=>have y:=y.nn;.ap 0 y 2 (y.aj 6 Y) Y λ t _ D _=>have D:=D.pk [0,1,2,3,4,5];.st 2 D 0 Y (h1:=(D.aj 2 Y).ae) λ w6 P _=>.j<|.U Y<|have Q:Sat w [ai u 229 [(.I (I l)),(.I (0:Nat)),.N,t,(.I (0:Nat)),.N],cL Value.N 3 un ([]),cL t 284 dI (ps++[(⟨d,0,bQ (ww (64*k) (J (min ((64*k)+64) (I l)) l))⟩:Pt)]),da (ps++[(⟨d,0,bQ (ww (64*k) (J (min ((64*k)+64) (I l)) l))⟩:Pt)]),cL Value.N 3 un ([])] w6:=Sat.xT (A:=[ai u 229 [(.I (I l)),(.I (0:Nat)),.N,t,(.I (0:Nat)),.N],cL Value.N 3 un ([]),cL t 284 dI (ps++[(⟨d,0,bQ (ww (64*k) (J (min ((64*k)+64) (I l)) l))⟩:Pt)]),da ps,cL Value.N 3 un ([])]) P 3 Y;aP (k+1,t,ps++[(⟨d,0,bQ (ww (64*k) (J (min ((64*k)+64) (I l)) l))⟩:Pt)]) ⟨Q,O,by rw[uV,H,Lu,<-oE]⟩)
 refine .aq<|.Z Y<|.ax Y Y ?_;have K:k=cY (I l):=by unfold cY;omega
 exact⟨_,_,_,ps,Y,by rw[H,K],j.pk [0,1,2,3,4]⟩
def Is(v:Value)(l:List Nat)(w:World)(j:RdL w v un l)(hn:I l<=4096)(hb:∀ x∈l,x<8):
  CallsV prog 196 [v] w λ r W=>∃ g lv u ps,r= .P g/\bP ps=jV l (cY (I l))/\Sat w [ai g 229 [(.I (I l)),(.I (1:Nat)),lv,u,(.I (0:Nat)),.N],cL lv 3 un (aT l),cL u 284 dI ps,da ps,cL Value.N 3 un ([])] W:=by
 refine cd func196 Y λ a4=>.Z Y<|.W Y<|.h<|.ln 1 (j.E a4.E) Y<|.V Y<|.lq [0,14,15] Y (α:=Nat×Nat) (λ(k,m)=>[(3,(.I m)),(16,(.I k))]) (λ(k,m) W=>Sat w [] W/\(k<=I l)/\(m=nC (J k l))/\(m<=1024)) (λ(k,m)=>I l-k) (0,0) ⟨a4,KD _,Y,KD _⟩ ?_;rintro⟨k,m⟩ w1 ⟨s1,hk,hm,c6⟩;refine .W Y<|.ab Y (λ c1=>?_) λ c1=>?_
 ·refine .q<|.s ?_;obtain⟨x,H⟩:=ut l k c1;exact .r<|.ix 0 (j.E s1.E) Y<|.le 0 (j.E s1.E) H Y<|.Z Y<|have c9:=hb x (a8 H);.r<|.a 3 Y (.HQ Y Y)<|.Z Y<|.U Y<|aP (k+1,(max m (x+1))) ⟨s1,O,by rw[ao H,BJ,hm],by have:=hb x (a8 H);omega⟩
 refine .aq<|.s ?_;have a2:m=nC l:=a4d
 have K:nC l<=8:=Lv hb;have a3:nC l<=1024:=O
 refine .r<|.b 1 Y (.df un 0 bc Y s1 Y Y O O O λ v1 _ s2 _=>.W Y<|.h<|.ln 1 (j.E s2.E) Y<|.V Y<|.lq [0,6,27,28] Y (α:=Nat×List Nat) (λ(k,d)=>[(29,(.I k))]) (λ(k,d) W=>Sat w [cL v1 3 un d] W/\(k<=I l)/\(d=lj (nC l) (J k l))/\(I d=nC l)/\(∀ x∈d,x<=k)) (λ(k,d)=>I l-k) (0,List.replicate m 0) ⟨s2,KD _,by rw[a2]<;>rfl,by rw[a2];simp,λ x H=>by have:=Za H;omega⟩ ?_);rintro⟨k,d⟩ e1 ⟨R,hk,D,a1,a0⟩;refine .W Y<|.ab Y (λ c2=>?_) λ c2=>?_
 ·refine .q<|.s ?_;obtain⟨x,H⟩:=ut l k c2;refine .r<|.ix 0 (j.E R.E) Y<|.le 0 (j.E R.E) H Y<|.Z Y ?_;have b5:x<I d:=by rw[a1];exact yW l x (a8 H)
  obtain⟨y,hy⟩:=ut d x b5;have e0:=a0 y (a8 hy);refine .r<|.ix 2 (R.aj 0 Y) Y<|.le 0 (R.aj 0 Y) hy Y<|.ix 1 (R.aj 0 Y) Y<|.f Y (.dJ (a:=(y+1)) 0 dB R Y Y Y Y uT λ _ s4 _=>?_);refine .j<|.U Y ?_;exact aP (k+1,d.set x (y+1)) ⟨s4,O,by rw[ao H,xM,<-D,eb,getD_some hy],by simp only[Xt];exact a1,λ z hz=>by
    rcases YT hz with hz|rfl
    ·have:=a0 z hz;omega
    ·omega⟩
 refine .aq<|.s ?_;have s5:=R.bp 0 Y (show d=lj (nC l) l from by rw[D,show k=I l by omega,XH]);refine .r<|.ln 1 (j.E s5.E) Y<|.e Y (.build Fv Y ⟨Y,Y,trivial⟩ Y)<|.bx 0 s5 Y λ X _ s6 _ _=>?_;have s6:=s6.nn;refine .Z Y<|.h<|.c 2 (Cs _ (lj (nC l) l) _ (s6.aj 0 Y) (by rw[gS];exact K) (λ x H=>by have:=Fg (nC l) l x H;omega)) Y λ r1 _ b2=>?_;obtain⟨i,rfl,p1⟩:=b2;have s7:=s6.ay p1;refine .st 5 s7 1 Y (h1:=(s7.aj 2 Y).ae) λ _ s8 _=>.j<|.s<|.s ?_;have b6:=(s8.pk [1,2]).bp 1 Y (show cC (lj (nC l) l)=aT l from Y);have b7:Sat w [ai X 229 [(.I (I l)),(.I (1:Nat)),i,.N,(.I (0:Nat)),.N],cL i 3 un (aT l),cL Value.N 284 dI ([])] _:=b6.aC 284 dI;have c0:Sat w [ai X 229 [(.I (I l)),(.I (1:Nat)),i,.N,(.I (0:Nat)),.N],cL i 3 un (aT l),cL Value.N 284 dI ([]),da ([])] _:=b7.C3;have a6:=c0.aC 3 un;refine .U Y<|.l<|.lq [0,9] Y (α:=Nat×Value×List Pt) (λ(k,u,ps)=>[(10,(.I ((64*k):Nat)))]) (λ(k,u,ps) W=>Sat w (a6.U [(0,ai X 229 [(.I (I l)),(.I (1:Nat)),i,u,(.I (0:Nat)),.N]),(2,cL u 284 dI ps),(3,da ps)]) W/\(64*k<=I l+63)/\(bP ps=jV l k)) (λ(k,u,ps)=>I l+64-64*k) (0,.N,[]) ⟨a6,O,Y⟩ ?_;rintro⟨k,u,ps⟩ e2 ⟨P,hk,N⟩;have c7:I ps=k:=by rw[<-eQ,N];simp[jV]
 refine .s<|.h<|.ln 2 (j.E P.E) Y<|.Z Y<|.ab Y (λ c3=>?_) λ c3=>?_
 ·refine .q<|.s<|.dk [0,1,2,3,4] P Y (pl [0,1,2,3,4,5,6,7,8,9,10,11,1012,13,14,15,16,17,18,19] .fin) λ Q T=>.ld 3 T 0 Y<|.ln 5 T (j.E ·.E) Y<|.e Y (λ _ s=>.C0 Y Y) T<|.e Y (λ _ s=>.bg (E:=a7 .i64) (a:=(64*k)) (c:=(min ((64*k)+64) (I l))) bc Y (j.E s.E) ⟨_,Y⟩ ⟨_,Y⟩ O O) T<|.c 0 T (Ct _ _ (aT l) (ww (64*k) (J (min ((64*k)+64) (I l)) l)) _ (Q.aj 1 Y) ((j.E Q.E).sub (a:=(64*k)) (b:=(min ((64*k)+64) (I l))) O O) (by rw[de];exact K) (gu (gH l a3)) (by rw[oE,cD];omega) (λ x H=>qf a3 x (by rw[oE]at H;exact jD H))) Y ?_;rintro _ _ ⟨c8,rfl,p2⟩;have p:=Q.ay p2;obtain⟨o,a5,b4⟩:=(p.aj 5 Y).sv;subst a5;have S2:=p.pk [0,1,2,3,4];refine⟨S2,?_⟩;exact .Z S2 Y<|.r<|.ld 4 p 0 Y<|.a 2 Y (.build QN Y ⟨Y,Y,trivial⟩ Y)<|.f Y (.bO dI (⟨o,I (cz (aT l) (ww (64*k) (J (min ((64*k)+64) (I l)) l))),aI (cz (aT l) (ww (64*k) (J (min ((64*k)+64) (I l)) l)))⟩:Pt) LY bl bl p Y λ v2 _ q _=>have q:=q.nn;.ap 0 q 2 (q.aj 6 Y) Y λ v3 _ t _=>have t:=t.pk [0,1,2,3,4,5];.st 2 t 0 Y (h1:=(t.aj 2 Y).ae) λ a9 c4 _=>.j<|.U Y<|have c5:Sat w [ai X 229 [(.I (I l)),(.I (1:Nat)),i,v3,(.I (0:Nat)),.N],cL i 3 un (aT l),cL v3 284 dI (ps++[(⟨o,I (cz (aT l) (ww (64*k) (J (min ((64*k)+64) (I l)) l))),aI (cz (aT l) (ww (64*k) (J (min ((64*k)+64) (I l)) l)))⟩:Pt)]),da (ps++[(⟨o,I (cz (aT l) (ww (64*k) (J (min ((64*k)+64) (I l)) l))),aI (cz (aT l) (ww (64*k) (J (min ((64*k)+64) (I l)) l)))⟩:Pt)]),cL Value.N 3 un ([])] a9:=Sat.xT (A:=[ai X 229 [(.I (I l)),(.I (1:Nat)),i,v3,(.I (0:Nat)),.N],cL i 3 un (aT l),cL v3 284 dI (ps++[(⟨o,I (cz (aT l) (ww (64*k) (J (min ((64*k)+64) (I l)) l))),aI (cz (aT l) (ww (64*k) (J (min ((64*k)+64) (I l)) l)))⟩:Pt)]),da ps,cL Value.N 3 un ([])]) c4 3 Y;aP (k+1,v3,ps++[(⟨o,I (cz (aT l) (ww (64*k) (J (min ((64*k)+64) (I l)) l))),aI (cz (aT l) (ww (64*k) (J (min ((64*k)+64) (I l)) l)))⟩:Pt)]) ⟨c5,O,by rw[uV,N,Lx,<-oE]⟩)
 refine .aq<|.Z Y<|.ax Y Y ?_;have b3:k=cY (I l):=by unfold cY;omega
 exact⟨_,_,_,ps,Y,by rw[N,b3],P.pk [0,1,2,3,4]⟩
def nM(g n kind:Nat)(lv bv:Value)(lens:List Nat)(ps:List Pt)(w:World)(h0:w.cell? ⟨g,0,none⟩=some (.I (n:Int)))(h1:w.cell? ⟨g,1,none⟩=some (.I (kind:Int)))(h2:w.cell? ⟨g,2,none⟩=some lv)(h3:w.cell? ⟨g,3,none⟩=some bv)(E:RdL w lv un lens)(X:RdL w bv dI ps)(l:∀ p∈ps,RdL w p.sv.val t1 p.bys)(hn:n<=4096)(hk:kind<=1)(c0:I lens<=1024)(c6:I ps<=100)(a1:∀ p∈ps,I p.bys<=20000/\p.bits<=1000000):
  CallsV prog 197 [(.P g)] w λ r W=>Sat w [cL r 5 t1 (lI n kind lens (bP ps))] W:=by
 refine cd func197 Y λ D=>.W Y<|have c7:=aF n;have c8:=aF kind;have c9:=aF (I lens);have b7:=lk n kind lens;.r<|.a 3 Y (.load ca Y (D.E _ _ h0))<|.c 1 (dM Value.N ([]) n _ (RdL.nil _ _) bw O) Y λ r1 _ Q=>have s1:=D.ay Q;.Z Y<|.h<|.a 4 Y (.load ca Y (s1.E _ _ h1))<|.c 1 (dM r1 (uv n) kind _ (s1.aj 0 Y) O O) Y λ r2 _ R=>have y:=s1.ay R;.Z Y<|.jn [0] Y (λ K L' W=>∃ (o:Value),Weak ([(3,o)]++K) L'/\Sat w [cL o 5 t1 (kF n kind lens)] W) ?_ ?_
 ·refine .h<|.a 3 Y (.load ca Y (y.E _ _ h1))<|.Z Y<|.ab Y (λ P=>?_) λ P=>?_
  ·refine .h<|.a 4 Y (.load gy Y (y.E _ _ h2))<|.ln 0 (E.E y.E) Y<|.c 1 (dM r2 (uv n++uv kind) (I lens) _ (y.aj 1 Y) hJ O) Y λ r3 _ T=>?_;have s3:=(y.ay T).nn;refine .Z Y<|.h<|.a 3 Y (.load gy Y (s3.E _ _ h2))<|.ln 0 (E.E s3.E) Y<|.V Y ?_;have s5:=(s3.pk [2]).bp 0 Y (show uv n++uv kind++uv (I lens)=uv n++uv kind++uv (I lens)++(J 0 lens).map (· %2^8)from bw);refine .lq [0,37,38] Y (α:=Nat×Value) (λ(k,o)=>[(3,o),(39,(.I k))]) (λ(k,o) W=>Sat w [cL o 5 t1 (uv n++uv kind++uv (I lens)++(J k lens).map (· %2^8))] W/\(k<=I lens)) (λ(k,o)=>I lens-k) (0,r3) ⟨s5,KD _⟩ ?_;rintro⟨k,o⟩ e3 ⟨N,a0⟩;refine .W Y<|.ab Y (λ c2=>?_) λ c2=>?_
   ·refine .q<|.s ?_;obtain⟨x,H⟩:=ut lens k c2;refine .r<|.ix 0 (E.E N.E) Y<|.le 0 (E.E N.E) H Y<|.Z Y<|.r<|.a 2 Y (.ja a3l underlying5 Y Y)<|.f Y (.bS t1 (x%2^8) cy Y N Y λ v1 _ s7 _=>?_);refine .ap 0 s7 0 (s7.aj 1 Y) Y (h1:=a4s) (h2:=a4s) λ v2 _ s8 _=>?_;refine .Z Y<|.U Y ?_;have s9:=(s8.pk [0]).pk [0];have a3:=s9.bp 0 Y (show uv n++uv kind++uv (I lens)++(J k lens).map (· %2^8)++[(x%2^8)]=uv n++uv kind++uv (I lens)++(J (k+1) lens).map (· %2^8)from by rw[ao H];simp);exact aP (k+1,v2) ⟨a3,O⟩
   refine .aq ?_;have a4:=(N.pk [0]).bp 0 Y (show uv n++uv kind++uv (I lens)++(J k lens).map (· %2^8)=kF n kind lens from by rw[kF,Xp P,show k=I lens by omega,XH];simp);exact⟨o,(wk Y),a4⟩
  refine .k ?_;have a5:=(y.pk [1]).bp 0 Y (show uv n++uv kind=kF n kind lens from by rw[kF,Xn P];simp);exact⟨r2,(wk Y),a5⟩
 rintro L' w7 ⟨o,a2,j⟩;refine .weaken _ a2<|.s<|.h<|.a 3 Y (.load PB Y (j.E _ _ h3))<|.ln 0 (X.E j.E) Y<|.V Y<|have a6:=j.bp 0 Y (show kF n kind lens=kF n kind lens++e9 kind (J 0 (bP ps))from by simp[e9]);.lq [0,52,53] Y (α:=Nat×Value) (λ(k,o)=>[(3,o),(54,(.I k))]) (λ(k,o) W=>Sat w [cL o 5 t1 (kF n kind lens++e9 kind (J k (bP ps)))] W/\(k<=I ps)/\(I (e9 kind (J k (bP ps)))<=20010*k)) (λ(k,o)=>I ps-k) (0,o) ⟨a6,KD _,by simp[e9]⟩ ?_;rintro⟨k,o⟩ e4 ⟨i,a0,c5⟩;refine .W Y<|.ab Y (λ c3=>?_) λ c3=>?_
 ·refine .q<|.s ?_;obtain⟨x,H⟩:=ut ps k c3;refine .r<|.ix 0 (X.E i.E) Y<|.lg 0 (X.E i.E) H Y<|.al 0 i Y λ b1 _ q _ _=>have q:=q.nn;.sa 0 q 1 Y ((dI).one _) λ _ d _=>.j<|.s<|.s<|have e2:=a1 x (a8 H);have e0:=aF (I x.bys);have e1:=aF x.bits;.r<|.a 3 Y (.load ca Y (d.E _ _ h1))<|.Z Y<|.ab Y (λ A=>?_) λ A=>?_
  ·refine .r<|.ld 2 d 1 Y<|.ln 0 ((l x (a8 H)).E d.E) Y<|.c 1 (dM o (kF n kind lens++e9 kind (J k (bP ps))) (I x.bys) _ (d.aj 0 Y) hJ O) Y λ r4 _ h4=>?_;have t:=d.ay h4;refine .Z Y<|.r<|.ld 2 t 1 Y<|.ap 0 t 2 ((l x (a8 H)).E t.E) Y (h1:=hJ) (h2:=hJ) λ v3 _ a9 _=>.Z Y<|.U Y ?_;have b2:=(a9.pk [2]).bp 0 Y (show kF n kind lens++e9 kind (J k (bP ps))++uv (I x.bys)++x.bys=kF n kind lens++e9 kind (J (k+1) (bP ps))from by rw[ao (kB H),gU,oF];simp[show kind=0 from A]);exact aP (k+1,v3) ⟨b2,O,by rw[ao (kB H),gU,oF];simp only[AT,Xp A];omega⟩
  refine .r<|.ld 2 d 1 Y<|.c 1 (dM o (kF n kind lens++e9 kind (J k (bP ps))) x.bits _ (d.aj 0 Y) hJ O) Y λ r5 _ h5=>?_;have u:=d.ay h5;refine .Z Y<|.r<|.ld 2 u 1 Y<|.ap 0 u 2 ((l x (a8 H)).E u.E) Y (h1:=hJ) (h2:=hJ) λ b6 _ b3 _=>.Z Y<|.U Y ?_;have b4:=(b3.pk [2]).bp 0 Y (show kF n kind lens++e9 kind (J k (bP ps))++uv x.bits++x.bys=kF n kind lens++e9 kind (J (k+1) (bP ps))from by rw[ao (kB H),gU,oF];simp[A]);exact aP (k+1,b6) ⟨b4,O,by rw[ao (kB H),gU,oF];simp only[AT,Xn A];omega⟩
 exact .aq<|.Z Y<|.ax Y Y<|have b5:=i.bp 0 Y (show kF n kind lens++e9 kind (J k (bP ps))=lI n kind lens (bP ps)from by rw[lI,show k=I (bP ps) by rw[eQ];omega,XH]);b5
def zU(v:Value)(l:List Nat)(w:World)(E:RdL w v un l)(o:OkN l):
  CallsV prog 141 [v] w λ r w'=>∃ g lv bv ps,r= .tuple #[.P g,.I 0]/\bP ps=nD l/\Sat w [ai g 229 [(.I (I l)),(.I (bV l)),lv,bv,(.I (0:Nat)),.N],cL lv 3 un (dS l),cL bv 284 dI ps,da ps,cL Value.N 3 un ([])] w':=by
 refine cd func141 Y λ D=>.s<|have a1:=o.len;.U Y<|.s<|.h<|.ln 1 (E.E D.E) Y<|.Z Y<|.ak Y (IN O)<|.p<|.h<|.ln 1 (E.E D.E) Y<|.V Y<|.lq [0,11,12] Y (α:=Nat) (λ k=>[(13,(.I k))]) (λ k w'=>Sat w [] w'/\(k<=I l)) (λ k=>I l-k) 0 ⟨D,KD _⟩ ?_;rintro k w1 ⟨s1,hk⟩;refine .W Y<|.ab Y (λ c1=>?_) λ c1=>?_
 ·refine .q<|.s ?_;obtain⟨x,hx⟩:=ut l k c1;refine .r<|.ix 0 (E.E s1.E) Y<|.le 0 (E.E s1.E) hx Y<|.W Y<|.bM 22 ((x<0)\/(1024<=x)) ?_ ?_
  ·refine .z 3 Y<|.B 19 Y (λ t=>?_) λ t=>?_
   ·refine .M Y (by simp[t])
   refine .M Y (by simp[t])
  exact .ak Y (IN (by have:=o.lt x (a8 hx);omega))<|.k<|.U Y<|aP (k+1) ⟨s1,O⟩
 refine .aq<|.h<|.c 1 (Gk _ l _ (E.E s1.E) o.len o.lt) Y ?_;rintro _ _ ⟨g1,T,K,X,rfl,H,p1⟩;have s2:=s1.ay p1;refine .c 1 (Is _ l _ (E.E s2.E) o.len o.lt) Y ?_;rintro _ _ ⟨g2,W,N,a0,rfl,d,p2⟩;have q:=s2.ay p2;refine .W Y<|.s<|have P:=Qw H o.len;have Q:=Qx d o.len o.mx;.r<|.c 1 (nM g2 (I l) 1 W N (aT l) a0 _ (q.cell (i:=5) (j:=0) Y Y) (q.cell (i:=5) (j:=1) Y Y) (q.cell (i:=5) (j:=2) Y Y) (q.cell (i:=5) (j:=3) Y Y) (q.aj 6 Y) (q.aj 7 Y) (q.nr 8 Y) o.len (KM _) (by rw[de];exact o.mx) Q.1 Q.2) Y λ r3 _ h3=>have p:=(q.ay h3).nn;.ln 0 (p.aj 10 Y) Y<|.c 1 (nM g1 (I l) 0 T K ([]) X _ (p.cell (i:=0) (j:=0) Y Y) (p.cell (i:=0) (j:=1) Y Y) (p.cell (i:=0) (j:=2) Y Y) (p.cell (i:=0) (j:=3) Y Y) (p.aj 1 Y) (p.aj 2 Y) (p.nr 3 Y) o.len O bw P.1 P.2) Y λ r4 _ h4=>have s5:=p.ay h4;.ln 0 (s5.aj 11 Y) Y<|.Z Y<|.ab Y (λ c2=>?_) λ c2=>?_
 ·refine .Z Y<|.bK Y Y Y ?_;obtain⟨u,y,A⟩:=HI (l:=l) a3B;refine⟨g2,W,N,a0,Y,by rw[d,A],?_⟩;rw[u,y];exact s5.pk [5,6,7,8,9]
 refine .k<|.Z Y<|.bK Y Y Y ?_;obtain⟨u,y,A⟩:=DE (l:=l) a3B;refine⟨g1,T,K,X,Y,by rw[H,A],?_⟩;rw[u,y];exact s5.pk [0,1,2,3,4]
def Ns(v n:Nat)(w:World)(o:v<4294967296)(q:n<=1000):
  CallsV prog 160 [(.int .u32 v),(.I n)] w λ r W=>r= .int .u32 (dx v n:Nat)/\Sat w [] W:=by
 refine cd func160 Y λ i=>.W Y<|.V Y<|.lq [5] Y (α:=Nat×Nat) (λ(k,u)=>[(0,(.int .u32 u)),(6,(.I k))]) (λ(k,u) W=>Sat w [] W/\(k<=n)/\(u=dx v k)/\(u<4294967296)) (λ(k,u)=>n-k) (0,v) ⟨i,KD _,Y,o⟩ ?_;rintro⟨k,u⟩ t ⟨j,p,g,H⟩;refine .W Y<|.ab Y (λ l=>?_) λ l=>?_
 ·refine .q<|.Z Y<|.ab Y (λ d=>?_) λ d=>?_
  ·exact .r<|.a 2 Y (.HP (b:=2197175160) Y Y Y ey ey)<|.Z Y<|.U Y<|aP (k+1,((u/2^1)^^^2197175160)) ⟨j,O,a2B,a0Y⟩
  exact .U Y<|.U Y<|aP (k+1,(u/2^1)) ⟨j,O,a2B,a0Y⟩
 refine .aq<|.Z Y<|.ax Y Y ?_;rw[show k=n by omega]at g;exact⟨by rw[g],j⟩
def Cu(v:Value)(l:List Nat)(w:World)(D:RdL w v t1 l)(hb:∀ x∈l,x<256)(hn:I l<=1000000000):
  CallsV prog 104 [v] w λ r W=>r= .int .u32 (jP l:Nat)/\Sat w [] W:=by
 refine cd func104 Y λ t=>.Z Y<|.h<|.al 0 t Y λ o w1 s1 _ _=>.j<|.s<|.V Y<|have s2:Sat w [ai o 214 ((a7 .u32).all (ri 0))] w1:=s1;.lq [0,3] Y (α:=Nat) (λ k=>[(8,(.I k))]) (λ k W=>Sat w [ai o 214 ((a7 .u32).all (ri k))] W/\(k<=16)) (λ k=>16-k) 0 ⟨s2,KD _⟩ ?_;rintro k Q ⟨s3,hk⟩;refine .W Y<|.ab Y (λ c1=>?_) λ c1=>?_
 ·refine .q<|.Z Y<|.r<|.a 2 Y (.ja a3l underlying106 Y Y)<|.cp 0 s3 (Ns (k%2^32) 4 _ O O) Y λ _ s4=>.e Y (.dU DJ Y Y O)<|.f Y (.setArr (E:=a7 .u32) (a:=(dx (k%2^32) 4)) 0 Th s4 Y Y Y Y (by rw[BM];all_goals omega) λ R N _=>have N:=N.nn;.j<|.U Y ?_);have s6:Sat w [ai o 214 ((a7 .u32).all (ri (k+1)))] R:=by
   have q:(ri k).set k (dx (k%2^32) 4)=ri (k+1):=by rw[XN (show k<2^32 by omega)];exact LA O
   rw[<-q];exact N
  exact aP (k+1) ⟨s6,O⟩
 refine .aq<|.s ?_;have P:Sat w [ai o 214 ((a7 .u32).all rh)] Q:=by
  have q:ri k=rh:=by rw[show k=16 by omega];exact LB
  rw[<-q];exact s3
 refine .U Y<|.s<|.h<|.ln 1 (D.E P.E) Y<|.V Y<|.lq [3,17,18] Y (α:=Nat×Nat) (λ(k,u)=>[(5,(.int .u32 u)),(19,(.I k))]) (λ(k,u) W=>Sat w P.L W/\(k<=I l)/\(u=BL (J k l))/\(u<4294967296)) (λ(k,u)=>I l-k) (0,4294967295) ⟨P,KD _,Y,O⟩ ?_;rintro⟨k,u⟩ w5 ⟨d,hk,y,A⟩;refine .W Y<|.ab Y (λ T=>?_) λ T=>?_
 ·refine .q<|.s ?_;obtain⟨x,K⟩:=ut l k T;refine .r<|.ix 0 (D.E d.E) Y<|.le 0 (D.E d.E) K Y<|.W Y<|have a1:=hb x (a8 K);have p:u^^^x<4294967296:=kC A O;.r<|.a 3 Y (.HP Y Y Y ey ey)<|.W Y<|have i:=vf (show(u^^^x)%2^4<16 by omega);have X:=yZ (show(u^^^x)%2^4<16 by omega);.r<|.a 4 Y (.dU DJ Y Y O)<|.e Y (.load Fu Y (d.sS (E:=a7 .u32) 0 Y i bl Y))<|.e Y (.HP Y Y Y ey ey)<|.Z Y ?_;have H:=sM p;unfold DG at H;have j:=vf (show(((u^^^x)/2^4)^^^(uW ((u^^^x)%2^4)))%2^4<16 by omega);have a0:=yZ (show(((u^^^x)/2^4)^^^(uW ((u^^^x)%2^4)))%2^4<16 by omega);have g:=sM H;unfold DG at g;exact .r<|.a 4 Y (.dU DJ Y Y O)<|.e Y (.load Fu Y (d.sS (E:=a7 .u32) 0 Y j bl Y))<|.e Y (.HP Y Y Y ey ey)<|.Z Y<|.U Y<|aP (k+1,(((((u^^^x)/2^4)^^^(uW ((u^^^x)%2^4)))/2^4)^^^(uW ((((u^^^x)/2^4)^^^(uW ((u^^^x)%2^4)))%2^4)))) ⟨d,O,by rw[ao K,rf,<-y]<;>rfl,g⟩
 refine .aq<|.h<|.a 1 Y (.QX Y O)<|.Z Y<|.ax Y Y ?_;rw[show k=I l by omega,XH]at y;exact⟨by rw[y]<;>rfl,d.pk []⟩
def kJ(v:Nat)(w:World)(o:v<4294967296):
  CallsV prog 103 [(.int .u32 v)] w λ r W=>r= .agg (t1.all (qg v)).toArray/\Sat w [] W:=by
 refine cd func103 Y λ H=>.h<|.al 0 H Y λ l _ k _ _=>.nil<|.h<|.a 1 Y (.ja a0F underlying5 Y Y)<|.a 2 Y (.ja a0F underlying5 Y Y)<|.a 2 Y (.ja a0F underlying5 Y Y)<|.a 2 Y (.ja a0F underlying5 Y Y)<|.e Y (.Mu Tj Y ⟨Y,Y,Y,Y,trivial⟩ Y)<|.sa 0 k 0 (vs:=[(.int .u8 ((v%2^8):Nat)),(.int .u8 (((v/2^8)%2^8):Nat)),(.int .u8 (((v/2^16)%2^8):Nat)),(.int .u8 (((v/2^24)%2^8):Nat))]) Y t7 λ _ d _=>.nil<|.ret ?_;show aE _ _ _ _ _ _;exact cx (vs:=[(.int .u8 ((v%2^8):Nat)),(.int .u8 (((v/2^8)%2^8):Nat)),(.int .u8 (((v/2^16)%2^8):Nat)),(.int .u8 (((v/2^24)%2^8):Nat))]) Y Y ze (λ j u g=>d.cell (i:=0) Y g) ⟨Y,d.pk []⟩
def sq(v:Value)(l:List Nat)(w:World)(H:RdL w v t1 l)(o:∀ x∈l,x<256)(q:I l<=1000000000):
  CallsV prog 84 [v] w λ r W=>Sat w [cL r 5 t1 (aQ l)] W:=by
 refine cd func84 Y λ d=>.Z Y<|.h<|.cp 1 d (Cu _ l _ (H.E d.E) o q) Y λ _ t=>.cp 0 t (kJ (jP l) _ (qi o)) Y λ _ u=>.al 0 u Y λ A _ j _ _=>have j:=j.nn;.sa 0 j 0 (vs:=t1.all (qg (jP l))) Y (t1.all_oneCell _) λ _ y _=>.j<|.s<|.dk [0] y Y (pl [0,1,2,3,4,5,6,1007,8] .fin) λ i g=>.ln 2 g (H.E ·.E) Y<|.ln 1 g (H.E ·.E) Y<|.e Y (λ _ s=>.HS (E:=a7 .u8) cy Y (H.E s.E) Y Y) g<|.e Y (λ _ s=>.Mh Ti bl Y) g<|.f Y (.DM cy i Y Y (H.E i.E).full.1 ((H.E i.E).full.2) underlying58 (i.W0 (E:=a7 .u8) (l:=qg (jP l)) 0 Y (m:=4) (by first|rfl|simp)) (by simp[qg]) (by simp[qg];omega) (by simp[qg];omega) λ D _ p _=>have k:=p.pk [0];⟨k,?_⟩);exact .Z k Y<|.ax Y Y<|p.pk [1]
def E0(g n:Nat)(w:World)(h0:w.cell? ⟨g,0,none⟩=some (.I (n:Int))):
  CallsV prog 109 [(.P g)] w λ r W=>r= .I (n:Int)/\Sat w [] W:=cd func109 Y λ H=>.Z Y<|.h<|.a 3 Y (.load ca Y (H.E _ _ h0))<|.Z Y<|.ax Y Y ⟨Y,H⟩
def tm(g n kind:Nat)(u k:Value)(lens:List Nat)(ps:List Pt)(w:World)(h0:w.cell? ⟨g,0,none⟩=some (.I (n:Int)))(h1:w.cell? ⟨g,1,none⟩=some (.I (kind:Int)))(h2:w.cell? ⟨g,2,none⟩=some u)(A:w.cell? ⟨g,3,none⟩=some k)(K:RdL w u un lens)(D:RdL w k dI ps)(l:∀ p∈ps,RdL w p.sv.val t1 p.bys)(N:n<=4096)(E:kind<=1)(d:I lens<=1024)(j:I ps<=100)(i:∀ p∈ps,I p.bys<=20000/\p.bits<=1000000)(t:∀ p∈bP ps,∀ x∈p.1,x<256):
  CallsV prog 142 [(.P g)] w λ r W=>Sat w [cL r 5 t1 (aQ (lI n kind lens (bP ps)))] W:=by
 exact cd func142 Y λ H=>.Z Y<|.h<|.c 1 (nM g n kind u k lens ps _ (H.E _ _ h0) (H.E _ _ h1) (H.E _ _ h2) (H.E _ _ A) (K.E H.E) (D.E H.E) (λ p P=>(l p P).E H.E) N E d j i) Y λ R _ o=>have y:=H.ay o;.c 0 (sq _ (lI n kind lens (bP ps)) _ (y.aj 0 Y) (Fh _ _ _ _ t) (by have:=Ly (n:=n) (kind:=kind) d j i;omega)) Y λ T _ q=>have Q:=y.ay q;.Z Y<|.ax Y Y<|Q.pk [1]
end Go.Proofs.YtcgidfgdbhihbaaGreatDoor
namespace Go.Kw
end Go.Kw
namespace Go.Proofs.YtcgidfgdbhihbaaGreatDoor
open Go.RowKit Go.Kw
def gk(v:Value)(l:List Nat)(w:World)(P:RdL w v t1 l)(X:∀ x∈l,x<256):
  CallsV prog 161 [v] w λ r W=>r= .tuple #[.int .u64 ((iJ l).1:Nat),.I ((iJ l).2.1:Nat),.I ((iJ l).2.2:Nat)]/\Sat w [] W:=by
 refine cd func161 Y λ o=>.W Y<|.h<|.ln 1 (P.E o.E) Y<|.V Y<|.lq [7,8] Y (α:=Nat×Nat) (λ(k,u)=>[(2,(.int .u64 u)),(9,(.I k))]) (λ(k,u) W=>Sat w [] W/\(k<=I l)/\(C8 k u (ww k l)=C8 0 0 l)/\(u<2^(7*k))/\(k<=9)) (λ(k,u)=>I l-k) (0,0) ⟨o,KD _,Y,bl,O⟩ ?_;rintro⟨k,u⟩ w1 ⟨i,hk,H,q,j⟩;refine .W Y<|.ab Y (λ T=>?_) λ T=>?_
 ·refine .q<|.s ?_;obtain⟨x,Q⟩:=ut l k T;refine .r<|.ix 1 (P.E i.E) Y<|.le 0 (P.E i.E) Q Y<|.W Y<|.s ?_;have N:=my Q;have R:=X x (a8 Q);have p:=H;rw[N,C8]at p;refine .bM 19 ((k=9)/\(x≠1)) ?_ ?_
  ·refine .z 3 Y<|.B 16 Y (λ D=>?_) λ D=>?_
   ·refine .M Y a3K
   refine .M Y a3K
  refine .ab Y (λ y=>?_) λ y=>?_
  ·refine .Z Y<|.ret ?_;show aE _ _ _ _ _ _;refine js Y Y Y Y ?_;rw[Xp a1M]at p;exact⟨by rw[iJ,<-p]<;>rfl,i⟩
  refine .p ?_;have d:¬ (k=9/\x≠1):=a1M
  rw[Xn d]at p;have g:=SX (c:=x) q j d;have K:=HJ (c:=x) q;have a1:=xP (c:=x) j d;have a0:2^(7*k)<=2^63:=Y1 bl O;refine .U Y<|.Z Y<|.ab Y (λ t=>?_) λ t=>?_
  ·refine .s<|.s<|.bM 35 ((x=0)/\(0<k)) ?_ ?_
   ·refine .z 3 Y<|.B 32 Y (λ E=>?_) λ E=>?_
    ·refine .M Y (by simp[E])
    refine .M Y (by simp[E])
   refine .ab Y (λ A=>?_) λ A=>?_
   ·refine .Z Y<|.ret ?_;show aE _ _ _ _ _ _;refine js Y Y Y Y ?_;rw[Xp t,Xp a3m]at p;exact⟨by rw[iJ,<-p]<;>rfl,i⟩
   refine .k<|.Z Y<|.ret ?_;show aE _ _ _ _ _ _;refine js Y Y Y Y ?_;rw[Xp t,Xn a3m]at p;exact⟨by rw[iJ,<-p,<-g]<;>rfl,i⟩
  exact .k<|.U Y<|aP (k+1,(u|||((x%2^7)*2^(7*k)%2^64))) ⟨i,O,by rw[g,<-p,Xn t],by rw[g];exact K,by rcases XI k 9 with h|h;(omega);exact absurd ⟨(by omega:k=9),(by omega:x≠1)⟩ d⟩
 refine .aq<|.Z Y<|.ret ?_;show aE _ _ _ _ _ _;refine js Y Y Y Y ?_;rw[show k=I l by omega,a00,C8]at H;exact⟨by rw[iJ,<-H]<;>rfl,i⟩
def oS(W w:World)(cs:List Chunk)(g:Nat)(K:Value)(ok:Bool)(l:List Nat)(lim:Nat)(y:Sat W ([ai g 321 [K,.bool ok]]++cs) w)(o:RdL W K t1 l)(t:∀ x∈l,x<256)(hn:I l<=1000000000)(P:lim<=1000000000000):
  CallsV prog 253 [(.P g),(.I lim)] w λ r X=>r= .I ((b9 ok l lim).1:Nat)/\∃ j,RdL W j t1 (b9 ok l lim).2.2/\Sat W ([ai g 321 [j,.bool (b9 ok l lim).2.1]]++cs) X:=by
 refine aa func253 Y Y<|.Z Y<|.h<|.ld 3 y 0 Y<|.cm 0 y (gk _ l _ (o.E y.E) t) Y λ _ i=>.W Y<|.s<|.bM 31 ((((!ok)=true)\/((iJ l).2.2≠0))\/(lim<(iJ l).1)) ?_ ?_
 ·refine .ld 3 i 0 Y<|.e Y (.cK Y)<|.z 1 Y ?_;by_cases k:(!ok)=true
  ·refine .Gt 22 Y k<|.M Y a2V
  refine .Gf 22 Y a4I<|.z 4 Y<|.B 26 Y (λ q=>?_) λ q=>?_
  ·refine .M Y a4g
  refine .M Y a4g
 refine .ab Y (λ p=>?_) λ p=>?_
 ·refine .h<|.st 3 i 0 Y λ _ R _=>have A:=R.sn;.j<|.Z Y<|.ax Y Y ?_;have N:b9 ok l lim=(0,false,l):=by rw[b9,Xp a2A]
  exact⟨by rw[N]<;>rfl,_,by rw[N];exact o,by rw[N];exact A⟩
 refine .p<|have d:=rj l;.r<|.ld 4 i 0 Y<|.a 1 Y (.bg (E:=a7 .u8) (a:=(iJ l).2.1) (c:=I l) cy Y (o.E i.E) ⟨_,Y⟩ Y d (KM _))<|.st 2 i 0 Y (h1:=((o.E i.E).sub (a:=(iJ l).2.1) (b:=I l) d (KM _)).ae) λ _ T _=>have D:=T.sn;.j<|.s<|have Q:(iJ l).1<=lim:=ZG λ h=>p a5f;.U Y<|.ax Y Y ?_;have N:b9 ok l lim=((iJ l).1,true,l.drop (iJ l).2.1):=by rw[b9,Xn a2A]
 have u:ok=true:=by cases ok<;>simp_all
 subst u;refine⟨by rw[N],_,?_,by rw[N];exact D⟩;rw[N];have H:=o.sub (a:=(iJ l).2.1) (b:=I l) (rj l) (KM _);rw[XH]at H;exact H
def Nt(W w:World)(cs:List Chunk)(g:Nat)(K:Value)(ok:Bool)(l:List Nat)(lim:Nat)(y:Sat W ([ai g 224 [K,.bool ok]]++cs) w)(o:RdL W K t1 l)(t:∀ x∈l,x<256)(hn:I l<=1000000000)(P:lim<=1000000000000):
  CallsV prog 214 [(.P g),(.I lim)] w λ r X=>r= .I ((b9 ok l lim).1:Nat)/\∃ j,RdL W j t1 (b9 ok l lim).2.2/\Sat W ([ai g 224 [j,.bool (b9 ok l lim).2.1]]++cs) X:=by
 refine aa func214 Y Y<|.Z Y<|.h<|.ld 3 y 0 Y<|.cm 0 y (gk _ l _ (o.E y.E) t) Y λ _ i=>.W Y<|.s<|.bM 31 ((((!ok)=true)\/((iJ l).2.2≠0))\/(lim<(iJ l).1)) ?_ ?_
 ·refine .ld 3 i 0 Y<|.e Y (.cK Y)<|.z 1 Y ?_;by_cases k:(!ok)=true
  ·refine .Gt 22 Y k<|.M Y a2V
  refine .Gf 22 Y a4I<|.z 4 Y<|.B 26 Y (λ q=>?_) λ q=>?_
  ·refine .M Y a4g
  refine .M Y a4g
 refine .ab Y (λ p=>?_) λ p=>?_
 ·refine .h<|.st 3 i 0 Y λ _ R _=>have A:=R.sn;.j<|.Z Y<|.ax Y Y ?_;have N:b9 ok l lim=(0,false,l):=by rw[b9,Xp a2A]
  exact⟨by rw[N]<;>rfl,_,by rw[N];exact o,by rw[N];exact A⟩
 refine .p<|have d:=rj l;.r<|.ld 4 i 0 Y<|.a 1 Y (.bg (E:=a7 .u8) (a:=(iJ l).2.1) (c:=I l) cy Y (o.E i.E) ⟨_,Y⟩ Y d (KM _))<|.st 2 i 0 Y (h1:=((o.E i.E).sub (a:=(iJ l).2.1) (b:=I l) d (KM _)).ae) λ _ T _=>have D:=T.sn;.j<|.s<|have Q:(iJ l).1<=lim:=ZG λ h=>p a5f;.U Y<|.ax Y Y ?_;have N:b9 ok l lim=((iJ l).1,true,l.drop (iJ l).2.1):=by rw[b9,Xn a2A]
 have u:ok=true:=by cases ok<;>simp_all
 subst u;refine⟨by rw[N],_,?_,by rw[N];exact D⟩;rw[N];have H:=o.sub (a:=(iJ l).2.1) (b:=I l) (rj l) (KM _);rw[XH]at H;exact H
def E1(g:Nat)(v:Value)(l:List Nat)(a:Nat)(w:World)(o:w.cell? ⟨g,0,none⟩=some v)(j:RdL w v t1 l)(k:∀ x∈l,x<256)(q:a<8*I l)(t:I l<=1000000000):
  CallsV prog 302 [(.P g),(.I a)] w λ r W=>r= .int .u64 (rb l a:Nat)/\Sat w [] W:=by
 refine cd func302 Y λ H=>.W Y ?_;obtain⟨x,d⟩:=ut l (a/2^3) O;have i:=k x (a8 d);have p:=Yn x (2^(7-a%2^3));refine .r<|.a 3 Y (.load vq Y (H.E _ _ o))<|.ix 2 (j.E H.E) Y<|.le 0 (j.E H.E) d Y<|.a 1 Y (.Mm (b:=7) 3 Y Y bl O bl)<|.Z Y<|.ax Y Y ⟨?_,H⟩;have hd:l.getD (a/8) 0=x:=getD_some d;rw[rb,hd]
def tq(g:Nat)(v:Value)(l:List Nat)(N a m:Nat)(w:World)(D:w.cell? ⟨g,0,none⟩=some v)(i:w.cell? ⟨g,1,none⟩=some (.I (N:Int)))(K:RdL w v t1 l)(y:∀ x∈l,x<256)(T:N<=8*I l)(E:I l<=1000000000)(hm:m<=63)(u:a+m<=N):
  CallsV prog 260 [(.P g),(.I a),(.I m)] w λ r W=>r= .tuple #[.int .u64 (qk l a m:Nat),.bool true]/\Sat w [] W:=by
 refine cd func260 Y λ H=>.W Y<|.h<|.cp 3 H (oP _ N _ (H.E _ _ i)) Y λ _ P=>.Z Y<|.ak Y (IN O)<|.k<|.W Y<|.V Y<|.lq [0,1,18] Y (α:=Nat) (λ k=>[(8,(.int .u64 (qk l a k))),(19,(.I k))]) (λ k W=>Sat w [] W/\(k<=m)) (λ k=>m-k) 0 ⟨P,KD _⟩ ?_;rintro k R ⟨d,X⟩;refine .W Y<|.ab Y (λ t=>?_) λ t=>?_
 ·exact .q<|.Z Y<|have A:=vg l a k;have p:2^k<=2^62:=Y1 bl O;have o:=LD l (a+k);have j:=LG (v:=qk l a k) o O;.r<|.cp 8 d (E1 _ _ l (a+k) _ (d.E _ _ D) (K.E d.E) y O E) Y λ _ Q=>.Z Y<|.U Y ⟨k+1,⟨If some (If (Value.int .u64) (If (λ(q:Nat)=>(q:Int)) j)),Y,Y,Y,Y,trivial⟩,⟨Q,O⟩,O⟩
 refine .aq<|.Z Y<|.bK Y Y Y ?_;rw[show k=m by omega];exact⟨Y,d⟩
def Iu(g:Nat)(N a m:Nat)(w:World)(d:w.cell? ⟨g,1,none⟩=some (.I (N:Int)))(k:N<=1000000000000)(l:a<=N)(o:m<=63)(i:N<a+m):
  CallsV prog 260 [(.P g),(.I a),(.I m)] w λ r W=>r= .tuple #[.int .u64 ((0:Nat):Int),.bool false]/\Sat w [] W:=cd func260 Y λ H=>.W Y<|.h<|.cp 3 H (oP _ N _ (H.E _ _ d)) Y λ _ j=>.Z Y<|.cc Y (LW O)<|.Z Y<|.bK Y Y Y ⟨Y,j⟩
def zV(W w:World)(cs:List Chunk)(g:Nat)(v:Value)(d:List Nat)(N pos m:Nat)(H:Sat W ([ai g 327 [v,.I (N:Int),.I (pos:Int)],cL v 5 t1 d]++cs) w)(t:∀ x∈d,x<256)(q:N<=8*I d)(y:I d<=1000000000)(u:m<=63)(l:pos+m<=N):
  CallsV prog 298 [(.P g),(.I m)] w λ r D=>r= .tuple #[.int .u64 (qk d pos m:Nat),.I ((0:Nat):Int)]/\Sat W ([ai g 327 [v,.I (N:Int),.I ((pos+m:Nat):Int)],cL v 5 t1 d]++cs) D:=by
 refine aa func298 Y Y<|.W Y<|.s<|.bM 13 ((m<0)\/(64<m)) ?_ ?_
 ·refine .z 3 Y<|.B 10 Y (λ k=>?_) λ k=>?_
  ·refine .M Y a2V
  refine .M Y a2V
 exact .ak Y (IN O)<|.k<|.h<|.ld 4 H 0 Y<|.cm 1 H (tq _ _ d N pos m _ (H.cell (i:=0) (j:=0) Y Y) (H.cell (i:=0) (j:=1) Y Y) (H.aj 1 Y) t q y u l) Y λ _ p=>.W Y<|.Z Y<|.ak Y Y<|.k<|.h<|.ld 3 p 0 Y<|.st 4 p 0 Y λ _ A _=>have o:=A.sn;.j<|.Z Y<|.bK Y Y Y ⟨Y,o⟩
def Iw(W w:World)(cs:List Chunk)(g:Nat)(v:Value)(d:List Nat)(N pos m:Nat)(l:Sat W ([ai g 327 [v,.I (N:Int),.I (pos:Int)],cL v 5 t1 d]++cs) w)(u:∀ x∈d,x<256)(t:N<=8*I d)(A:I d<=1000000000)(y:m<=63)(p:pos<=N)(H:N<pos+m):
  CallsV prog 298 [(.P g),(.I m)] w λ r q=>r= .tuple #[.int .u64 ((0:Nat):Int),.I ((10:Nat):Int)]/\Sat W ([ai g 327 [v,.I (N:Int),.I (pos:Int)],cL v 5 t1 d]++cs) q:=by
 refine aa func298 Y Y<|.W Y<|.s<|.bM 13 ((m<0)\/(64<m)) ?_ ?_
 ·refine .z 3 Y<|.B 10 Y (λ k=>?_) λ k=>?_
  ·refine .M Y a2V
  refine .M Y a2V
 exact .ak Y (IN O)<|.k<|.h<|.ld 4 l 0 Y<|.cm 1 l (Iu _ N pos m _ (l.cell (i:=0) (j:=1) Y Y) O p O H) Y λ _ o=>.W Y<|.Z Y<|.cc Y Y<|.Z Y<|.bK Y Y Y ⟨Y,o⟩
def Nu(g m:Nat)(w:World)(d:w.cell? ⟨g,2,none⟩=some (.I (m:Int))):
  CallsV prog 258 [(.P g)] w λ r W=>r= .I (m:Int)/\Sat w [] W:=cd func258 Y λ H=>.Z Y<|.h<|.a 3 Y (.load ca Y (H.E _ _ d))<|.Z Y<|.ax Y Y ⟨Y,H⟩
def kK(v:Value)(l:List Nat)(m:Nat)(w:World)(i:RdL w v t1 l)(u:m<=8*I l)(y:I l<=1000000000):
  CallsV prog 219 [v,(.I m)] w λ r W=>∃ g k,r= .tuple #[.P g,.I ((0:Nat):Int)]/\Sat w [ai g 327 [k,.I (m:Int),.I ((0:Nat):Int)],cL k 5 t1 (J ((m+7)/8) l)] W:=by
 refine cd func219 Y λ H=>.W Y<|.s<|.bM 14 ((m<0)\/((8*I l)<m)) ?_ ?_
 ·refine .z 3 Y<|.B 8 Y (λ d=>?_) λ d=>?_
  ·refine .M Y a1P
  refine .ln 2 (i.E H.E) Y<|.M Y a1P
 refine .ak Y (IN O)<|.k<|.h<|.f Y (.wu t1 cy H λ A _ j _=>.a 3 Y (.quo (b:=8) Y Y O en)<|.e Y (.bg (E:=a7 .u8) (a:=0) (c:=((m+7)/8)) cy Y (i.E j.E) Y ⟨_,Y⟩ O O)<|.ap 0 j 0 ((i.E j.E).sub (a:=0) (b:=((m+7)/8)) O O) Y λ D _ o _=>.a 1 Y (.build Vv Y ⟨(o.aj 0 Y).ae,Y,trivial⟩ Y)<|.e Y (.DQ Vy Y Y)<|.bx 0 o Y λ t _ q _ _=>.Z Y<|.bK Y Y Y ?_);have p:=(Sat.order [1,0] bl q.tail).aH.pk [0,1];rw[show(J ((m+7)/8) l).drop 0=l.take ((m+7)/8)from Y]at p;exact⟨_,_,Y,p⟩
def yc(v u:Value)(a b:List Nat)(w:World)(k:RdL w v t1 a)(j:RdL w u t1 b)(g:∀ x∈a,x<256)(i:∀ x∈b,x<256):
  CallsV prog 165 [v,u] w λ r W=>r= .bool (decide (a=b))/\Sat w [] W:=by
 refine cd func165 Y λ d=>.Z Y<|.h<|.a 1 Y (.dr underlying58 underlying9 underlying5 Y (k.E d.E))<|.a 1 Y (.dr underlying58 underlying9 underlying5 Y (j.E d.E))<|.e Y (.cN Y Y)<|.Z Y<|.ax Y Y ⟨If Value.bool ?_,d⟩;by_cases H:a=b
 ·subst H;simp
 rw[IN H,IN λ h=>H ((H7 g i).1 h)]
def Nv(W w:World)(cs:List Chunk)(g:Nat)(v:Value)(bits:List Bool)(x:Nat)(p:Sat W ([ai g 312 [v,.I ((I bits:Nat):Int)],cL v 5 t1 (aI bits)]++cs) w)(h0:0<x)(q:x<2^64)(N:I bits<=900000000):
  CallsV prog 245 [(.P g),(.int .u64 x)] w λ r D=>r= .I 0/\∃ i,Sat W ([ai g 312 [i,.I ((I (bits++jh x):Nat):Int)],cL i 5 t1 (aI (bits++jh x))]++cs) D:=by
 obtain⟨H,k,l⟩:=eh h0 O;have o:=bitLen_le64 x;refine aa func245 Y Y<|.W Y<|.Z Y<|.ak Y (IN O)<|.k<|.h<|.cm 1 p (oO x _ O) Y λ _ u=>.Z Y<|.h<|.z 2 Y<|have A:=u.oc [0,1] 2;.c 0 (sh _ _ _ _ _ bits 0 ((Lib.bitLen x)-1) A O O O) Y ?_;rintro _ _ ⟨rfl,E,P⟩;have y:=P.join.od [0,1];refine .j<|.h<|.z 4 Y<|have j:=y.oc [0,1] 2;.c 0 (sh _ _ _ _ _ (bits++aY 0 ((Lib.bitLen x)-1)) x (((Lib.bitLen x)-1)+1) j q O a0A) Y ?_;rintro _ _ ⟨rfl,K,t⟩;have d:=t.join.od [0,1];refine .j<|.Z Y<|.ax Y Y ?_;have he:bits++aY 0 ((Lib.bitLen x)-1)++aY x (((Lib.bitLen x)-1)+1)=bits++jh x:=by unfold jh;rw[show Lib.bitLen x-1+1=Lib.bitLen x by omega,KW]
 rw[he]at d;exact⟨Y,_,d⟩
def E2(W w:World)(cs:List Chunk)(g:Nat)(v:Value)(bits:List Bool)(x:Nat)(u:Sat W ([ai g 312 [v,.I ((I bits:Nat):Int)],cL v 5 t1 (aI bits)]++cs) w)(h0:0<x)(y:x<2^32)(T:I bits<=900000000):
  CallsV prog 200 [(.P g),(.int .u64 x)] w λ r N=>r= .I 0/\∃ i,Sat W ([ai g 312 [i,.I ((I (bits++gx x):Nat):Int)],cL i 5 t1 (aI (bits++gx x))]++cs) N:=by
 obtain⟨H,k,l⟩:=eh h0 O;have o:=bitLen_le64 x;have p:=bitLen_le y;have q:=mz (Lib.bitLen x-1+1);have t:=bitLen_le64 (Lib.bitLen x-1+1);refine aa func200 Y Y<|.W Y<|.Z Y<|.ak Y (IN O)<|.k<|.h<|.cm 1 u (oO x _ O) Y λ _ E=>.Z Y<|.h<|.z 4 Y<|have A:=E.oc [0,1] 2;.c 0 (Nv _ _ _ _ _ bits (((Lib.bitLen x)-1)+1) A O O O) Y ?_;rintro _ _ ⟨rfl,Q,P⟩;have K:=P.join.od [0,1];refine .j<|.h<|.z 3 Y<|have j:=K.oc [0,1] 2;.c 0 (sh _ _ _ _ _ (bits++jh (((Lib.bitLen x)-1)+1)) x ((Lib.bitLen x)-1) j O O hJ) Y ?_;rintro _ _ ⟨rfl,R,D⟩;have d:=D.join.od [0,1];refine .j<|.Z Y<|.ax Y Y ?_;have he:bits++jh (((Lib.bitLen x)-1)+1)++aY x ((Lib.bitLen x)-1)=bits++gx x:=by unfold gx;rw[show Lib.bitLen x-1+1=Lib.bitLen x by omega,KW]
 rw[he]at d;exact⟨Y,_,d⟩
def Gl(g:Nat)(v:Value)(l:List Nat)(N a z:Nat)(w:World)(y:w.cell? ⟨g,0,none⟩=some v)(d:w.cell? ⟨g,1,none⟩=some (.I (N:Int)))(E:RdL w v t1 l)(u:∀ x∈l,x<256)(K:N<=8*I l)(D:I l<=1000000000)(Q:z<=63)(A:a+z<N)(h0:∀ k,k<z->rb l (a+k)=0)(h1:rb l (a+z)=1):
  CallsV prog 301 [(.P g),(.I a),(.I (63:Nat))] w λ r W=>r= .tuple #[.I (z:Int),.I ((0:Nat):Int)]/\Sat w [] W:=by
 refine cd func301 Y λ i=>.Z Y<|.V Y<|.lq [0,1,2] Y (α:=Nat) (λ k=>[(8,(.I k))]) (λ k W=>Sat w [] W/\(k<=z)) (λ k=>z-k) 0 ⟨i,KD _⟩ ?_;rintro k R ⟨p,P⟩;refine .s<|.l<|.s<|.h<|.cp 6 p (oP _ N _ (p.E _ _ d)) Y λ _ j=>.Z Y<|.ak Y (IN O)<|.p<|.h<|.cp 6 j (E1 _ _ l (a+k) _ (j.E _ _ y) (E.E j.E) u O D) Y λ _ t=>.Z Y<|.ab Y (λ o=>?_) λ o=>?_
 ·refine .Z Y<|.bK Y Y Y ?_;have H:k=z:=(XI k z).elim (λ q=>by have:=h0 k q;omega) λ q=>by omega
  subst H;exact⟨Y,t⟩
 exact .p<|have H:k≠z:=λ e=>o (by rw[e];exact h1);.U Y<|.ak Y (IN O)<|.k<|.U Y<|aP (k+1) ⟨t,O⟩
def Nw(g:Nat)(v:Value)(l:List Nat)(N a x:Nat)(w:World)(q:w.cell? ⟨g,0,none⟩=some v)(d:w.cell? ⟨g,1,none⟩=some (.I (N:Int)))(u:RdL w v t1 l)(p:∀ x∈l,x<256)(o:N<=8*I l)(t:I l<=1000000000)(k:0<x)(K:x<2^63)(Q:a+(2*(Lib.bitLen x-1)+1)<=N)(j:LH l a x):
  CallsV prog 259 [(.P g),(.I a)] w λ r W=>r= .tuple #[.int .u64 (x:Int),.I ((a+(2*(Lib.bitLen x-1)+1):Nat):Int),.I ((0:Nat):Int)]/\Sat w [] W:=by
 refine cd func259 Y λ H=>.W Y ?_;obtain⟨y,A,D⟩:=eh k O;have E:=bitLen_le K;refine .r<|.cp 2 H (Gl _ _ l N a (Lib.bitLen x-1) _ (H.E _ _ q) (H.E _ _ d) (u.E H.E) p o t O O j.1 j.2.1) Y λ _ i=>.W Y<|.Z Y<|.ak Y (IN bw)<|.k<|.h<|.cp 6 i (tq _ _ l N (a+(Lib.bitLen x-1)) ((Lib.bitLen x-1)+1) _ (i.E _ _ q) (i.E _ _ d) (u.E i.E) p o t O O) Y λ _ P=>.W Y<|.Z Y<|.ak Y Y<|.k<|.Z Y<|.ret ?_;show aE _ _ _ _ _ _;refine js Y Y Y Y ?_;rw[show Lib.bitLen x-1+1=Lib.bitLen x by omega,j.2.2];exact⟨Y,P⟩
def Nx(W w:World)(cs:List Chunk)(g:Nat)(v:Value)(d:List Nat)(N pos x:Nat)(H:Sat W ([ai g 327 [v,.I (N:Int),.I (pos:Int)],cL v 5 t1 d]++cs) w)(y:∀ x∈d,x<256)(u:N<=8*I d)(A:I d<=1000000000)(k:0<x)(hx:x<2^32)(ha:pos+I (gx x)<=N)(hd:LI d pos x):
  CallsV prog 220 [(.P g)] w λ r w'=>r= .tuple #[.int .u64 (x:Int),.I ((0:Nat):Int)]/\Sat W ([ai g 327 [v,.I (N:Int),.I ((pos+I (gx x):Nat):Int)],cL v 5 t1 d]++cs) w':=by
 obtain⟨E,K,P⟩:=eh k O;have Q:=bitLen_le hx;have R:=bitLen_le (v:=Lib.bitLen x) (n:=6) O;have T:=(eh (v:=Lib.bitLen x) O O).1;have o:=qm x;have D:2^(Lib.bitLen x-1)<=2^31:=Y1 bl O;have p:=Zp x (Yt (Lib.bitLen x-1));have X:=vg d (pos+(2*(Lib.bitLen (Lib.bitLen x)-1)+1)) (Lib.bitLen x-1);refine aa func220 Y Y<|.Z Y<|.h<|.ld 4 H 0 Y<|.cm 0 H (Nw _ _ d N pos (Lib.bitLen x) _ (H.cell (i:=0) (j:=0) Y Y) (H.cell (i:=0) (j:=1) Y Y) (H.aj 1 Y) y u A O O O hd.1) Y λ _ l=>.W Y<|.Z Y<|.ak Y (IN bw)<|.p<|.Z Y<|.ak Y (IN O)<|.k<|.Z Y<|.h<|.cm 3 l (tq _ _ d N (pos+(2*(Lib.bitLen (Lib.bitLen x)-1)+1)) ((Lib.bitLen x)-1) _ (l.cell (i:=0) (j:=0) Y Y) (l.cell (i:=0) (j:=1) Y Y) (l.aj 1 Y) y u A O O) Y λ _ s2=>.W Y<|.Z Y<|.ak Y Y<|.k<|.h<|.st 6 s2 0 Y λ _ s3 _=>have t:=s3.sn;.j<|.Z Y<|.bK Y Y Y ?_;have he:1*2^(Lib.bitLen x-1)%2^64|||qk d (pos+(2*(Lib.bitLen (Lib.bitLen x)-1)+1)) (Lib.bitLen x-1)=x:=by
  rw[hd.2,XN (show 1*2^(Lib.bitLen x-1)<2^64 by omega),Nat.or_comm,qj p];have:=Po k O;omega
 have hp:pos+I (gx x)=pos+(2*(Lib.bitLen (Lib.bitLen x)-1)+1)+(Lib.bitLen x-1):=by rw[o];omega
 rw[hp];exact⟨If (λ q:Nat=>Value.tuple #[.int .u64 (q:Int),.I ((0:Nat):Int)]) he,t⟩
