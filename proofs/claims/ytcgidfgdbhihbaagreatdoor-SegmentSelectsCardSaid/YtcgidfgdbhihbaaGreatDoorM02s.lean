/-
 M02s:the references of the layers 2,3 and 15 compute what the program computes. No program in sight.
-/
import Derived.Test.YtcgidfgdbhihbaaGreatDoorMst
import Derived.Test.YtcgidfgdbhihbaaGreatDoorTab
import Derived.Test.YtcgidfgdbhihbaaGreatDoorM15u
open List renaming length→I,take→J,drop→ww
set_option linter.all false
set_option maxRecDepth 100000
open Go.Proofs.YtcgidfgdbhihbaaGreatDoor
open List hiding count
namespace Go.Kw
def AU{v:Nat}(H:v<2^64)(h:128<=v):uv v=(v%128+128)::uv (v/128):=by
 rw[ED v H h];have:=Qy (v%2^8) O;have e:(v%2^8|||128)=v%128+128:=by
  obtain⟨d,g,i⟩:=this;omega
 rw[e]
def mW{v:Nat}(h:v<128):uv v=[v]:=by rw[Bd v h,XN O]
def u5(x w:Nat):∀ m,m<=w->aY (x%2^w) m=aY x m
 |0,_=>rfl
 |m+1,h=>by
  rw[aY,aY,u5 x w m O];congr 2;have e:2^w=2^m*2^(w-m):=by rw[<-a0h];congr 1;omega
  rw[e,Nat.mod_mul_right_div_self,Nat.mod_mod_of_dvd _ (Nat.pow_dvd_pow 2 O)]
def u6(l:List Bool)(k:Nat):List Nat:=(List.range ((I l+7)/8)).map (cU (J k l))
def ow(l:List Bool)(k:Nat):I (u6 l k)=(I l+7)/8:=by simp[u6]
def JW(l:List Bool):u6 l 0=List.replicate ((I l+7)/8) 0:=by
 rw[u6,eq_replicate_iff];refine⟨bw,λ b H=>?_⟩;obtain⟨k,_,rfl⟩:=Y7.1 H;rw[a2u];exact uj [] k bw
def Oh(l:List Bool):u6 l (I l)=aI l:=by rw[u6,XH];rfl
def Oi{l:List Bool}{k:Nat}(h:k<I l):(u6 l k)[k/8]? =some (cU (J k l) (k/8)):=by
 rw[u6,XF,ZQ O];rfl
def Hi{l:List Bool}{k:Nat}(h:l[k]? =some false):u6 l (k+1)=u6 l k:=by
 have H:=b8 h;refine Zl λ j _=>?_;rw[ao h,gO];split
 ·simp[ie]
 ·rfl
def JX{l:List Bool}{k:Nat}(h:l[k]? =some true):u6 l (k+1)=(u6 l k).set (k/8) (cU (J k l) (k/8)|||128/2^(k%8)):=by
 have d:=b8 h;have t:I (J k l)=k:=by simp;omega
 apply ZC;intro j;rcases XI j ((I l+7)/8)with H|H
 ·rw[YQ,u6,XF,ZQ H,u6,XF,ZQ H];simp only[Z6,Xu,a0r];rw[ao h,gO,t];by_cases e:k/8=j
  ·rw[Xp e.symm,Xp e,Xp O,e];simp[ie]
  ·rw[Xn (λ q=>e q.symm),Xn e]
 ·rw[XQ (by simp[u6];omega),XQ (by simp[u6];omega)]
def JY(a b:Nat):(a^^^b)%2=(a+b)%2:=by
 have h:=Nat.xor_mod_two_pow (a:=a) (b:=b) (n:=1);rw[Nat.pow_one]at h;rw[h];rcases Zr a with H|H<;>rcases Zr b with d|d<;>(rw[H,d,Nat.add_mod,H,d];rfl)
def JZ(a b:Nat):(a^^^b)/2=a/2^^^b/2:=by
 have:=Nat.xor_div_two (a:=a) (b:=b);exact this
def Oj(a b:Nat):st1 (a^^^b)=st1 a^^^st1 b:=by
 unfold st1;have H:=JY a b;have d:=JZ a b;simp only[Nat.pow_one];rw[d,H];rcases Zr a with g|g<;>rcases Zr b with i|i
 ·rw[Xn O,Xn O,Xn O]
 ·rw[Xp O,Xn O,Xp O,a0s]
 ·rw[Xp O,Xp O,Xn O,a0s,a0s,Nat.xor_comm (b/2)]
 ·rw[Xn O,Xp O,Xp O];rw[a0s,<-a0s 2197175160,Nat.xor_comm 2197175160 (b/2),a0s,Nat.xor_self,Nat.xor_zero]
def xl(a b:Nat):∀ n,dx (a^^^b) n=dx a n^^^dx b n
 |0=>rfl
 |n+1=>by rw[dx,dx,dx,xl a b n,Oj]
def u7(q:Nat):∀ n m,dx (q*2^(n+m)) n=q*2^m
 |0,m=>by simp[dx]
 |n+1,m=>by
  rw[dx,show n+1+m=n+(m+1) by omega,u7 q n (m+1),st1,YA,<-Zd];rw[Xn O];omega
def Ol(v:Nat):v=(v/2^4)*2^4^^^v%2^4:=by
 have h:=qj (v:=v%2^4) (x:=v/2^4) (k:=4) (Zp _ bl);have:v%2^4^^^(v/2^4)*2^4=v%2^4+(v/2^4)*2^4:=by
  apply Nat.eq_of_testBit_eq;intro i;have e:=If (λ z=>Nat.testBit z i) h;simp only[Nat.testBit_or]at e;rw[Nat.testBit_xor,<-e];rcases XI i 4 with H|H
  ·rw[Nat.testBit_mul_two_pow];simp[show¬ (4<=i) by omega]
  ·rw[Nat.testBit_lt_two_pow (x:=v%2^4) (i:=i) (ZM (Zp _ bl) (Y1 bl H))];simp
 rw[Nat.xor_comm,this];omega
def u9(v:Nat):dx v 4=DG v:=by
 conv=>lhs;rw[Ol v]
 rw[xl,DG];have:=u7 (v/2^4) 4 0;rw[YP,a2e,Yj]at this;rw[this];rfl
def xm(v a:Nat):∀ b,dx v (a+b)=dx (dx v a) b
 |0=>rfl
 |b+1=>by rw[<-YG,dx,dx,xm v a b]
def AV(v c:Nat):dx (v^^^c) 8=SR v c:=by
 rw[show 8=4+4 from Y,xm,u9,u9];rfl
def uc:∀ (f v:Nat),v<2^f->0<v->Lib.bitLenAux (f+1) v=Lib.bitLenAux f (v/2)+1:=λ f v _ h=>by
 rw[Lib.bitLenAux,Xn O];omega
def ma:∀ (f v:Nat),v<2^f->Lib.bitLenAux (f+1) v=Lib.bitLenAux f v
 |0,v,h=>by
  have:v=0:=ra
  subst this;rfl
 |f+1,v,h=>by
  rw[Lib.bitLenAux]
  conv=>rhs;rw[Lib.bitLenAux]
  split
  ·rfl
  ·rw[ma f (v/2) (by rw[YA]at h;omega)]
def bitLen_half{v:Nat}(H:v<2^64)(h:0<v):Lib.bitLen v=Lib.bitLen (v/2)+1:=by
 unfold Lib.bitLen;rw[show(64:Nat)=63+1 from Y,<-ma (63+1) v H,uc (63+1) v H h]
def ox{v:Nat}(h:0<v):0<Lib.bitLen v:=by
 unfold Lib.bitLen;rw[show(64:Nat)=63+1 from Y,Lib.bitLenAux,Xn O];omega
def yv{v:Nat}(H:v<2^64)(h:128<=v):Lib.bitLen v=Lib.bitLen (v/128)+7:=by
 rw[bitLen_half H O,bitLen_half (v:=v/2) O O,bitLen_half (v:=v/2/2) O O,bitLen_half (v:=v/2/2/2) O O,
  bitLen_half (v:=v/2/2/2/2) O O,bitLen_half (v:=v/2/2/2/2/2) O O,bitLen_half (v:=v/2/2/2/2/2/2) O O]
 rw[show v/2/2/2/2/2/2/2=v/128 by omega]
def AW:∀ (n v:Nat),v<=n->v<2^64->I (uv v)=jA v
 |n,v,hn,hv=>by
  rcases XI v 128 with h|h
  ·rw[mW h];have:=bitLen_le (v:=v) (n:=7) ra;unfold jA;simp;omega
  ·cases n with
   |zero=>omega
   |succ n=>
    rw[AU hv h,No,AW n (v/128) O O];have H:=yv hv h;have d:=ox (v:=v/128) O;unfold jA;omega
def ud{v:Nat}(H:v<2^64):I (uv v)=jA v:=AW v v (KM _) H
def K0(w:Nat):∀ (l:List Nat) (_:I l<2^63) (_:∀ x∈l,x<2^63),(gw w l).1=I l/\(dH w l).1=I l/\I (dH w l).2.1=I l*w/\(gw w l).2.1=I (dH w l).2.2.1/\(gw w l).2.2.1=(dH w l).2.2.2.1/\(gw w l).2.2.2=(dH w l).2.2.2.2/\(gw w l).2.2.1<=I l:=by
 refine lh (λ _ _=>by simp[gw,dH]) λ l x t=>?_
 ·intro q p;simp only[AT,No,Xv]at q;obtain⟨d,g,i,j,H,k,o⟩:=t O (λ y r=>p y (YM _ r));have D:=p x bw;have hd:=Yn x (2^w);rw[mu,fA];unfold mr et;split
  ·have u:=ud (v:=I l+1-(dH w l).2.2.2.2) O;have A:=ud (v:=x/2^w) O;simp only[AT,No,Xv,aK,u,A,d,g,i,j,H,k,Yc,Z0,XU,true_and,a2c];rw[H]at o;omega
  ·simp only[AT,No,Xv,aK,d,g,i,j,H,k,Yc,Z0,XU,true_and,a2c];rw[H]at o;omega
def mX{w:Nat}{l:List Nat}(hw:w<2^63)(j:I l<2^63)(i:∀ x∈l,x<2^63):jB w l=I (jC w l):=by
 obtain⟨k,o,H,d,g,p,q⟩:=K0 w l j i;unfold jB jC;rw[d,g];simp only[AT,aO,H];rw[ud (v:=I l) O,ud (v:=w) O,ud (v:=(dH w l).2.2.2.1) O];omega
end Go.Kw
namespace Go.Kw
open Go.RowKit
def UN:Value->SV
 | .slice a n c=>⟨a,n,c⟩
 |_=>⟨none,0,0⟩
def AX(l:List Nat):kG l 0=kF (I l) 0 []++e9 0 (lH l (cY (I l))):=by simp[kG,lI]
def Ew(l:List Nat):kG l 1=kF (I l) 1 (aT l)++e9 1 (jV l (cY (I l))):=by simp[kG,lI]
def AY(n:Nat):kF n 0 []=uv n++[0]:=by rw[kF,mW (v:=0) bl];simp
def Om(n:Nat)(lens:List Nat):kF n 1 lens=uv n++[1]++uv (I lens)++lens.map (· %2^8):=by rw[kF,mW (v:=1) bl];simp
def yw{l:List Nat}{n k:Nat}(h:k<n):(lH l n)[k]? =some (bQ (eZ l k),0):=by simp[lH,h]
def yx{l:List Nat}{n k:Nat}(h:k<n):(jV l n)[k]? =some (aI (cz (aT l) (eZ l k)),I (cz (aT l) (eZ l k))):=by simp[jV,h]
def Ex(l:List Nat)(n:Nat):I (lH l n)=n:=by simp[lH]
def Ey(l:List Nat)(n:Nat):I (jV l n)=n:=by simp[jV]
def AZ{l:List Nat}{ps:List (SV×List Nat)}(h:ps.map Prod.snd=(List.range (cY (I l))).map (eZ l)){k:Nat}{x:SV×List Nat}(d:ps[k]? =some x):k<cY (I l)/\x.2=eZ l k:=by
 have H:k<cY (I l):=by
  have i:=(KC.1 d).1;have g:=If List.length h;simp at g;omega
 refine⟨H,?_⟩;have:=If (λ q=>q[k]?) h;simp only[XF,d,Z6,ZQ H]at this;exact Y8 this
def Ez(kind:Nat):∀ (ps:List (List Nat×Nat)) (B:Nat),(∀ p∈ps,I p.1<=B)->I (e9 kind ps)<=(10+B)*I ps
 |[],B,_=>by simp[e9]
 |p::r,B,h=>by
  have i:=Ez kind r B λ q H=>h q zc;have d:=h p bw;have u:=aF (if kind=0 then I p.1 else p.2);have e:e9 kind (p::r)=oF kind p++e9 kind r:=rfl;rw[e,oF,AT,AT,No,Nat.mul_add];omega
def mY{l:List Nat}{k:Nat}(g:OkN l)(t:k<=1):I (kG l k)<=2000000:=by
 have u:=g.len;have H:cY (I l)<=64:=by unfold cY;omega
 have w:I (if k=1 then aT l else[])<=1024:=by
  split
  ·rw[de];exact g.mx
  ·simp
 have r:=lk (I l) k (if k=1 then aT l else[]);have d:=Ez k (if k=1 then jV l (cY (I l))else lH l (cY (I l))) 20000 λ p d=>by
  split at d
  ·obtain⟨i,_,rfl⟩:=Y7.1 d;have o:=fH (GoodLens.xV (gH l g.mx)) (eZ l i);have j:=cD l i;show(aI _).length<=_;rw[aO];omega
  ·obtain⟨i,_,rfl⟩:=Y7.1 d;have j:=cD l i;have:=lr (eZ l i) O;show(bQ _).length<=_;omega
 have q:I (if k=1 then jV l (cY (I l))else lH l (cY (I l)))<=64:=by
  split
  ·rw[Ey];exact H
  ·rw[Ex];exact H
 have:=a0w (10+20000) q;unfold kG lI;rw[AT];omega
end Go.Kw
namespace Go.Proofs.YtcgidfgdbhihbaaGreatDoor
open Go.RowKit Go.Kw
def kV{l:List Nat}{k:Nat}(g:k<=1):∀ x∈kG l k,x<256:=by
 refine Fh _ _ _ _ λ p H x d=>?_;split at H
 ·obtain⟨i,_,rfl⟩:=Y7.1 H;exact j0 _ x d
 obtain⟨i,_,rfl⟩:=Y7.1 H;exact mw _ _ x d
end Go.Proofs.YtcgidfgdbhihbaaGreatDoor
namespace Go.Kw
def uX(b:List Nat):Nat×Bool×List Nat:=b9 true b 128
def uY(b:List Nat):Nat×Bool×List Nat:=b9 (uX b).2.1 (uX b).2.2 31
def uZ(b:List Nat):Nat×Bool×List Nat:=b9 (uY b).2.1 (uY b).2.2 128
def uS(b:List Nat):Nat:=((uX b).1*(uY b).1+7)/8
def uE(b:List Nat):Option (List Nat):=MJ (uY b).1 (uX b).1 (uZ b).1 (uZ b).2.1 (ww (uS b) (uZ b).2.2) 0 (lC (J (uS b) (uZ b).2.2) (uX b).1 (uY b).1)
theorem yy(b:List Nat):we b=if(uZ b).2.1=false\/I (uZ b).2.2<uS b then none else match uE b with|none=>none|some d=>if bQ d=b then some d else none:=rfl
def K1{b:List Nat}(h:(uZ b).2.1=false\/I (uZ b).2.2<uS b):we b=none:=by rw[yy,Xp h]
def K2{b:List Nat}(h:uE b=none):we b=none:=by rw[yy,h];split<;>rfl
def B5{b vs:List Nat}(h1:¬ ((uZ b).2.1=false\/I (uZ b).2.2<uS b))(h:uE b=some vs):we b=if bQ vs=b then some vs else none:=by rw[yy,Xn h1,h]
def Qf(b:List Nat):(uX b).1<=128:=nk _ _ _
def Qg(b:List Nat):(uY b).1<=31:=nk _ _ _
def UO(b:List Nat):(uZ b).1<=128:=nk _ _ _
def RX(b:List Nat):(uX b).1*(uY b).1<=128*31:=a1t (Qf b) (Qg b)
def K4(b:List Nat):∀ x∈(uZ b).2.2,x∈b:=λ x H=>eE _ _ _ x (eE _ _ _ x (eE _ _ _ x H))
def K5(b:List Nat):∀ x∈(uX b).2.2,x∈b:=λ x H=>eE _ _ _ x H
def RY(b:List Nat):∀ x∈(uY b).2.2,x∈b:=λ x H=>K5 b x (eE _ _ _ x H)
def K6(b:List Nat):I (uX b).2.2<=I b:=j8 _ _ _
def K7(b:List Nat):I (uY b).2.2<=I b:=XL (j8 _ _ _) (K6 b)
def RZ(b:List Nat):I (uZ b).2.2<=I b:=XL (j8 _ _ _) (K7 b)
def oy(l:List Nat)(n w k:Nat):List Nat:=(List.range k).map (λ i=>qk l (w*i) w)++List.replicate (n-k) 0
def Hj(l:List Nat)(n w:Nat):oy l n w 0=List.replicate n 0:=by simp[oy]
def rM{l:List Nat}{n w k:Nat}(h:k<=n):I (oy l n w k)=n:=by simp[oy];omega
def K8(l:List Nat)(n w:Nat):oy l n w n=lC l n w:=by simp[oy,lC]
def K9{l:List Nat}{n w k:Nat}(h:k<n):(oy l n w k).set k (qk l (w*k) w)=oy l n w (k+1):=by
 unfold oy;rw[Y2 _ _ bw,show n-k=(n-(k+1))+1 by omega,Zx,YK];simp
def Ka(l:List Nat)(n w:Nat)(hw:w<=31):∀ x∈lC l n w,x<=2147483647:=λ x H=>by
 obtain⟨i,_,rfl⟩:=Y7.1 H;have d:=vg l (w*i) w;have g:2^w<=2^31:=Y1 bl hw;omega
def yz(l:List Nat)(n w:Nat):I (lC l n w)=n:=by simp[lC]
def On{a b:Nat}(H:a<=2147483647)(d:b<=2147483647):a|||b<=2147483647:=by
 have:=Zz (n:=31) (x:=a) (y:=b) O O;omega
def Oo{h w:Nat}(H:h<=2147483647/2^w):h*2^w<=2147483647:=XL (YH _ H) (Nat.div_mul_le_self _ _)
def pJ(l:List Nat)(s:List Nat×List (List Nat)×Nat)(x:Nat):List Nat×List (List Nat)×Nat:=
 (if(s.2.1.getD (au l x) []).length=0 then s.1.set (au l x) (cP l x)else s.1,s.2.1.set (au l x) (s.2.1.getD (au l x) []++[x]),au l x)
def tabN(l o:List Nat):List Nat×List (List Nat)×Nat:=o.foldl (pJ l) (List.replicate 16 0,List.replicate 16 [],0)
def fD(l o:List Nat)(x:Nat):tabN l (o++[x])=pJ l (tabN l o) x:=a3W
def Kb{α:Type}{l:List α}{d v:α}{i j:Nat}(h:i<I l):(l.set i v).getD j d=if i=j then v else l.getD j d:=by
 simp only[KV,YQ];by_cases H:i=j
 ·simp[H,H▸h]
 ·simp[H]
def ue(l:List Nat):List Nat->Nat
 |[]=>0
 |x::_=>cP l x
def vX(l:List Nat){a:List Nat}(b:List Nat)(h:a≠[]):ue l (a++b)=ue l a:=by
 cases a with
 |nil=>exact absurd Y h
 |cons y r=>rfl
def fE(l:List Nat)(h:∀ i,au l i<=15):∀ o:List Nat,I (tabN l o).1=16/\I (tabN l o).2.1=16/\
  (∀ n,n<16->(tabN l o).2.1.getD n []=o.filter (λ x=>au l x==n)/\(tabN l o).1.getD n 0=ue l (o.filter λ x=>au l x==n))/\(tabN l o).2.2<=15:=by
 refine lh ⟨a3W,a3W,λ n g=>?_,a3W⟩ λ o x y=>?_
 ·have p:(tabN l []).2.1.getD n []=[]:=by simp only[tabN,foldl_nil,KV,Z1];rw[Xp g];rfl
  have q:(tabN l []).1.getD n 0=0:=by simp only[tabN,foldl_nil];exact cO ..
  exact⟨p,q⟩
 ·obtain⟨u,w,k,D⟩:=y;have N:=h x;rw[fD];unfold pJ;refine⟨by simp only;split<;>simp[u],by simp[w],λ n g=>?_,h x⟩;obtain⟨r,j⟩:=k n g;obtain⟨K,A⟩:=k (au l x) O;simp only;rw[Kb O,YF];by_cases he:au l x=n
  ·subst he;have E:[x].filter (λ z=>au l z==au l x)=[x]:=bw
   rw[Xp Y,E,K];refine⟨Y,?_⟩;by_cases H:(o.filter λ z=>au l z==au l x)=[]
   ·rw[H,Xp a0M,fG O];rfl
   ·have d:¬ I (o.filter λ z=>au l z==au l x)=0:=λ t=>H (XM t);rw[Xn d,A,vX l _ H]
  ·have E:[x].filter (λ z=>au l z==n)=[]:=a3b
   rw[Xn he,E,Yr];refine⟨r,?_⟩;split
   ·rw[ea he];exact j
   ·exact j
def Hk(l:List Nat):∀ o:List Nat,Srt (au l) o->∀ x∈o,au l x<=(tabN l o).2.2:=by
 refine lh (λ _ x h=>by cases h) λ o y _ d x H=>?_;rw[fD];show au l x<=au l y;rcases XE.1 H with H|H
 ·exact(Srt.append.1 d).2.2 x H y bw
 ·simp at H;subst H;exact KM _
def gi(l:List Nat):List Nat×List (List Nat)×Nat:=tabN l (ba l)
def Kc{l:List Nat}(h:GoodLens l){n:Nat}(H:n<16):(gi l).2.1.getD n []=nB l n:=((fE l h.le (ba l)).2.2.1 n H).1
def Kd{l:List Nat}(h:GoodLens l){n:Nat}(H:n<16):(gi l).1.getD n 0=wi l n:=by
 rw[gi,((fE l h.le (ba l)).2.2.1 n H).2];show ue l (nB l n)=wi l n;unfold wi ue;cases nB l n<;>rfl
def Ke{l:List Nat}{x:Nat}(H:0<au l x):au l x<=(gi l).2.2:=Hk l _ (ct _) x (jO l x H)
def Sa{l:List Nat}(h:GoodLens l):(gi l).2.2<=15:=(fE l h.le (ba l)).2.2.2
def Dc(d:List Nat)(S:List (List Nat))(v n k:Nat):Bool:=
 decide (0<I (S.getD k []))&&decide (v<=(d.getD k 0+I (S.getD k [])-1)/2^(k-n))&&decide (d.getD k 0/2^(k-n)<=v)
def vY(d:List Nat)(S:List (List Nat))(lo v n:Nat):Bool:=(List.range' n (lo+1-n)).any (Dc d S v n)
def xn{d:List Nat}{S:List (List Nat)}{lo v n k:Nat}(h1:n<=k)(h2:k<=lo)(h:Dc d S v n k=true):vY d S lo v n=true:=by
 unfold vY;rw[ZB];exact⟨k,by rw[mem_range'_1];omega,h⟩
def Dd{d:List Nat}{S:List (List Nat)}{lo v n:Nat}(h:∀ k,n<=k->k<=lo->Dc d S v n k=false):vY d S lo v n=false:=by
 unfold vY;rw[any_eq_false];intro k H;rw[mem_range'_1]at H;simp[h k O O]
def Oq{d:List Nat}{S:List (List Nat)}{lo v n:Nat}(h:vY d S lo v n=true):n<=lo:=by
 unfold vY at h;rw[ZB]at h;obtain⟨k,H,_⟩:=h;rw[mem_range'_1]at H;omega
def je(d:List Nat)(S:List (List Nat))(lo:Nat)(l:List Nat)(N:Nat):Nat->Nat->Nat->Nat->Nat×Nat×Nat
 |0,_,_,pos=>(0,9,pos)
 |f+1,n,v,pos=>
  if N<pos+1 then(0,10,pos)
  else if vY d S lo (2*v+rb l pos) n=false then(0,9,pos+1)
  else if d.getD n 0<=2*v+rb l pos/\2*v+rb l pos-d.getD n 0<I (S.getD n []) then((S.getD n []).getD (2*v+rb l pos-d.getD n 0) 0,0,pos+1)
  else je d S lo l N f (n+1) (2*v+rb l pos) (pos+1)
def EA{l:List Nat}(h:GoodLens l){x:Nat}(j:0<au l x)(A B:List Bool):∀ (f n:Nat),f+n=17->1<=n->n<=au l x->
  je (gi l).1 (gi l).2.1 (gi l).2.2 (aI (A++aY (cP l x) (au l x)++B)) (I (A++aY (cP l x) (au l x)++B)) f n (qk (aI (A++aY (cP l x) (au l x)++B)) (I A) (n-1)) (I A+(n-1))=(x,0,I A+au l x)
 |0,n,hf,h1,hn=>by have:=h.le x;omega
 |f+1,n,hf,h1,hn=>by
  have P:=h.le x;obtain⟨_,H⟩:=nj h j;obtain⟨m,k⟩:=DD j;have D:=(KC.1 k).1;have o:=uU h k;have p:I (A++aY (cP l x) (au l x)++B)=I A+au l x+I B:=by simp[aK,YG]
  have K:2*qk (aI (A++aY (cP l x) (au l x)++B)) (I A) (n-1)+rb (aI (A++aY (cP l x) (au l x)++B)) (I A+(n-1))=cP l x/2^(au l x-n):=by
   have e:=rn A B (cP l x) (au l x) H n hn;rw[<-e]
   conv=>rhs;rw[show n=(n-1)+1 by omega,qk]
  have d:qk (aI (A++aY (cP l x) (au l x)++B)) (I A) n=cP l x/2^(au l x-n):=rn A B (cP l x) (au l x) H n hn;rw[je,K,Xn O];have g:vY (gi l).1 (gi l).2.1 (gi l).2.2 (cP l x/2^(au l x-n)) n=true:=by
   refine xn hn (Ke j) ?_;unfold Dc;rw[Kc h O,Kd h O];simp only[Xz,XS];exact⟨⟨O,a1w O⟩,a1w O⟩
  rw[Xn (by rw[g];simp),Kc h O,Kd h O];rcases XI n (au l x)with t|hge
  ·rw[Xn]
   ·have q:=EA h j A B f (n+1) O O O;rw[Yh,d]at q;rw[show I A+(n-1)+1=I A+n by omega];exact q
   ·rintro⟨Q,w⟩;have y:(nB l n)[cP l x/2^(au l x-n)-wi l n]? =some (nB l n)[cP l x/2^(au l x-n)-wi l n]:=py w;have N:=uU h y;exact HH h j t y O
  ·have i:n=au l x:=O
   have E:cP l x/2^(au l x-n)=cP l x:=by rw[i,Y4];simp
   rw[E,i]at*;rw[Xp ⟨O,O⟩];have r:cP l x-wi l (au l x)=m:=O
   have u:(nB l (au l x)).getD m 0=x:=getD_some k;rw[r,u];simp only[XO,true_and];omega
def vZ(d:List Nat)(S:List (List Nat))(lo:Nat)(l:List Nat)(N:Nat):Nat->Nat->List Nat->Option (List Nat×Nat)
 |0,pos,acc=>some (acc,pos)
 |c+1,pos,acc=>if(je d S lo l N 16 1 0 pos).2.1≠0 then none else vZ d S lo l N c (je d S lo l N 16 1 0 pos).2.2 (acc++[(je d S lo l N 16 1 0 pos).1])
def EB{l:List Nat}(h:GoodLens l):∀ (s:List Nat) (A:List Bool) (d:List Nat) (bits:List Bool),(∀ x∈s,0<au l x)->bits=A++cz l s->
  vZ (gi l).1 (gi l).2.1 (gi l).2.2 (aI bits) (I bits) (I s) (I A) d=some (d++s,I bits)
 |[],A,d,bits,_,hb=>by subst hb;simp[vZ,cz]
 |x::r,A,d,bits,hs,hb=>by
  have i:=hs x bw;have H:bits=A++aY (cP l x) (au l x)++cz l r:=by rw[hb];simp[cz]
  have g:=EA h i A (cz l r) 16 1 Y (KM _) i;rw[<-H,Y4,qk,YP]at g;have j:=EB h r (A++aY (cP l x) (au l x)) (d++[x]) bits (λ y k=>hs y (Ya _ k)) H;rw[No,vZ,g];simp only[ne_eq,not_true,Yy];rw[AT,aK]at j;rw[j];simp
def wa(l b:List Nat)(bits count:Nat):Option (List Nat):=
 match vZ (gi l).1 (gi l).2.1 (gi l).2.2 (J ((bits+7)/8) b) bits count 0 []with
 |none=>none
 |some p=>if p.2=bits then some p.1 else none
def EC{l:List Nat}(h:GoodLens l)(s:List Nat)(H:∀ x∈s,0<au l x):wa l (aI (cz l s)) (I (cz l s)) (I s)=some s:=by
 have:=EB h s [] [] (cz l s) H bw;unfold wa;rw[Xx (by rw[aO];exact KM _)];rw[Xv,YW]at this;rw[this];simp
def B7(d:List Nat)(S:List (List Nat))(lo:Nat)(l:List Nat)(N:Nat):∀ f n v p,p<=N->(je d S lo l N f n v p).2.2<=N
 |0,_,_,_,h=>h
 |f+1,n,v,p,h=>by
  rw[je];split
  ·exact h
  ·split
   ·show p+1<=N;omega
   ·split
    ·show p+1<=N;omega
    ·exact B7 d S lo l N f _ _ _ O
def B9{α:Type}{l:List α}{x d:α}(h:x∈l):∃ n,n<I l/\l.getD n d=x:=by
 obtain⟨n,H,rfl⟩:=a14.1 h;exact⟨n,H,by simp[KV,H]⟩
def Sb{l:List Nat}(h:GoodLens l):∀ x∈(gi l).1,x<2^15:=λ x o=>by
 have k:=fE l h.le (ba l);obtain⟨n,j,rfl⟩:=B9 (d:=0) o;have H:n<16:=by have:=k.1;unfold gi at j;omega
 rw[Kd h H];cases g:nB l n with
 |nil=>unfold wi;rw[g];exact Yt 15
 |cons y r=>
  have i:(nB l n)[0]? =some y:=by rw[g];rfl
  have p:=uU h i;obtain⟨_,_,q⟩:=kA h i;have t:2^n<=2^15:=Y1 bl O;omega
def Sc{l:List Nat}(h:GoodLens l):∀ q∈(gi l).2.1,I q<=I l:=λ q i=>by
 have j:=fE l h.le (ba l);obtain⟨n,g,rfl⟩:=B9 (d:=[]) i;have H:n<16:=by have:=j.2.1;unfold gi at g;omega
 rw[Kc h H];exact XL (a0f _ _) (iF l)
