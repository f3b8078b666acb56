/-
 M19:which leaves of an expression can follow each other,as the program finds it:mirrored functions. No program in sight.
-/
import Derived.Test.YtcgidfgdbhihbaaGreatDoorM18
open List renaming length→I,take→J,drop→ww
set_option linter.all false
open Go.Proofs.YtcgidfgdbhihbaaGreatDoor
open List hiding lt
namespace Go.Kw
structure Lf where
 sv:SV
 r:Nat×Nat
def dm:Enc qz:=⟨3,λ x=>[.int .u64 (x.fi:Int),.int .u64 (x.la:Int),.bool x.nl],λ _=>Y,λ x u h=>by simp at h;rcases h with rfl|rfl|rfl<;>rfl⟩
def dw:Enc Lf:=⟨1,λ x=>[x.sv.val],λ _=>Y,λ x u h=>by simp at h;subst h;rfl⟩
def X5{α:Type}{l:List α}{k:Nat}{x:α}(h:l[k]? =some x):J (k+1) l=J k l++[x]:=by rw[ZD,h];rfl
def ON{α:Type}{l:List α}{k:Nat}{x:α}(h:l[k]? =some x):l.set k x=l:=by
 obtain⟨H,rfl⟩:=KC.1 h;exact ZO H
def l0(fo:List Nat)(a b:Nat):I (vL fo a b)=I fo:=by unfold vL;simp
def EK{fo:List Nat}{a b k x:Nat}(h:fo[k]? =some x):(vL fo a b)[k]? =some (if a/2^k%2^1=1 then x|||b else x):=by
 unfold vL;rw[getElem?_mapIdx,h];rfl
def EL{fo:List Nat}{a b k x:Nat}(h:fo[k]? =some x):(J k (vL fo a b)++ww k fo).set k (if a/2^k%2^1=1 then x|||b else x)=J (k+1) (vL fo a b)++ww (k+1) fo:=by
 obtain⟨H,rfl⟩:=KC.1 h;have l:=l0 fo a b;rw[Yl H,Y2 _ _ a1A,Xo,l,Y5 O,Y4,set_cons_zero,X5 (EK h),KW];rfl
def Qk{fo:List Nat}{a b k x:Nat}(h:fo[k]? =some x):(J k (vL fo a b)++ww k fo)[k]? =some x:=by
 obtain⟨H,rfl⟩:=KC.1 h;have l:=l0 fo a b;rw[XP a1A,Xo,l,Y5 O,Y4,Yl H];rfl
def Sq(fo:List Nat)(a b k:Nat)(H:k<=I fo):I (J k (vL fo a b)++ww k fo)=I fo:=by
 rw[AT,Xo,XD,l0];omega
def OO{fo:List Nat}{a b k x:Nat}(h:fo[k]? =some x)(H:¬ a/2^k%2^1=1):J k (vL fo a b)++ww k fo=J (k+1) (vL fo a b)++ww (k+1) fo:=by
 rw[<-EL (a:=a) (b:=b) h,Xn H,ON (Qk h)]
structure OkS(s:TS)(n:Nat):Prop where
 lv:I s.lv=n
 fo:I s.fo=n
 lt:∀ f∈s.fo,f<2^64
structure OkPX(p:qz):Prop where
 fi:p.fi<2^64
 la:p.la<2^64
def OkPX.p0(b:Bool):OkPX (P0 b):=⟨show 0<2^64 by decide,show 0<2^64 by decide⟩
def KG{a b:Nat}(H:a<2^64)(d:b<2^64):a|||b<2^64:=Zz H d
def KH{fo:List Nat}{a b:Nat}(h:∀ f∈fo,f<2^64)(g:b<2^64):∀ f∈vL fo a b,f<2^64:=λ f j=>by
 obtain⟨i,H⟩:=Zh.1 j;have l:=(KC.1 H).1;rw[l0]at l;have d:fo[i]? =some fo[i]:=py l;rw[EK d,YB]at H;have:=h _ (Xs d);subst H;split
 ·exact KG this g
 ·exact this
def l1{fo:List Nat}{p q:qz}(h:∀ f∈fo,f<2^64)(d:OkPX p)(H:OkPX q):I (dQ fo p q).1=I fo/\(∀ f∈(dQ fo p q).1,f<2^64)/\OkPX (dQ fo p q).2:=by
 refine⟨l0 _ _ _,KH h H.fi,?_,?_⟩
 ·show(if p.nl then p.fi|||q.fi else p.fi)<_;split
  ·exact KG d.fi H.fi
  ·exact d.fi
 ·show(if q.nl then q.la|||p.la else q.la)<_;split
  ·exact KG H.la d.la
  ·exact H.la
def Dm{f:TS->TS×qz}{z:TS×qz}{m:Nat}(H:OkS (f z.1).1 m/\OkPX (f z.1).2)(j:OkPX z.2):OkS (qA f z).1 m/\OkPX (qA f z).2:=by
 obtain⟨d,g,i⟩:=l1 H.1.lt j H.2;exact⟨⟨H.1.lv,d.trans H.1.fo,g⟩,i⟩
def Dn{f:TS->TS×qz}{z:TS×qz}{m:Nat}(H:OkS (f z.1).1 m/\OkPX (f z.1).2)(d:OkPX z.2):OkS (fZ f z).1 m/\OkPX (fZ f z).2:=⟨H.1,KG d.fi H.2.fi,KG d.la H.2.la⟩
def jw:∀ (q:Rx) {s:TS} {n:Nat},OkS s n->OkS (bd q s).1 (n+q.ps)/\OkPX (bd q s).2
 | .st a b,s,n,h=>by
  refine⟨⟨?_,?_,?_⟩,Zp _ bl,Zp _ bl⟩
  ·show(s.lv++[(a,b)]).length=n+1;rw[AT,h.lv];rfl
  ·show(s.fo++[0]).length=n+1;rw[AT,h.fo];rfl
  ·show ∀ f∈s.fo++[0],f<2^64;intro f d;rcases XE.1 d with d|d
   ·exact h.lt f d
   ·rw[XJ.1 d];decide
 | .c0,s,n,h=>⟨h,OkPX.p0 true⟩
 | .c2 x y,s,n,h=>by
  have H:=Dm (z:=(s,P0 true)) (jw x h) (OkPX.p0 true);have g:=Dm (jw y H.1) H.2;show OkS _ (n+(x.ps+y.ps))/\_;rw[<-YG];exact g
 | .u2 x y,s,n,h=>by
  have H:=Dn (z:=(s,P0 false)) (jw x h) (OkPX.p0 false);have g:=Dn (jw y H.1) H.2;show OkS _ (n+(x.ps+y.ps))/\_;rw[<-YG];exact g
 | .rp m k x,s,n,h=>by
  have H:=jw x h;show OkS (if k= -1 then _ else _:TS×qz).1 _/\OkPX (if k= -1 then _ else _:TS×qz).2;split
  ·exact⟨⟨H.1.lv,(l0 _ _ _).trans H.1.fo,KH H.1.lt H.2.fi⟩,H.2.fi,H.2.la⟩
  ·obtain⟨i,j,A⟩:=l1 H.1.lt H.2 (OkPX.p0 true);obtain⟨l,o,r⟩:=l1 (p:=P0 true) (q:=⟨(dQ (bd x s).1.fo (bd x s).2 (P0 true)).2.fi,(dQ (bd x s).1.fo (bd x s).2 (P0 true)).2.la,true⟩) j (OkPX.p0 true) ⟨A.fi,A.la⟩;exact⟨⟨H.1.lv,l.trans (i.trans H.1.fo),o⟩,r⟩
def Wz{q:Rx}(h:q.op=2)(s:TS):bd q s=q.ks.foldl (λ z x=>qA (bd x) z) (s,P0 true):=by
 cases q<;>simp only[Rx.op]at h<;>first|omega|rfl
def WA{q:Rx}(h:q.op=3)(s:TS):bd q s=q.ks.foldl (λ z x=>fZ (bd x) z) (s,P0 false):=by
 cases q<;>simp only[Rx.op]at h<;>first|omega|rfl
def qS{α β:Type}{f:β->α->β}{b:β}{l:List α}{k:Nat}{x:α}(h:l[k]? =some x):(J (k+1) l).foldl f b=f ((J k l).foldl f b) x:=by
 rw[X5 h,foldl_append];rfl
def KI{s:TS}{n:Nat}(h:OkS s n):∀ (l:List Rx),OkS (l.foldl (λ z x=>qA (bd x) z) (s,P0 true)).1 (n+(l.map Rx.ps).sum)/\OkPX (l.foldl (λ z x=>qA (bd x) z) (s,P0 true)).2:=by
 intro l
 suffices H:∀ (l:List Rx) (z:TS×qz) (n:Nat),OkS z.1 n->OkPX z.2->OkS (l.foldl (λ z x=>qA (bd x) z) z).1 (n+(l.map Rx.ps).sum)/\OkPX (l.foldl (λ z x=>qA (bd x) z) z).2 from H l _ n h (OkPX.p0 true)
 intro l;induction l with
 |nil=>exact λ z n d g=>⟨d,g⟩
 |cons x l j=>
  intro z n d g;have i:=Dm (jw x d) g;have:=j _ _ i.1 i.2;simp only[Zg,XZ,a02];rw[<-YG];exact this
def KJ{s:TS}{n:Nat}(h:OkS s n):∀ (l:List Rx),OkS (l.foldl (λ z x=>fZ (bd x) z) (s,P0 false)).1 (n+(l.map Rx.ps).sum)/\OkPX (l.foldl (λ z x=>fZ (bd x) z) (s,P0 false)).2:=by
 intro l
 suffices H:∀ (l:List Rx) (z:TS×qz) (n:Nat),OkS z.1 n->OkPX z.2->OkS (l.foldl (λ z x=>fZ (bd x) z) z).1 (n+(l.map Rx.ps).sum)/\OkPX (l.foldl (λ z x=>fZ (bd x) z) z).2 from H l _ n h (OkPX.p0 false)
 intro l;induction l with
 |nil=>exact λ z n d g=>⟨d,g⟩
 |cons x l j=>
  intro z n d g;have i:=Dn (jw x d) g;have:=j _ _ i.1 i.2;simp only[Zg,XZ,a02];rw[<-YG];exact this
def OP{t:xD}{s k x:Nat}(H:t.fo[k]? =some x)(h:s/2^k%2^1=1):nxU t s k|||x=nxU t s (k+1):=by
 show _=if s/2^k%2^1=1 then nxU t s k|||(t.fo[k]?).getD 0 else nxU t s k
 rw[Xp h,H];rfl
def Sr{t:xD}{s k x:Nat}(H:t.fo[k]? =some x)(h:¬ s/2^k%2^1=1):nxU t s k=nxU t s (k+1):=by
 show _=if s/2^k%2^1=1 then nxU t s k|||(t.fo[k]?).getD 0 else nxU t s k
 rw[Xn h]
def kc(c:Nat):Nat:=if 65<=c/\c<=90 then c+32 else c
def qT{c:Nat}(h:c<127):kc c<127:=by unfold kc;split<;>omega
def KK(c:Nat):Qo ((c:Nat):Int)=((kc c:Nat):Int):=by
 unfold Qo kc;by_cases h:65<=c/\c<=90
 ·rw[Xp h,Xp O];rfl
 ·rw[Xn h,Xn O]
def l3:∀ c<128,(Utf8.encode ((c:Nat):Int)).data.toList=[UInt8.ofNat c]:=a1O
def EM:∀ c<128,dec [UInt8.ofNat c]=(c,1):=a1O
def OQ{c:Nat}(H:c<128):dh (Utf8.encode ((c:Nat):Int)).data.toList=[⟨c,0,1⟩]:=by
 rw[l3 c H];unfold dh;rw[gn bw,YR,EM c H,eB bw]
def OR{a b:Nat}(H:a<128)(d:b<128)(h:Utf8.encode ((a:Nat):Int)=Utf8.encode ((b:Nat):Int)):a=b:=by
 have:=(l3 a H).symm.trans ((If (·.data.toList) h).trans (l3 b d));simp only[a2m,a2c]at this;have:=If UInt8.toNat this;simp at this;omega
def Hw{α:Type}{x u:α}{done r:List α}(h:[x]=done++u::r):done=[]/\u=x/\r=[]:=by
 match done,h with
 |[],h=>simp at h;exact⟨Y,h.1.symm,h.2⟩
 |a::d,h=>simp at h
def j2{c:Nat}(H:c<128):(Utf8.encode ((c:Nat):Int)).size=1:=by
 have e:∀ s:ByteArray,s.size=I s.data.toList:=λ _=>Y;rw[e,l3 c H];rfl
def KL{c:Nat}(H:c<128):(Utf8.encode ((c:Nat):Int)).data.toList.map UInt8.toNat=[c]:=by
 rw[l3 c H];simp only[XZ,Zy,a2m,a2c];simp;omega
def wrap32{z:Int}(h1: -2147483648<=z)(h2:z<2147483648):IntKind.i32.wrap z=z:=by
 unfold IntKind.wrap;simp only[IntKind.bits,IntKind.signed,a1e,XS,show((2:Int)^(32-1))=2147483648 from Y,show((2:Int)^32)=4294967296 from Y];split<;>omega
def OS(s:ByteArray):s.extract 0 s.size=s:=Dt (by
 have h:J s.size s.data.toList=s.data.toList:=Xx (KM (I s.data.toList));simp[ByteArray.data_extract,a1v,extract_eq_take_drop,h])
def OT{c:Nat}(H:c<128):(Utf8.encode ((c:Nat):Int)).extract 0 (0+1)=Utf8.encode ((c:Nat):Int):=by
 have h:=OS (Utf8.encode ((c:Nat):Int));rw[j2 H]at h;exact h
def Bm{c:Nat}(H:c<128):bL (Utf8.encode ((c:Nat):Int))=[c]:=KL H
def Dp(l:List Un):List Nat:=l.map λ z=>kc z.r
def sG(l:List Un):I (Dp l)=I l:=Xu ..
def OU{l:List Un}{u:Un}(h:kc u.r<128):Dp l++bL (Utf8.encode ((kc u.r:Nat):Int))=Dp (l++[u]):=by
 rw[Bm h];simp[Dp]
def OV{l:List Un}{u:Un}{c:Nat}(d:c<128)(h1:u.r=c)(h2:u.at_=0)(g:u.size=1)(H:¬ kc u.r≠u.r):Dp l++bL ((Utf8.encode ((c:Nat):Int)).extract u.at_ (u.at_+u.size))=Dp (l++[u]):=by
 rw[h2,g,OT d,Bm d,<-h1,<-Y3.1 H];simp[Dp,Y3.1 H]
def KN(c:Nat)(v:Int):Bool:=decide (0<=v/\Qo v=((kc c:Nat):Int))
def zv(c:Nat):List Int:=[((kc c:Nat):Int),((kc c:Nat):Int)-32,((kc c:Nat):Int)-80]
def KO(c:Nat):OY ((c:Nat):Int)=(zv c).filter (KN c):=by unfold OY zv;rw[KK];rfl
theorem yE(c:Nat):I (zv c)=3:=rfl
def Ql{c k:Nat}{x:Int}(H:c<127)(d:(zv c)[k]? =some x):x<127:=by
 have h:=Xs d;have:=qT H;simp only[zv,Xr,Xq,XA]at h;omega
def Ss{c k:Nat}{x:Int}(d:c<127)(g:(zv c)[k]? =some x)(h:0<=x/\Utf8.encode ((kc x.toNat:Nat):Int)=Utf8.encode ((kc c:Nat):Int)):(J k (zv c)).filter (KN c)++[x]=(J (k+1) (zv c)).filter (KN c):=by
 have p:KN c x=true:=by
  have j:=Ql d g;have l:=qT d;have o:=qT (show x.toNat<127 by omega);have i:=OR O O h.2;have H:=KK x.toNat;rw[show((x.toNat:Nat):Int)=x from O,i]at H;exact LW ⟨h.1,H⟩
 rw[ZD,g,YF,Option.toList_some,YE p];rfl
def UZ{c k:Nat}{x:Int}(g:(zv c)[k]? =some x)(h:¬ (0<=x/\Utf8.encode ((kc x.toNat:Nat):Int)=Utf8.encode ((kc c:Nat):Int))):(J k (zv c)).filter (KN c)=(J (k+1) (zv c)).filter (KN c):=by
 have p:¬ KN c x=true:=by
  intro p;have H:=XR p;have d:=KK x.toNat;rw[show((x.toNat:Nat):Int)=x from O,H.2]at d;exact h ⟨H.1,by rw[<-d]⟩
 rw[ZD,g,YF,Option.toList_some,Z2 p,filter_nil,Yr]
def V0{c k:Nat}{M:List Int}(h:M=(J k (zv c)).filter (KN c)):I M<=3:=by
 have H:=a0f (KN c) (J k (zv c));rw[<-h,Xo,yE]at H;omega
def OW(c:Nat):I (OY ((c:Nat):Int))<=3:=by rw[KO];exact XL (a0f ..) (by rw[yE];exact KM 3)
def St{c k:Nat}{M:List Int}(H:M=(J k (zv c)).filter (KN c))(d:¬ k<3):M=OY ((c:Nat):Int):=by
 rw[H,KO,Xx (by rw[yE];omega)]
def Qm(l:List Un):List Int:=l.map λ u=>((u.r:Nat):Int)
def Hx{s:ByteArray}(h:∀ u∈dh s.data.toList,32<=u.r/\u.r<127):dA s=true:=by
 unfold dA;rw[Y6];intro u H;have:=h u H;simp[Un.ok];omega
def Su{α:Type}{a x:α}{k:Nat}(h:[a][k]? =some x):k=0/\x=a:=by
 match k,h with
 |0,h=>exact⟨Y,by simpa using h.symm⟩
 |k+1,h=>simp at h
def EN{t:xD}{n s k:Nat}{v:Int}{rg:Nat×Nat}(h:t.lv[k]? =some rg)(H:n/2^k%2^1=1/\decide (((rg.1:Nat):Int)<=v/\v<=((rg.2:Nat):Int))=true):stV t n v s k|||2^k=stV t n v s (k+1):=by
 have hd:=XR H.2;show _=if n/2^k%2^1=1/\((((t.lv[k]?).getD (1,0)).1:Nat):Int)<=v/\v<=((((t.lv[k]?).getD (1,0)).2:Nat):Int)then stV t n v s k|||2^k else stV t n v s k
 rw[h,Xp ⟨H.1,hd⟩]
def KQ{t:xD}{n s k:Nat}{v:Int}{rg:Nat×Nat}(h:t.lv[k]? =some rg)(d:¬ (n/2^k%2^1=1/\decide (((rg.1:Nat):Int)<=v/\v<=((rg.2:Nat):Int))=true)):stV t n v s k=stV t n v s (k+1):=by
 show _=if n/2^k%2^1=1/\((((t.lv[k]?).getD (1,0)).1:Nat):Int)<=v/\v<=((((t.lv[k]?).getD (1,0)).2:Nat):Int)then stV t n v s k|||2^k else stV t n v s k
 rw[h,Xn λ H=>d ⟨H.1,LW H.2⟩]
def Ui(t:xD)(n:Nat)(vs:List Int):Nat:=vs.foldl (λ s v=>stV t n v s (I t.lv)) 0
def KR{t:xD}{n k S:Nat}{vs:List Int}{z:Int}(h:vs[k]? =some z)(H:S=Ui t n (J k vs)):stV t n z S (I t.lv)=Ui t n (J (k+1) vs):=by rw[H];exact(qS (f:=λ s v=>stV t n v s (I t.lv)) (b:=0) h).symm
def V1{t:xD}{r:Int->List Int}{s:ByteArray}{i S c z:Nat}{b X:Bool}(u:cv s.data.toList i=⟨c,i,z⟩::cv s.data.toList (i+z))(H:MK t r (Qm (cv s.data.toList i)) S b=X):
  (if Ui t (nxM t S b) (r ((c:Nat):Int))=0 then false else MK t r (Qm (cv s.data.toList (i+z))) (Ui t (nxM t S b) (r ((c:Nat):Int))) false)=X:=by
 rw[u]at H;exact H
def Sv{t:xD}{r:Int->List Int}{s:ByteArray}{i S:Nat}{b X:Bool}(h:s.size<=i)(H:MK t r (Qm (cv s.data.toList i)) S b=X):X=(b&&t.nl||decide (S&&&t.ls≠0)):=by
 rw[eB h]at H;exact H.symm
def OX{j:Nat}(h:j<64):1*2^j%2^64=2^j:=by
 rw[Z0];exact XN (Nat.pow_lt_pow_right bl h)
