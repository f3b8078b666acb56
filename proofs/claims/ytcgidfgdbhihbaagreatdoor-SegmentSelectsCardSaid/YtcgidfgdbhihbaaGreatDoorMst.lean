/-
 Mst:plain facts on stable sorting by a key,by insertion,rotation and merging in place (layer 14 and wherever Go's stable sort is used). No program in sight.
-/
import Derived.WalkKit
import Derived.Test.YtcgidfgdbhihbaaGreatDoorM06
open List renaming length→I,take→J,drop→ww
open ByteArray renaming empty→wt
set_option linter.all false
open Go.Proofs.YtcgidfgdbhihbaaGreatDoor
open List hiding lt
namespace Go.Kw
section
variable {α:Type}
def sw(l:List α)(i j:Nat):List α:=
 match l[i]?,l[j]? with
 |some x,some y=>(l.set i y).set j x
 |_,_=>l
def Va{l:List α}{i j:Nat}{x y:α}(H:l[i]? =some x)(hj:l[j]? =some y):sw l i j=(l.set i y).set j x:=by simp[sw,H,hj]
@[simp] theorem Ul(l:List α)(i j:Nat):I (sw l i j)=I l:=by unfold sw;split<;>simp
def yT{P Q:List α}{x y:α}{i:Nat}(h:i=I P):(P++x::Q).set i y=P++y::Q:=by subst h;simp
def get_at{P Q:List α}{x:α}{i:Nat}(h:i=I P):(P++x::Q)[i]? =some x:=by subst h;simp
def SO(X:List α)(n:Nat)(h:n<I X):∃ x d,ww n X=x::d/\ww (n+1) X=d/\J (n+1) X=J n X++[x]:=
 ⟨X[n],ww (n+1) X,(getElem_cons_drop h).symm,Y,(take_append_getElem h).symm⟩
def Ll(l:List α)(a b:Nat):Nat->List α
 |0=>l
 |n+1=>sw (Ll l a b n) (a+n) (b+n)
@[simp] theorem Pd(l:List α)(a b n:Nat):I (Ll l a b n)=I l:=by induction n<;>simp_all [Ll]
def WE(l:List α)(a:Nat):Nat->List α
 |0=>l
 |n+1=>sw (WE l a n) (a+n) (a+n+1)
@[simp] theorem SP(l:List α)(a n:Nat):I (WE l a n)=I l:=by induction n<;>simp_all [WE]
def WG(l:List α)(m:Nat):Nat->List α
 |0=>l
 |n+1=>sw (WG l m n) (m-n) (m-n-1)
@[simp] theorem SQ(l:List α)(a n:Nat):I (WG l a n)=I l:=by induction n<;>simp_all [WG]
def Srt(key:α->Nat)(l:List α):Prop:=l.Pairwise λ a b=>key a<=key b
def Stb(key:α->Nat)(l m:List α):Prop:=∀ k,l.filter (λ x=>key x==k)=m.filter (λ x=>key x==k)
variable {key:α->Nat}
theorem Stb.refl(l:List α):Stb key l l:=λ _=>Y
theorem Stb.symm{l m:List α}(h:Stb key l m):Stb key m l:=λ k=>(h k).symm
def Stb.trans{l m n:List α}(h:Stb key l m)(g:Stb key m n):Stb key l n:=λ k=>(h k).trans (g k)
theorem Stb.append{l l' m d:List α}(h:Stb key l l')(g:Stb key m d):Stb key (l++m) (l'++d):=λ k=>by simp only[YF,h k,g k]
def Stb.comm{l m:List α}(h:∀ x∈l,∀ y∈m,key x≠key y):Stb key (l++m) (m++l):=λ k=>by
 simp only[YF];rcases hl:l.filter (λ x=>key x==k)with _|⟨x,r⟩
 ·simp
 ·have H:x∈l.filter (λ x=>key x==k):=by rw[hl];simp
  rw[Z3]at H;have:m.filter (λ x=>key x==k)=[]:=by
   rw[YD];intro y g d;exact h x H.1 y g (by have:=H.2;simp at this d;omega)
  simp[this]
def Stb.mem{l m:List α}(h:Stb key l m){x:α}:x∈l↔x∈m:=by
 have e:∀ q:List α,x∈q↔x∈q.filter (λ y=>key y==key x):=λ q=>by simp[Z3]
 rw[e l,e m,h (key x)]
theorem Stb.perm:∀ {l m:List α},Stb key l m->l.Perm m
 |[],m,h=>by
  cases m with
  |nil=>exact .refl _
  |cons y r=>exact absurd (h.mem.2 Yp) bw
 |x::l,m,h=>by
  obtain⟨p,q,rfl,i⟩:∃ p q,m=p++x::q/\∀ y∈p,key y≠key x:=by
   have j:=h (key x);rw[YE bw]at j;have:∀ m:List α,∀ r,x::r=m.filter (λ y=>key y==key x)->∃ p q,m=p++x::q/\∀ y∈p,key y≠key x:=by
    intro m;induction m with
    |nil=>intro r h;simp at h
    |cons y m w=>
     intro r d;by_cases H:key y=key x
     ·rw[YE zc]at d;exact⟨[],m,by simp[List.cons.inj d|>.1],bw⟩
     ·rw[Z2 zc]at d;obtain⟨p,q,rfl,i⟩:=w r d;exact⟨y::p,q,Y,λ z u=>(Xr.1 u).elim (λ e=>e▸H) (i z)⟩
   exact this m _ j
  have o:Stb key l (p++q):=λ k=>by
   have:=h k;simp only[YF,a0n]at this⊢;by_cases g:key x=k
   ·have t:p.filter (λ y=>key y==k)=[]:=by
     rw[YD];intro y H;simpa[<-g]using i y H
    simp[g,t]at this⊢;exact this
   ·simp[g]at this⊢;exact this
  exact(List.Perm.cons x o.perm).trans a2x.symm
def Stb.length{l m:List α}(h:Stb key l m):I l=I m:=h.perm.length_eq
theorem Srt.append{l m:List α}:Srt key (l++m)↔Srt key l/\Srt key m/\∀ x∈l,∀ y∈m,key x<=key y:=by unfold Srt;rw[YU]
theorem Srt.nil:Srt key ([]:List α):=List.Pairwise.nil
theorem Srt.one(x:α):Srt key [x]:=by simp[Srt]
def wh(key:α->Nat)(x:α):List α->List α
 |[]=>[x]
 |y::r=>if key x<=key y then x::y::r else y::wh key x r
def bN(key:α->Nat):List α->List α
 |[]=>[]
 |x::r=>wh key x (bN key r)
def uM(x:α):∀ l:List α,Stb key (x::l) (wh key x l)
 |[]=>Stb.refl _
 |y::r=>by
  rw[wh];split
  ·exact Stb.refl _
  ·have H:Stb key (x::y::r) (y::x::r):=Stb.append (l:=[x,y]) (l':=[y,x]) (Stb.comm (l:=[x]) (m:=[y]) cf) (Stb.refl r);exact H.trans (Stb.append (Stb.refl [y]) (uM x r))
def Bx(x:α):∀ l:List α,Srt key l->Srt key (wh key x l)
 |[],_=>Srt.one x
 |y::r,h=>by
  have d:=XY.1 h;rw[wh];split
  ·rename_i hxy
   exact XY.2 ⟨λ z H=>(Xr.1 H).elim (λ e=>e▸hxy) (λ H=>XL hxy (d.1 z H)),h⟩
  ·refine XY.2 ⟨λ z H=>?_,Bx x r d.2⟩;rcases Xr.1 ((uM x r).mem.2 H)with rfl|H
   ·omega
   ·exact d.1 z H
def bn:∀ l:List α,Stb key l (bN key l)
 |[]=>Stb.refl _
 |x::r=>(Stb.append (Stb.refl [x]) (bn r)).trans (uM x _)
def ct:∀ l:List α,Srt key (bN key l)
 |[]=>Srt.nil
 |x::r=>Bx x _ (ct r)
def Srt.unique:∀ {l m:List α},Srt key l->Srt key m->Stb key l m->l=m
 |[],m,_,_,h=>by
  have:=h.length;simp at this;exact(XM this.symm).symm
 |x::l,[],_,_,h=>by have:=h.length;simp at this
 |x::l,y::m,hl,hm,h=>by
  have d:=XY.1 hl;have g:=XY.1 hm;have i:key x=key y:=by
   have A:key x<=key y:=by
    rcases Xr.1 (h.mem.2 (Yp:y∈y::m))with e|e
    ·rw[e];exact KM _
    ·exact d.1 y e
   have j:key y<=key x:=by
    rcases Xr.1 (h.mem.1 (Yp:x∈x::l))with e|e
    ·rw[e];exact KM _
    ·exact g.1 x e
   omega
  have H:x=y:=by
   have:=h (key x);rw[YE bw,YE a0V]at this;exact(List.cons.inj this).1
  subst H;congr 1;refine Srt.unique d.2 g.2 λ k=>?_;have:=h k;simp only[a0n]at this;split at this
  ·exact(List.cons.inj this).2
  ·exact this
def kg{l m:List α}(h:Srt key m)(g:Stb key l m):m=bN key l:=h.unique (ct l) (g.symm.trans (bn l))
@[simp] theorem l4(l:List α):I (bN key l)=I l:=(bn l).length.symm
def kl(key:α->Nat)(l:List α)(i j:Nat):Bool:=
 match l[i]?,l[j]? with
 |some x,some y=>decide (key x<key y)
 |_,_=>false
def nA(key:α->Nat)(a:Nat):Nat->List α->List α
 |0,l=>l
 |j+1,l=>if a<j+1/\kl key l (j+1) j=true then nA key a j (sw l (j+1) j)else l
def ew(key:α->Nat)(a:Nat)(l:List α):Nat->List α
 |0=>l
 |n+1=>nA key a (a+(n+1)) (ew key a l n)
def kj{a j:Nat}{l:List α}{x y:α}(h:¬ (a<j/\key x<key y))(d:l[j]? =some x)(H:l[j-1]? =some y):nA key a j l=l:=by
 cases j with
 |zero=>rfl
 |succ j=>
  rw[nA];rw[Yh]at H;have:kl key l (j+1) j=decide (key x<key y):=by unfold kl;rw[d,H]
  rw[this,Xn];simpa using h
def yU{a j:Nat}{l:List α}{x y:α}(h:a<j/\key x<key y)(d:l[j]? =some x)(H:l[j-1]? =some y):nA key a j l=nA key a (j-1) ((l.set j y).set (j-1) x):=by
 cases j with
 |zero=>omega
 |succ j=>
  rw[nA];rw[Yh]at H⊢;have:kl key l (j+1) j=decide (key x<key y):=by unfold kl;rw[d,H]
  rw[this,Xp ra,Va d H]
@[simp] theorem rO(a:Nat):∀ (j:Nat) (l:List α),I (nA key a j l)=I l
 |0,l=>rfl
 |j+1,l=>by rw[nA];split<;>simp[rO a j]
@[simp] theorem mh(a:Nat)(l:List α):∀ n,I (ew key a l n)=I l
 |0=>rfl
 |n+1=>by rw[ew,rO,mh a l n]
def F9(A:List α)(x:α){a:Nat}(D:a=I A):∀ (n:Nat) (S B:List α),I S=n->∀ j,j=a+n->Srt key S->
  ∃ i,nA key a j (A++S++x::B)=A++i++B/\Srt key i/\Stb key (S++[x]) i
 |0,S,B,hn,j,hj,_=>by
  have:S=[]:=XM hn;subst this;refine⟨[x],?_,Srt.one x,Stb.refl _⟩;have r:nA key a j (A++[]++x::B)=A++[]++x::B:=by
   cases j with
   |zero=>rfl
   |succ j=>rw[nA,Xn O]
  rw[r];simp
 |n+1,S,B,hn,j,hj,hS=>by
  obtain⟨d,y,rfl⟩:∃ d y,S=d++[y]:=⟨S.dropLast,S.getLast (by intro h;rw[h]at hn;simp at hn),(dropLast_concat_getLast _).symm⟩;simp at hn;have g:=Srt.append.1 hS;have E:(A++(d++[y])++x::B)[j]? =some x:=get_at (P:=A++(d++[y])) cf;have l:(A++(d++[y])++x::B)[j-1]? =some y:=by
   rw[show A++(d++[y])++x::B=(A++d)++y::(x::B) by simp];exact get_at cf
  by_cases K:key x<key y
  ·have w:((A++(d++[y])++x::B).set j y).set (j-1) x=A++d++x::(y::B):=by
    rw[yT (P:=A++(d++[y])) cf,show A++(d++[y])++y::B=(A++d)++y::(y::B) by simp,yT cf]
   obtain⟨i,t,u,o⟩:=F9 A x D n d (y::B) hn (j-1) O g.1;refine⟨i++[y],?_,?_,?_⟩
   ·rw[yU ⟨O,K⟩ E l,w,t];simp
   ·refine Srt.append.2 ⟨u,Srt.one y,λ z H q k=>?_⟩;simp at k;subst k;rcases XE.1 (o.mem.2 H)with H|H
    ·exact g.2.2 z H q bw
    ·simp at H;subst H;omega
   ·have p:Stb key (d++[y]++[x]) (d++[x]++[y]):=by
     rw[KW,KW];exact(Stb.refl d).append (Stb.comm cf)
    exact p.trans (o.append (Stb.refl [y]))
  ·refine⟨d++[y]++[x],?_,?_,Stb.refl _⟩
   ·rw[kj O E l];simp
   ·refine Srt.append.2 ⟨hS,Srt.one x,λ z H q k=>?_⟩;simp at k;subst k;rcases XE.1 H with H|H
    ·exact XL (g.2.2 z H y bw) O
    ·simp at H;subst H;omega
def Fa(A S B:List α){a:Nat}(j:a=A.length):∀ n,n+1<=S.length->∃ d,ew key a (A++S++B) n=A++d++(S.drop (n+1)++B)/\Srt key d/\Stb key (S.take (n+1)) d
 |0,h=>by
  cases S with
  |nil=>simp at h
  |cons x S=>exact⟨[x],by simp[ew],Srt.one x,Stb.refl _⟩
 |n+1,h=>by
  obtain⟨d,r,t,i⟩:=Fa A S B j n O;obtain⟨y,l,X,H,g⟩:=SO S (n+1) O;have u:d.length=n+1:=by rw[<-i.length];simp;omega
  obtain⟨k,o,p,q⟩:=F9 (key:=key) A y j (n+1) d (l++B) u (a+(n+1)) Y t;refine⟨k,?_,p,?_⟩
  ·rw[ew,r,X,H,Zc,o]
  ·rw[g];exact(i.append (Stb.refl _)).trans q
def Lm(A S B:List α){a n:Nat}(l:a=I A)(i:n=I S-1):∃ d,ew key a (A++S++B) n=A++d++B/\Srt key d/\Stb key S d:=by
 rcases Yv (I S) with j|hp
 ·have:S=[]:=XM j;subst this;simp at i;subst i;exact⟨[],Y,Srt.nil,Stb.refl _⟩
 ·obtain⟨d,H,k,g⟩:=Fa (key:=key) A S B l n O;rw[show n+1=I S by omega,Yo (KM _),YW]at H;rw[show n+1=I S by omega,Xx (KM _)]at g;exact⟨d,H,k,g⟩
end
section
variable {α:Type} {key:α->Nat}
def Srt.take{l:List α}(h:Srt key l)(q:Nat):Srt key (J q l):=a1r (a2q q l) h
theorem Srt.left{l m:List α}(h:Srt key (l++m)):Srt key l:=(Srt.append.1 h).1
end
theorem all_take{α:Type}{P:α->Prop}{l:List α}{k:Nat}{x:α}(h:∀ z∈J k l,P z)(g:l[k]? =some x)(p:P x):∀ z∈J (k+1) l,P z:=λ z H=>by
 have d:=(KC.1 g);rw[<-take_append_getElem d.1,XE]at H;rcases H with H|H
 ·exact h z H
 ·simp at H;rw[H,d.2];exact p
def kr(x:Nat):Nat:=if 0<x then 2^(15-x)else 0
def jK:List Nat->Nat
 |[]=>0
 |x::r=>kr x+jK r
def gQ:∀ (l m:List Nat),jK (l++m)=jK l+jK m
 |[],m=>by simp[jK]
 |x::l,m=>by simp[jK,gQ l m];omega
def ei(l:List Nat):Bool:=l.all (λ x=>decide (x<=15))&&decide (jK l<=2^15)
def uN{l:List Nat}{x:Nat}(h:x∈l)(H:15<x):ei l=false:=by
 have:l.all (λ x=>decide (x<=15))=false:=by
  rw[all_eq_false];exact⟨x,h,cf⟩
 simp[ei,this]
def xH{l:List Nat}(h:∀ x∈l,x<=15):ei l=decide (jK l<=2^15):=by
 have:l.all (λ x=>decide (x<=15))=true:=by
  rw[Y6];intro x H;simpa using h x H
 simp[ei,this]
structure It where
 w:Nat
 sym:Int
 lf:Nat
 rt:Nat
def aR:Nat->List Nat->List It
 |_,[]=>[]
 |i,n::r=>if 0<n then⟨n,i,0,0⟩::aR (i+1) r else aR (i+1) r
def gR:∀ (l:List Nat) (i x:Nat),aR i (l++[x])=aR i l++(if 0<x then[⟨x,((i+I l:Nat):Int),0,0⟩]else[])
 |[],i,x=>by simp[aR]
 |n::r,i,x=>by
  have:=gR r (i+1) x;rw[show i+1+I r=i+I (n::r) by simp;omega]at this;rw[Zc,aR,aR,this];split<;>simp
def fp:∀ (l:List Nat) (i:Nat),I (aR i l)<=I l
 |[],i=>by simp[aR]
 |n::r,i=>by
  have:=fp r (i+1);rw[aR];split<;>simp<;>omega
def l5:∀ (l:List Nat) (i:Nat),∀ x∈aR i l,x.w∈l/\∃ j,x.sym=((i+j:Nat):Int)/\l[j]? =some x.w
 |[],i=>by simp[aR]
 |n::r,i=>λ x H=>by
  have d:∀ x∈aR (i+1) r,x.w∈n::r/\∃ j,x.sym=((i+j:Nat):Int)/\(n::r)[j]? =some x.w:=λ x H=>by
   obtain⟨g,j,k,o⟩:=l5 r (i+1) x H;exact⟨Ya _ g,j+1,by rw[k];congr 1;omega,a2P⟩
  rw[aR]at H;split at H
  ·rcases Xr.1 H with rfl|H
   ·exact⟨bw,0,bw,bw⟩
   ·exact d x H
  ·exact d x H
def leaves(c:List Nat):List It:=bN It.w (aR 0 c)
def bH:Nat->List Nat->List Nat
 |_,[]=>[]
 |i,n::r=>if 0<n then i::bH (i+1) r else bH (i+1) r
def mi:∀ (l:List Nat) (i x:Nat),bH i (l++[x])=bH i l++(if 0<x then[i+I l]else[])
 |[],i,x=>by simp[bH]
 |n::r,i,x=>by
  have:=mi r (i+1) x;rw[show i+1+I r=i+I (n::r) by simp;omega]at this;rw[Zc,bH,bH,this];split<;>simp
def gG:∀ (l:List Nat) (i:Nat),I (bH i l)<=I l
 |[],i=>by simp[bH]
 |n::r,i=>by
  have:=gG r (i+1);rw[bH];split<;>simp<;>omega
def l6:∀ (l:List Nat) (i:Nat),∀ x∈bH i l,i<=x/\x<i+I l/\0<l.getD (x-i) 0
 |[],i=>by simp[bH]
 |n::r,i=>λ x H=>by
  have d:∀ x∈bH (i+1) r,i<=x/\x<i+I (n::r)/\0<(n::r).getD (x-i) 0:=λ x H=>by
   obtain⟨j,k,g⟩:=l6 r (i+1) x H;refine⟨O,cf,?_⟩;rw[show x-i=(x-(i+1))+1 by omega];simpa using g
  rw[bH]at H;split at H
  ·rename_i hn
   rcases Xr.1 H with rfl|H
   ·exact⟨KM _,bw,by simpa using hn⟩
   ·exact d x H
  ·exact d x H
def au(l:List Nat)(i:Nat):Nat:=l.getD i 0
def ba(l:List Nat):List Nat:=bN (au l) (bH 0 l)
theorem Srt.get{α:Type}{key:α->Nat}{l:List α}(h:Srt key l){i j:Nat}{x y:α}(H:i<j)(k:l[i]? =some x)(o:l[j]? =some y):key x<=key y:=by
 obtain⟨d,rfl⟩:=KC.1 k;obtain⟨g,rfl⟩:=KC.1 o;exact YJ.1 h i j d g H
def ij(l:List Nat)(s:Nat×Nat×Nat×List Nat)(i:Nat):Nat×Nat×Nat×List Nat:=
 let c:=if 0<s.1 then(s.2.1+1)%2^64*2^(au l i-s.2.2.1)%2^64 else s.2.1
 (s.1+1,c,au l i,s.2.2.2.set i c)
def fz(l:List Nat)(o:List Nat):Nat×Nat×Nat×List Nat:=o.foldl (ij l) (0,0,0,List.replicate (I l) 0)
def eP(l o:List Nat)(i:Nat):fz l (o++[i])=ij l (fz l o) i:=by simp[fz]
def dn(l:List Nat):List Nat:=(fz l (ba l)).2.2.2
def rP(l:List Nat):∀ o,I (fz l o).2.2.2=I l:=λ o=>by
 have:∀ (o:List Nat) s,I (o.foldl (ij l) s).2.2.2=I s.2.2.2:=by
  intro o;induction o with
  |nil=>intro s;rfl
  |cons i r d=>intro s;rw[Zg,d];simp[ij]
 rw[fz,this];simp
def jL(l:List Nat):I (dn l)=I l:=rP l _
def km(l:List Nat):∀ x∈ba l,x<I l/\0<au l x:=λ x H=>by
 have:=l6 l 0 x ((bn _).mem.2 H);exact⟨O,by have:=this.2.2;simpa[au]using this⟩
def iF(l:List Nat):I (ba l)<=I l:=by
 have:=gG l 0;rw[ba,l4];exact this
def bB:Nat->List It->List It
 |i,x::y::r=>⟨x.w+y.w,-1,i,i+1⟩::bB (i+2) r
 |_,_=>[]
def uO:∀ (q i:Nat) (b:List It) (x y:It),b[2*q]? =some x->b[2*q+1]? =some y->
  bB i (J (2*(q+1)) b)=bB i (J (2*q) b)++[⟨x.w+y.w,-1,i+2*q,i+2*q+1⟩]
 |0,i,b,x,y,hx,hy=>by
  match b with
  |[]=>simp at hx
  |[_]=>simp at hy
  |u::v::r=>
   simp at hx hy;subst hx;subst hy;simp[bB]
 |q+1,i,b,x,y,hx,hy=>by
  match b with
  |[]=>simp at hx
  |[_]=>simp at hy
  |u::v::r=>
   have E:2*(q+1)=2*q+1+1:=O
   have g:2*(q+1+1)=2*(q+1)+1+1:=O
   rw[E]at hx hy;have H:r[2*q]? =some x:=a2L
   have d:r[2*q+1]? =some y:=a4y
   have j:=uO q (i+2) r x y H d;rw[g,E,YN,YN,YN,YN,bB,bB,Zc];rw[show 2*q+1+1=2*(q+1) by omega,j];simp;omega
def xI:∀ (q i:Nat) (b:List It),I b<=2*q+1->bB i (J (2*q) b)=bB i b
 |0,i,b,h=>by
  match b with
  |[]=>rfl
  |[x]=>rfl
  |_::_::_=>simp at h
 |q+1,i,b,h=>by
  match b with
  |[]=>rfl
  |[x]=>rfl
  |u::v::r=>
   have E:2*(q+1)=2*q+1+1:=O
   rw[E,YN,YN,bB,bB,xI q (i+2) r a4l]
def fQ:∀ (i:Nat) (b:List It),I (bB i b)=I b/2
 |i,[]=>by simp[bB]
 |i,[x]=>by simp[bB]
 |i,x::y::r=>by rw[bB,No,fQ (i+2) r,No,No];omega
def qX:∀ (i:Nat) (b:List It) (W:Nat),(∀ x∈b,x.w<=W)->∀ x∈bB i b,x.w<=2*W/\x.sym= -1
 |i,[],W,_=>by simp[bB]
 |i,[x],W,_=>by simp[bB]
 |i,x::y::r,W,h=>λ z H=>by
  rw[bB]at H;rcases Xr.1 H with rfl|H
  ·have g:=h x bw;have j:=h y bw;exact⟨by show x.w+y.w<=2*W;omega,Y⟩
  ·exact qX (i+2) r W (λ q d=>h q a1P) z H
def ko:∀ (i:Nat) (b:List It),∀ x∈bB i b,x.sym= -1
 |i,[]=>by simp[bB]
 |i,[x]=>by simp[bB]
 |i,x::y::r=>λ z H=>by
  rw[bB]at H;rcases Xr.1 H with rfl|H
  ·rfl
  ·exact ko (i+2) r z H
def kq(l b:List It):List It:=bN It.w (l++bB 0 b)
def pX(l b:List It):I (kq l b)=I l+I b/2:=by simp[kq,fQ]
def lvl(c:List Nat):Nat->List It
 |0=>leaves c
 |k+1=>kq (leaves c) (lvl c k)
def By(c:List Nat)(k:Nat):List (List It):=(List.range k).map (lvl c)
def HE(c:List Nat)(k:Nat):By c (k+1)=By c k++[lvl c k]:=by simp[By,YK]
def Bz(c:List Nat){i k:Nat}(h:i<k):(By c k)[i]? =some (lvl c i):=by simp[By,h]
def ef(c:List Nat):I (leaves c)<=I c:=by rw[leaves,l4];exact fp c 0
def cM(c:List Nat):∀ x∈leaves c,x.w∈c/\∃ j:Nat,x.sym=(j:Int)/\c[j]? =some x.w:=λ x H=>by
 have:=l5 c 0 x ((bn _).mem.2 H);simpa using this
def j5(c:List Nat):∀ k,I (leaves c)<=I (lvl c k)/\I (lvl c k)<=2*I (leaves c)
 |0=>by simp[lvl];omega
 |k+1=>by
  have:=j5 c k;rw[lvl,pX];omega
def BA(c:List Nat)(h1:1<=I (leaves c)):∀ k,2*I (leaves c)<=I (lvl c k)+1+(I (leaves c)-1)/2^k
 |0=>by simp[lvl];omega
 |k+1=>by
  have i:=BA c h1 k;rw[lvl,pX];have e:(I (leaves c)-1)/2^(k+1)=(I (leaves c)-1)/2^k/2:=by rw[YA,Nat.div_div_eq_div_mul]
  rw[e];omega
def Qv(c:List Nat)(W:Nat)(h:∀ x∈c,x<=W):∀ k,∀ x∈lvl c k,x.w<=W*2^k
 |0=>λ x H=>by have:=h _ (cM c x H).1;simpa using this
 |k+1=>λ x H=>by
  have i:=Qv c W h k;rw[lvl]at H;have p:W*2^(k+1)=2*(W*2^k):=by rw[YA,<-Zd,ZN]
  have d:W<=W*2^k:=ZF _ (Yt k);rcases XE.1 ((bn _).mem.2 H)with H|H
  ·have:=h _ (cM c x H).1;omega
  ·have:=(qX 0 _ _ i x H).1;omega
def Pe(c:List Nat):∀ k,∀ x∈lvl c k,x.sym= -1\/∃ j,x.sym=((j:Nat):Int)/\j<I c
 |0=>λ x H=>by
  obtain⟨_,j,d,g⟩:=cM c x H;exact .inr ⟨j,d,(KC.1 g).1⟩
 |k+1=>λ x H=>by
  rw[lvl]at H;rcases XE.1 ((bn _).mem.2 H)with H|H
  ·obtain⟨_,j,d,g⟩:=cM c x H;exact .inr ⟨j,d,(KC.1 g).1⟩
  ·exact .inl (ko 0 _ x H)
def bump(ls:List Nat)(x:It):List Nat:=if 0<=x.sym then ls.set x.sym.toNat (ls.getD x.sym.toNat 0+1)else ls
def cu(ls:List Nat)(X:List It):List Nat:=X.foldl bump ls
def l7(ls:List Nat)(X:List It)(x:It):cu ls (X++[x])=bump (cu ls X) x:=by simp[cu]
def mj(ls:List Nat)(x:It):I (bump ls x)=I ls:=by unfold bump;split<;>simp
def cB(X:List It):∀ ls,I (cu ls X)=I ls:=by
 induction X with
 |nil=>intro ls;rfl
 |cons x r i=>intro ls;rw[cu,Zg];exact(i _).trans (mj ls x)
def ku(X:List It):Nat:=X.countP λ x=>decide (x.sym<0)
def BB(X:List It)(x:It):ku (X++[x])=ku X+if x.sym<0 then 1 else 0:=by
 simp[ku,a2h,countP_cons]
def DA(X:List It)(t:Nat):ku (J t X)<=ku X:=(a2q t X).countP_le
def oA(c:List Nat):∀ x∈leaves c,0<=x.sym:=λ x H=>by
 obtain⟨_,j,h,_⟩:=cM c x H;omega
def oB(c:List Nat):ku (leaves c)=0:=by
 rw[ku,a1h];intro x H;have:=oA c x H;simp;omega
def Ln(c:List Nat)(b:List It):ku (kq (leaves c) b)=I b/2:=by
 have p:ku (kq (leaves c) b)=ku (leaves c++bB 0 b):=((bn (key:=It.w) (leaves c++bB 0 b)).perm.countP_eq _).symm;have H:=oB c;have d:ku (bB 0 b)=I (bB 0 b):=by
  rw[ku,countP_eq_length];intro x g;have:=ko 0 b x g;simp;omega
 rw[p];simp only[ku]at H d⊢;rw[a2h,H,d,fQ];omega
def down(c:List Nat):Nat->Nat->List Nat->List Nat
 |0,_,ls=>ls
 |k+1,t,ls=>down c k (2*ku (J t (lvl c k))) (cu ls (J t (lvl c k)))
def cC(c:List Nat):List Nat:=
 if(leaves c).length<2 then(leaves c).foldl (λ ls x=>ls.set x.sym.toNat 1) (List.replicate (I c) 0)else down c 15 (2*I (leaves c)-2) (List.replicate (I c) 0)
def qY(c:List Nat)(k t:Nat):2*ku (J t (lvl c (k+1)))<=I (lvl c k):=by
 have H:=DA (lvl c (k+1)) t;have d:ku (lvl c (k+1))=I (lvl c k)/2:=Ln c _;omega
def uP(c:List Nat)(h1:1<=I (leaves c))(H:I (leaves c)<=1024):2*I (leaves c)-2<=I (lvl c 14):=by
 have:=BA c h1 14;rw[a1j (by omega:I (leaves c)-1<2^14)]at this;omega
def Fb{ls:List Nat}{B:Nat}(h:∀ x∈ls,x<=B)(y:It):∀ x∈bump ls y,x<=B+1:=λ x H=>by
 unfold bump at H;split at H
 ·rcases YT H with H|rfl
  ·have:=h x H;omega
  ·rw[KV];cases g:ls[y.sym.toNat]? with
   |none=>simp
   |some v=>have:=h v (Xs g);simp;exact this
 ·have:=h x H;omega
def rQ(c:List Nat):∀ k t ls,I (down c k t ls)=I ls
 |0,t,ls=>rfl
 |k+1,t,ls=>by rw[down,rQ c k,cB]
def l8(c:List Nat):I (cC c)=I c:=by
 unfold cC;split
 ·have:∀ (X:List It) (ls:List Nat),I (X.foldl (λ ls x=>ls.set x.sym.toNat 1) ls)=I ls:=by
   intro X;induction X with
   |nil=>intro ls;rfl
   |cons x r i=>intro ls;rw[Zg,i];simp
  rw[this];simp
 ·rw[rQ];simp
section
variable {α:Type} {key:α->Nat}
def Srt.filter{l:List α}(h:Srt key l)(p:α->Bool):Srt key (l.filter p):=a1r filter_sublist h
def iG(l:List α)(p:α->Bool):(bN key l).filter p=bN key (l.filter p):=
 kg ((ct l).filter p) λ k=>by
  have h:=bn (key:=key) l k;have H:(l.filter p).filter (λ x=>key x==k)=(l.filter λ x=>key x==k).filter p:=a3H
  have d:((bN key l).filter p).filter (λ x=>key x==k)=((bN key l).filter λ x=>key x==k).filter p:=a3H
  rw[H,d,h]
def ky{l:List α}(h:Srt key l):bN key l=l:=(kg h (Stb.refl l)).symm
def Srt.take_drop{l:List α}(h:Srt key l)(t:Nat):∀ x∈J t l,∀ y∈ww t l,key x<=key y:=by
 rw[<-XV t l,Srt.append]at h;exact h.2.2
def gr(l:List α)(p:α->Bool)(t:Nat):l.countP p=(J t l).countP p+(ww t l).countP p:=by
 conv=>lhs;rw[<-XV t l]
 rw[a2h]
def dq(p:α->Bool):∀ (l:List α) (t:Nat),(J t l).filter p=J ((J t l).countP p) (l.filter p)
 |[],t=>by simp
 |x::r,0=>by simp
 |x::r,t+1=>by
  rw[YN];cases H:p x with
  |true=>rw[YE H,YE H,a2k H,YN,dq p r t]
  |false=>rw[Z2 zc,Z2 zc,a2l zc,dq p r t]
end
def fR(x:It):Bool:=decide (0<=x.sym)
def pY(x:It):Bool:=decide (x.sym<0)
def rR(X:List It):Nat:=X.countP fR
def Fc(X:List It):rR X+ku X=I X:=by
 induction X with
 |nil=>rfl
 |cons x r i=>
  simp only[rR,ku,fR,countP_cons,No]at i⊢;by_cases h:0<=x.sym
  ·simp[h,show¬ x.sym<0 by omega];omega
  ·simp[h,show x.sym<0 by omega];omega
def pZ(i:Nat)(b:List It):(bB i b).filter pY=bB i b/\(bB i b).filter fR=[]:=by
 refine⟨Z8.2 λ x H=>?_,YD.2 λ x H=>?_⟩<;>(have:=ko i b x H;simp[pY,fR,this])
def jM(c:List Nat):(leaves c).filter fR=leaves c/\(leaves c).filter pY=[]:=by
 refine⟨Z8.2 λ x H=>?_,YD.2 λ x H=>?_⟩<;>(have:=oA c x H;simp[pY,fR];omega)
def kz:∀ (q i:Nat) (b:List It) (z:It),(bB i b)[q]? =some z->∃ x y,b[2*q]? =some x/\b[2*q+1]? =some y/\z.w=x.w+y.w
 |_,_,[],z,h=>by simp[bB]at h
 |_,_,[x],z,h=>by simp[bB]at h
 |0,i,x::y::r,z,h=>by simp[bB]at h;subst h;exact⟨x,y,Y,Y,Y⟩
 |q+1,i,x::y::r,z,h=>by
  rw[bB]at h;obtain⟨u,v,H,d,g⟩:=kz q (i+2) r z ra;refine⟨u,v,?_,?_,g⟩
  ·rw[show 2*(q+1)=2*q+1+1 by omega];simpa using H
  ·rw[show 2*(q+1)+1=2*q+1+1+1 by omega];simpa using d
def qZ(i:Nat)(b:List It)(h:Srt It.w b):Srt It.w (bB i b):=by
 refine YJ.2 λ p q o t r=>?_;obtain⟨x,y,H,k,l⟩:=kz p i b _ (py o);obtain⟨u,v,g,d,j⟩:=kz q i b _ (py t);rw[l,j];have A:x.w<=u.w:=h.get O H g;have D:y.w<=v.w:=h.get O k d;omega
def l9(c:List Nat):∀ k,Srt It.w (lvl c k)
 |0=>ct _
 |_+1=>ct _
def j6(c:List Nat):∀ k,(lvl c k).filter fR=leaves c
 |0=>(jM c).1
 |k+1=>by
  rw[lvl,kq,iG,YF,(jM c).1,(pZ 0 _).2,Yr];exact ky (ct _)
def Lo(c:List Nat)(k:Nat):(lvl c (k+1)).filter pY=bB 0 (lvl c k):=by
 rw[lvl,kq,iG,YF,(jM c).2,(pZ 0 _).1,YW];exact ky (qZ 0 _ (l9 c k))
def iH(c:List Nat)(k t:Nat):(J t (lvl c k)).filter fR=J (rR (J t (lvl c k))) (leaves c):=by
 rw[dq,j6];rfl
def DB(c:List Nat)(k t:Nat):(J t (lvl c (k+1))).filter pY=J (ku (J t (lvl c (k+1)))) (bB 0 (lvl c k)):=by
 rw[dq,Lo];rfl
def BC(c:List Nat)(k t p:Nat)(d:ku (J t (lvl c (k+1)))=p+1):∃ z x y,z∈J t (lvl c (k+1))/\(lvl c k)[2*p]? =some x/\(lvl c k)[2*p+1]? =some y/\z.w=x.w+y.w:=by
 have h:=DB c k t;rw[d]at h;have o:I ((J t (lvl c (k+1))).filter pY)=p+1:=by rw[<-countP_eq_length_filter];exact d
 obtain⟨z,g⟩:=ut ((J t (lvl c (k+1))).filter pY) p O;have H:=g;rw[h,a08 O]at H;obtain⟨x,y,i,j,l⟩:=kz p 0 _ z H;exact⟨z,x,y,(Z3.1 (Xs g)).1,i,j,l⟩
def nb(c:List Nat):∀ k,∀ x∈lvl c k,0<x.w
 |0=>λ x H=>by
  have j:x∈aR 0 c:=(bn _).mem.2 H;have:∀ (l:List Nat) (i:Nat),∀ x∈aR i l,0<x.w:=by
   intro l;induction l with
   |nil=>intro i x H;simp[aR]at H
   |cons n r d=>
    intro i x H;rw[aR]at H;split at H
    ·rcases Xr.1 H with rfl|H
     ·assumption
     ·exact d _ x H
    ·exact d _ x H
  exact this _ _ x j
 |k+1=>λ x H=>by
  rcases XE.1 ((bn _).mem.2 H)with H|H
  ·exact nb c 0 x H
  ·obtain⟨q,o⟩:=Zh.1 H;obtain⟨u,v,g,_,p⟩:=kz q 0 _ x o;have:=nb c k u (Xs g);omega
def Lp(c:List Nat)(k t:Nat):rR (J (2*ku (J t (lvl c (k+1)))) (lvl c k))<=rR (J t (lvl c (k+1))):=by
 cases o:ku (J t (lvl c (k+1)))with
 |zero=>simp[rR]
 |succ p=>
  obtain⟨z,x,y,D,r,g,hw⟩:=BC c k t p o;have A:=nb c k x (Xs r);let q:It->Bool:=λ u=>fR u&&decide (u.w<z.w);have E:rR (J (2*(p+1)) (lvl c k))<=(J (2*(p+1)) (lvl c k)).countP q:=by
   refine countP_mono_left λ u H l=>?_;obtain⟨i,d⟩:=Zh.1 H;rw[Yu]at d;split at d
   ·have:u.w<=y.w:=by
     rcases XI i (2*p+1)with h|h
     ·exact(l9 c k).get h d g
     ·have:i=2*p+1:=O
      subst this;rw[d]at g;cases g;exact KM _
    have:u.w<z.w:=O
    simp[q,l,this]
   ·cases d
  have K:(J (2*(p+1)) (lvl c k)).countP q<=(lvl c k).countP q:=(a2q _ _).countP_le;have j:∀ k,(lvl c k).countP q=(leaves c).countP λ u=>decide (u.w<z.w):=λ k=>by
   rw[<-j6 c k,countP_filter];exact countP_congr λ u _=>by simp[q,and_comm]
  have N:(lvl c (k+1)).countP q=(J t (lvl c (k+1))).countP q:=by
   rw[gr _ _ t];have:(ww t (lvl c (k+1))).countP q=0:=by
    rw[a1h];intro u H;have:=(l9 c (k+1)).take_drop t z D u H;simp[q];intro _;omega
   omega
  have P:(J t (lvl c (k+1))).countP q<=rR (J t (lvl c (k+1))):=countP_mono_left λ u _ H=>by simp[q]at H;exact H.1
  have:=j k;have:=j (k+1);omega
def oC(c:List Nat)(k:Nat):rR (lvl c k)=I (leaves c):=by
 rw[rR,countP_eq_length_filter,j6]
def Fe(c:List Nat)(N:2<=I (leaves c)):∀ k,rR (ww (2*I (leaves c)-2) (lvl c k))=0
 |0=>by
  rw[Yo (by simp[lvl];omega)];rfl
 |k+1=>by
  rw[rR,a1h];intro x g j;have t:=oC c (k+1);have D:=gr (lvl c (k+1)) fR (2*I (leaves c)-2);have A:0<(ww (2*I (leaves c)-2) (lvl c (k+1))).countP fR:=countP_pos_iff.2 ⟨x,g,j⟩;have r:I (J (2*I (leaves c)-2) (lvl c (k+1)))=2*I (leaves c)-2:=by
   rw[Xo];have:0<I (ww (2*I (leaves c)-2) (lvl c (k+1))):=length_pos_of_mem g;rw[XD]at this;omega
  have o:=Fc (J (2*I (leaves c)-2) (lvl c (k+1)));have K:I (leaves c)-1<=ku (J (2*I (leaves c)-2) (lvl c (k+1))):=by
   simp only[rR]at t o;omega
  obtain⟨p,P⟩:∃ p,ku (J (2*I (leaves c)-2) (lvl c (k+1)))=p+1:=⟨_-1,(Nat.sub_add_cancel O).symm⟩;obtain⟨z,u,y,T,Q,q,hw⟩:=BC c k _ p P;have W:=(l9 c (k+1)).take_drop _ z T x g;have R:=nb c k u (Xs Q);have l:x∈leaves c:=by rw[<-j6 c (k+1)];exact Z3.2 ⟨Yf g,j⟩
  have H:x∈lvl c k:=by rw[<-j6 c k]at l;exact(Z3.1 l).1
  have E:=Fe c N k;rw[rR,a1h]at E;rw[<-XV (2*I (leaves c)-2) (lvl c k),XE]at H;rcases H with H|H
  ·obtain⟨i,d⟩:=Zh.1 H;rw[Yu]at d;split at d
   ·have:x.w<=y.w:=by
     rcases XI i (2*p+1)with h|h
     ·exact(l9 c k).get h d q
     ·have:i=2*p+1:=O
      subst this;rw[d]at q;cases q;exact KM _
    omega
   ·cases d
  ·exact E x H j
def Lq(c:List Nat)(g:2<=I (leaves c))(k:Nat):rR (J (2*I (leaves c)-2) (lvl c k))=I (leaves c):=by
 have H:=Fe c g k;have d:=oC c k;have i:=gr (lvl c k) fR (2*I (leaves c)-2);simp only[rR]at H d⊢;omega
def er(l:List It)(ls:List Nat):Nat:=(l.map λ x=>2^(15-ls.getD x.sym.toNat 0)).sum
def iI(ls:List Nat)(X:List It):cu ls X=cu ls (X.filter fR):=by
 unfold cu;induction X generalizing ls with
 |nil=>rfl
 |cons x r i=>
  by_cases h:0<=x.sym
  ·rw[YE (by simp[fR,h]),Zg,Zg,i]
  ·rw[Z2 (by simp[fR,h]),Zg,show bump ls x=ls by simp[bump,h],i]
def fG{ls:List Nat}{i v:Nat}(h:i<I ls):(ls.set i v).getD i 0=v:=by simp[KV,h]
def ea{ls:List Nat}{i j v:Nat}(h:i≠j):(ls.set i v).getD j 0=ls.getD j 0:=by simp[KV,Zn h]
def Ok(n:Nat)(l:List It):Prop:=(∀ x∈l,0<=x.sym/\x.sym.toNat<n)/\l.Pairwise λ x y=>x.sym.toNat≠y.sym.toNat
theorem Ok.left{n:Nat}{l m:List It}(h:Ok n (l++m)):Ok n l:=⟨λ x H=>h.1 x (YM _ H),(YU.1 h.2).1⟩
theorem Ok.right{n:Nat}{l m:List It}(h:Ok n (l++m)):Ok n m:=⟨λ x H=>h.1 x (Yb _ H),(YU.1 h.2).2.1⟩
def mm{n:Nat}:∀ {l:List It} {ls:List Nat},Ok n l->I ls=n->∀ x∈l,(cu ls l).getD x.sym.toNat 0=ls.getD x.sym.toNat 0+1
 |y::r,ls,h,hl,x,hx=>by
  have j:cu ls (y::r)=cu (bump ls y) r:=rfl;have g:=h.1 y bw;have H:I (bump ls y)=n:=by rw[mj,hl]
  rw[j];have o:Ok n r:=Ok.right (l:=[y]) h;rcases Xr.1 hx with rfl|hx
  ·have t:∀ (r:List It) (ls:List Nat),(∀ z∈r,x.sym.toNat≠z.sym.toNat)->(cu ls r).getD x.sym.toNat 0=ls.getD x.sym.toNat 0:=by
    intro r;induction r with
    |nil=>intro ls _;rfl
    |cons z r p=>
     intro ls i;have:cu ls (z::r)=cu (bump ls z) r:=rfl;rw[this,p _ λ q k=>i q a2V];unfold bump;split
     ·exact ea λ e=>i z bw e.symm
     ·rfl
   rw[t r _ (XY.1 h.2).1];unfold bump;rw[Xp g.1,fG O]
  ·rw[mm o H x hx];have d:=(XY.1 h.2).1 x hx;unfold bump;rw[Xp g.1,ea d]
def nc{j:Nat}:∀ (l:List It) (ls:List Nat),(∀ x∈l,x.sym.toNat≠j)->(cu ls l).getD j 0=ls.getD j 0
 |[],ls,_=>rfl
 |x::r,ls,h=>by
  have:cu ls (x::r)=cu (bump ls x) r:=rfl;rw[this,nc r _ λ z H=>h z zc];unfold bump;split
  ·exact ea (h x bw)
  ·rfl
def qc(l m:List It)(ls:List Nat):er (l++m) ls=er l ls+er m ls:=by simp[er]
def mo{l:List It}{ls:List Nat}{d:Nat}(h:∀ x∈l,ls.getD x.sym.toNat 0=d):er l ls=I l*2^(15-d):=by
 unfold er;induction l with
 |nil=>simp
 |cons x r i=>
  rw[XZ,a02,i λ y H=>h y zc,h x bw,No,Yc,Z0,a1o]
def BD{l:List It}{ls d:List Nat}(h:∀ x∈l,ls.getD x.sym.toNat 0=d.getD x.sym.toNat 0):er l ls=er l d:=by
 unfold er;exact If List.sum (Zl λ x H=>by rw[h x H])
def BE{n:Nat}{A B:List It}{ls:List Nat}{k:Nat}(l:Ok n (A++B))(p:I ls=n)(r:k<=14)(j:∀ x∈A,ls.getD x.sym.toNat 0=14-k):
  er (A++B) (cu ls A)+I A*2^k=er (A++B) ls:=by
 rw[qc,qc];have o:er B (cu ls A)=er B ls:=BD λ x H=>nc A ls λ y q=>(YU.1 l.2).2.2 y q x H;have g:er A (cu ls A)=I A*2^k:=by
  rw[mo (d:=15-k) λ x H=>by rw[mm l.left p x H,j x H];omega];rw[show 15-(15-k)=k by omega]
 have i:er A ls=I A*2^(k+1):=by
  rw[mo (d:=14-k) j,show 15-(14-k)=k+1 by omega]
 rw[o,g,i,YA];have:I A*(2^k*2)=I A*2^k+I A*2^k:=by rw[ZN (2^k) 2,Nat.two_mul,Nat.mul_add]
 omega
def oD:∀ (l:List Nat) (i:Nat),(aR i l).Pairwise λ x y=>x.sym.toNat<y.sym.toNat
 |[],i=>by simp[aR]
 |n::r,i=>by
  rw[aR];split
  ·refine XY.2 ⟨λ y H=>?_,oD r (i+1)⟩;obtain⟨_,j,h,_⟩:=l5 r (i+1) y H;simp[h];omega
  ·exact oD r (i+1)
def ng(c:List Nat):Ok (I c) (leaves c):=by
 refine⟨λ x g=>?_,?_⟩
 ·obtain⟨_,j,h,d⟩:=cM c x g;have:=(KC.1 d).1;exact⟨O,by rw[h];simpa using this⟩
 ·have H:(aR 0 c).Pairwise λ x y=>x.sym.toNat≠y.sym.toNat:=(oD c 0).imp λ h=>by omega
  exact(bn (aR 0 c)).perm.pairwise H λ h=>h.symm
def BF(c:List Nat):∀ (k t:Nat) (ls:List Nat),I ls=I c->k<=15->t<=I (lvl c (k-1))->(k=0->t=0)->
  (∀ x∈J (rR (J t (lvl c (k-1)))) (leaves c),ls.getD x.sym.toNat 0=15-k)->er (leaves c) (down c k t ls)+t*2^k/2=er (leaves c) ls
 |0,t,ls,_,_,_,o,_=>by rw[o Y];simp[down]
 |k+1,t,ls,hl,hk,ht,_,hA=>by
  rw[Yh]at ht hA;have d:=λ x g=>(hA x g).trans (by omega:15-(k+1)=14-k);have y:=ng c;have H:=XV (rR (J t (lvl c k))) (leaves c);have u:rR (J t (lvl c k))<=I (leaves c):=by
   rw[<-oC c k];exact(a2q t (lvl c k)).countP_le
  have D:cu ls (J t (lvl c k))=cu ls (J (rR (J t (lvl c k))) (leaves c)):=by rw[iI,iH]
  have w:=BE (n:=I c) (A:=J (rR (J t (lvl c k))) (leaves c)) (B:=ww (rR (J t (lvl c k))) (leaves c)) (ls:=ls) (k:=k) (by rw[H];exact y) hl O d;rw[H,Xo,Y5 u]at w;have p:=Fc (J t (lvl c k));rw[Xo,Y5 ht]at p;rw[down,D];have q:t*2^(k+1)/2=t*2^k:=by rw[YA,<-Zd,Nat.mul_div_cancel _ bl]
  rw[q];cases k with
  |zero=>
   have o:ku (J t (lvl c 0))=0:=by
    have:=DA (lvl c 0) t;have h:=oB c;simp only[lvl]at this⊢;omega
   rw[o]at p⊢;simp only[a2e,Yj,Nat.mul_zero,down]at w⊢;omega
  |succ k=>
   have r:=Lp c k t;have K:=BF c (k+1) (2*ku (J t (lvl c (k+1)))) (cu ls (J (rR (J t (lvl c (k+1)))) (leaves c))) (by rw[cB,hl]) O (qY c k t) O (by
    intro x g;rw[Yh]at g;have j:x∈J (rR (J t (lvl c (k+1)))) (leaves c):=by
     rw[Zh]at g⊢;obtain⟨i,l⟩:=g;refine⟨i,?_⟩;rw[Yu]at l⊢;split at l
     ·rw[Xp O];exact l
     ·cases l
    rw[mm (Ok.left (m:=ww (rR (J t (lvl c (k+1)))) (leaves c)) (by rw[H];exact y)) hl x j,d x j];omega)
   have E:2*ku (J t (lvl c (k+1)))*2^(k+1)/2=ku (J t (lvl c (k+1)))*2^(k+1):=by
    rw[Zd,Nat.mul_div_cancel_left _ bl]
   rw[E]at K;have N:t*2^(k+1)=rR (J t (lvl c (k+1)))*2^(k+1)+ku (J t (lvl c (k+1)))*2^(k+1):=by rw[<-Yc,p]
   omega
def yV(ls:List Nat)(x:It)(j:Nat):ls.getD j 0<=(bump ls x).getD j 0:=by
 unfold bump;split
 ·by_cases h:x.sym.toNat=j
  ·subst h;by_cases l:x.sym.toNat<I ls
   ·rw[fG l];omega
   ·simp[KV,XQ (ZG l)]
  ·rw[ea h];exact KM _
 ·exact KM _
def nH(j:Nat):∀ (X:List It) (ls:List Nat),ls.getD j 0<=(cu ls X).getD j 0
 |[],ls=>KM _
 |x::r,ls=>XL (yV ls x j) (nH j r (bump ls x))
def qd(c:List Nat)(j:Nat):∀ k t ls,ls.getD j 0<=(down c k t ls).getD j 0
 |0,_,_=>KM _
 |k+1,t,ls=>XL (nH j _ ls) (qd c j k _ _)
def Lr(c:List Nat)(k t:Nat):Ok (I c) ((J t (lvl c k)).filter fR):=by
 rw[iH];exact Ok.left (m:=ww _ (leaves c)) (by rw[XV];exact ng c)
def DC(c:List Nat)(k t j:Nat){ls:List Nat}(l:I ls=I c):(cu ls (J t (lvl c k))).getD j 0<=ls.getD j 0+1:=by
 rw[iI];by_cases h:∃ x∈(J t (lvl c k)).filter fR,x.sym.toNat=j
 ·obtain⟨x,H,rfl⟩:=h;rw[mm (Lr c k t) l x H];exact KM _
 ·rw[nc _ _ λ x H he=>h ⟨x,H,he⟩];omega
def Ff(c:List Nat)(j:Nat):∀ k t ls,I ls=I c->(down c k t ls).getD j 0<=ls.getD j 0+k
 |0,_,_,_=>KM _
 |k+1,t,ls,hl=>by
  have H:=DC c k t j hl;have d:=Ff c j k (2*ku (J t (lvl c k))) (cu ls (J t (lvl c k))) (by rw[cB,hl]);rw[down];omega
def BG(c:List Nat)(j:Nat)(hj:∀ x∈leaves c,x.sym.toNat≠j):∀ k t ls,(down c k t ls).getD j 0=ls.getD j 0
 |0,_,_=>rfl
 |k+1,t,ls=>by
  rw[down,BG c j hj k,iI];refine nc _ _ λ x H=>hj x ?_;rw[iH]at H;exact XX H
def Ls{c:List Nat}{j n:Nat}(h:c[j]? =some n)(k:0<n):∃ x∈leaves c,x.sym.toNat=j/\x.w=n:=by
 have:∀ (l:List Nat) (i j:Nat),l[j]? =some n->∃ x∈aR i l,x.sym.toNat=i+j/\x.w=n:=by
  intro l;induction l with
  |nil=>intro i j h;simp at h
  |cons m r o=>
   intro i j h;cases j with
   |zero=>
    simp at h;subst h;rw[aR,Xp k];exact⟨⟨m,i,0,0⟩,bw,bw,Y⟩
   |succ j=>
    obtain⟨x,H,g,d⟩:=o (i+1) j ra;refine⟨x,?_,O,d⟩;rw[aR];split
    ·exact Ya _ H
    ·exact H
 obtain⟨x,H,g,d⟩:=this c 0 j h;exact⟨x,(bn _).mem.1 H,O,d⟩
def sL(l:List Nat):∀ (r s:List Nat) (i:Nat),ww i l=s->I s=I r->(∀ j,j<I r->(s.getD j 0=0↔r.getD j 0=0))->er (aR i r) l=jK s
 |[],s,i,_,hl,_=>by
  have H:s=[]:=XM (by simpa using hl);subst H;rfl
 |n::r,s,i,hd,hl,hz=>by
  match s with
  |[]=>simp at hl
  |v::s=>
   have k:l.getD i 0=v:=by
    have:(ww i l)[0]? =some v:=by rw[hd];rfl
    rw[YI]at this;rw[KV];simpa using If (λ o=>o.getD 0) this
   have g:=sL l r s (i+1) (by rw[<-a2v,hd];rfl) (by simpa using hl) (λ j p=>by have:=hz (j+1) (by simpa using p);simpa using this);have H:=hz 0 bw;simp only[getD_cons_zero]at H;rw[aR,jK];split
   ·rename_i hn
    have d:0<v:=O
    have e:er (⟨n,i,0,0⟩::aR (i+1) r) l=2^(15-l.getD i 0)+er (aR (i+1) r) l:=by simp[er]
    rw[e,g,k,kr,Xp d]
   ·have d:¬ 0<v:=O
    rw[g,kr,Xn d,XU]
structure LensOk(c ls:List Nat):Prop where
 len:I ls=I c
 le:∀ j,ls.getD j 0<=15
 zero:∀ j,j<I c->(ls.getD j 0=0↔c.getD j 0=0)
 kraft:jK ls<=2^15
def getD_some{l:List Nat}{j n:Nat}(h:l[j]? =some n):l.getD j 0=n:=by simp[KV,h]
def cO(n j:Nat):(List.replicate n 0).getD j 0=0:=by
 rw[KV,Z1];split<;>rfl
def Lt(c:List Nat)(hn:I (leaves c)<=1024):LensOk c (cC c):=by
 have H:=l8 c;have g:∀ ls,er (leaves c) ls=er (aR 0 c) ls:=λ ls=>((bn (key:=It.w) (aR 0 c)).perm.symm.map _).sum_nat;have t:∀ j,j<I c->c.getD j 0=0->∀ x∈leaves c,x.sym.toNat≠j:=λ j r q x k he=>by
  obtain⟨_,i,K,N⟩:=cM c x k;have:i=j:=O
  subst this;have hp:=nb c 0 x k;rw[getD_some N]at q;omega
 have A:∀ j,j<I c->c.getD j 0≠0->∃ x∈leaves c,x.sym.toNat=j:=λ j r q=>by
  have D:c[j]? =some c[j]:=py r;rw[getD_some D]at q;obtain⟨x,k,K,_⟩:=Ls D O;exact⟨x,k,K⟩
 rcases XI (I (leaves c)) 2 with N|N
 ·have E:cC c=(leaves c).foldl (λ ls x=>ls.set x.sym.toNat 1) (List.replicate (I c) 0):=by unfold cC;rw[Xp N]
  rcases Yv (I (leaves c)) with q|q
  ·have p:=XM q;rw[p]at E;have u:∀ j,j<I c->((cC c).getD j 0=0↔c.getD j 0=0):=λ j r=>by
    rw[E];refine⟨λ _=>?_,λ _=>cO ..⟩;refine Yx λ o=>?_;obtain⟨x,k,_⟩:=A j r o;rw[p]at k;cases k
   refine⟨H,λ j=>by rw[E];show(List.replicate (I c) 0).getD j 0<=15;rw[cO];omega,u,?_⟩;rw[<-sL (cC c) c (cC c) 0 Y H u,<-g,p];exact KD _
  ·obtain⟨x,k⟩:=ZE.1 (by omega:I (leaves c)=1);rw[k]at E;have Q:cC c=(List.replicate (I c) 0).set x.sym.toNat 1:=E;have T:=(ng c).1 x (by rw[k];simp);have D:∀ j,(cC c).getD j 0=if x.sym.toNat=j then 1 else 0:=λ j=>by
    rw[Q];by_cases h:x.sym.toNat=j
    ·subst h;rw[fG (by simpa using T.2),Xp Y]
    ·rw[ea h,Xn h,cO]
   have u:∀ j,j<I c->((cC c).getD j 0=0↔c.getD j 0=0):=λ j r=>by
    rw[D];by_cases h:x.sym.toNat=j
    ·rw[Xp h];refine⟨λ h=>by omega,λ q=>absurd h (t j r q x (by rw[k];simp))⟩
    ·rw[Xn h];refine⟨λ _=>Yx λ o=>?_,λ _=>Y⟩;obtain⟨y,W,X⟩:=A j r o;rw[k]at W;simp at W;subst W;exact h X
   refine⟨H,λ j=>by rw[D];split<;>omega,u,?_⟩;rw[<-sL (cC c) c (cC c) 0 Y H u,<-g,k];simp only[er,XZ,Zy,a02,sum_nil,D,Xp];decide
 ·have E:cC c=down c 15 (2*I (leaves c)-2) (List.replicate (I c) 0):=by unfold cC;rw[Xn O]
  have P:=Lq c N 14;have u:∀ j,j<I c->((cC c).getD j 0=0↔c.getD j 0=0):=λ j r=>by
   rw[E];refine⟨λ h=>Yx λ o=>?_,λ q=>by rw[BG c j (t j r q),cO]⟩;obtain⟨x,k,R⟩:=A j r o;rw[down]at h;have K:=qd c j 14 (2*ku (J (2*I (leaves c)-2) (lvl c 14))) (cu (List.replicate (I c) 0) (J (2*I (leaves c)-2) (lvl c 14)));rw[h]at K;rw[iI,iH,P,XH,<-R,mm (ng c) bw x k]at K;omega
  refine⟨H,λ j=>?_,u,?_⟩
  ·rw[E];have:=Ff c j 15 (2*I (leaves c)-2) (List.replicate (I c) 0) bw;rw[cO]at this;omega
  ·rw[<-sL (cC c) c (cC c) 0 Y H u,<-g];have h:=BF c 15 (2*I (leaves c)-2) (List.replicate (I c) 0) bw (KM _) (uP c O hn) O (λ x _=>by rw[cO]);rw[<-E,mo (l:=leaves c) (ls:=List.replicate (I c) 0) (d:=0) (λ x _=>cO ..)]at h;have e:(2*I (leaves c)-2)*2^15/2=(I (leaves c)-1)*2^15:=by
    rw[show 2*I (leaves c)-2=2*(I (leaves c)-1) by omega,Zd,Nat.mul_div_cancel_left _ bl]
   rw[e]at h;have e2:I (leaves c)*2^15=(I (leaves c)-1)*2^15+2^15:=by
    conv=>lhs;rw[show(leaves c).length=I (leaves c)-1+1 by omega]
    rw[Yc,Z0]
   simp only[a0j]at h;omega
def fS(l o:List Nat):Nat:=(o.map λ i=>2^(15-au l i)).sum
def dZ(l a b:List Nat):fS l (a++b)=fS l a+fS l b:=by simp[fS]
def qe(l:List Nat)(i:Nat):fS l [i]=2^(15-au l i):=by simp[fS]
def uQ{l o:List Nat}{d:Nat}(h:∀ x∈o,au l x=d):fS l o=I o*2^(15-d):=by
 unfold fS;induction o with
 |nil=>simp
 |cons x r i=>rw[XZ,a02,i λ y H=>h y zc,h x bw,No,Yc,Z0,a1o]
def uR(l:List Nat):∀ (s:List Nat) (i:Nat),ww i l=s->fS l (bH i s)=jK s
 |[],i,_=>rfl
 |v::s,i,hd=>by
  have H:l.getD i 0=v:=by
   have:(ww i l)[0]? =some v:=by rw[hd];rfl
   rw[YI]at this;rw[KV];simpa using If (λ o=>o.getD 0) this
  have d:=uR l s (i+1) (by rw[<-a2v,hd];rfl);rw[bH,jK];split
  ·rename_i hv
   have e:fS l (i::bH (i+1) s)=fS l [i]+fS l (bH (i+1) s):=dZ l [i] _;rw[e,qe,d,kr,Xp hv,au,H]
  ·rename_i hv
   rw[d,kr,Xn hv,XU]
def HF(l:List Nat):fS l (ba l)=jK l:=by
 rw[<-uR l l 0 Y];exact((bn (key:=au l) (bH 0 l)).perm.symm.map _).sum_nat
def nh:∀ (l:List Nat) (i:Nat),(bH i l).Pairwise (· < ·)
 |[],i=>by simp[bH]
 |n::r,i=>by
  rw[bH];split
  ·refine XY.2 ⟨λ y H=>?_,nh r (i+1)⟩;have:=l6 r (i+1) y H;omega
  ·exact nh r (i+1)
def BH(l:List Nat):(ba l).Nodup:=(bn (bH 0 l)).perm.nodup ((nh l 0).imp λ h=>by omega)
def jO(l:List Nat)(x:Nat)(h:0<au l x):x∈ba l:=by
 refine(bn _).mem.1 ?_;have:∀ (l:List Nat) (i x:Nat),0<l.getD x 0->i+x∈bH i l:=by
  intro l;induction l with
  |nil=>intro i x h;simp at h
  |cons n r d=>
   intro i x h;cases x with
   |zero=>simp at h;rw[bH,Xp h];simp
   |succ x=>
    have:=d (i+1) x ra;rw[bH];split
    ·exact Ya _ (by rw[show i+(x+1)=i+1+x by omega];exact this)
    ·rw[show i+(x+1)=i+1+x by omega];exact this
 have:=this l 0 x h;rwa[XU]at this
def lh{α:Type}{P:List α->Prop}(h0:P [])(h1:∀ l x,P l->P (l++[x]))(l:List α):P l:=by
 rw[<-reverse_reverse l];induction l.reverse with
 |nil=>exact h0
 |cons x r i=>rw[reverse_cons];exact h1 _ _ i
def xJ{L M:Nat}(h:L<=M)(H:M<=15):2^(M-L)*2^(15-M)=2^(15-L):=by rw[<-a0h];congr 1;omega
def HG(l:List Nat)(D:∀ i,au l i<=15):∀ (o:List Nat) (i:Nat),Srt (au l) (o++[i])->fS l (o++[i])<=2^15->
  (fz l (o++[i])).1=I o+1/\(fz l (o++[i])).2.2.1=au l i/\(fz l (o++[i])).2.1*2^(15-au l i)=fS l o/\(fz l (o++[i])).2.2.2=(fz l o).2.2.2.set i (fz l (o++[i])).2.1:=by
 refine lh ?_ ?_
 ·intro i _ _;simp[fz,ij,fS]
 ·intro o j Q i w N;have p:Srt (au l) (o++[j]):=w.left;have k:au l j<=au l i:=(Srt.append.1 w).2.2 j bw i bw;have g:fS l (o++[j])<=2^15:=by rw[dZ]at N;omega
  obtain⟨q,A,r,_⟩:=Q j p g;have H:=D i;have P:0<2^(15-au l j):=Yt _;have d:((fz l (o++[j])).2.1+1)*2^(15-au l j)<=2^15:=by
   rw[Yc,r,Z0,<-qe,<-dZ];exact g
  have R:(fz l (o++[j])).2.1+1<=2^15:=XL (ZF _ P) d;have E:((fz l (o++[j])).2.1+1)%2^64=(fz l (o++[j])).2.1+1:=XN O;have u:((fz l (o++[j])).2.1+1)*2^(au l i-au l j)*2^(15-au l i)=((fz l (o++[j])).2.1+1)*2^(15-au l j):=by
   rw[Zd,xJ k H]
  have K:((fz l (o++[j])).2.1+1)*2^(au l i-au l j)<=2^15:=XL (ZF _ (Yt (15-au l i))) (by rw[u];exact d);have y:((fz l (o++[j])).2.1+1)*2^(au l i-au l j)%2^64=((fz l (o++[j])).2.1+1)*2^(au l i-au l j):=XN O;have t:(fz l (o++[j]++[i])).2.1=((fz l (o++[j])).2.1+1)*2^(au l i-au l j):=by
   rw[eP];simp only[ij,q,A];rw[Xp O,E,y]
  refine⟨by rw[eP];simp[ij,q],by rw[eP];rfl,?_,by rw[eP];rfl⟩;rw[t,u,Yc,r,Z0,dZ,qe]
structure GoodLens(l:List Nat):Prop where
 le:∀ i,au l i<=15
 kraft:jK l<=2^15
def xK{l:List Nat}(h:∀ x∈l,x<=15)(i:Nat):au l i<=15:=by
 rw[au,KV];cases g:l[i]? with
 |none=>simp
 |some v=>simpa using h v (Xs g)
def GoodLens.mH{l:List Nat}(h:ei l=true):GoodLens l:=by
 simp only[ei,Xz,Y6,XS]at h;exact⟨xK h.1,h.2⟩
def GoodLens.xV{c l:List Nat}(h:LensOk c l):GoodLens l:=⟨h.le,h.kraft⟩
def gu{c l:List Nat}(h:LensOk c l):ei l=true:=by
 simp only[ei,Xz,Y6,XS];refine⟨λ x d=>?_,h.kraft⟩;obtain⟨i,H⟩:=Zh.1 d;have:=h.le i;rwa[getD_some H]at this
def BI(l:List Nat):∀ (d o:List Nat) (x:Nat),x∉d->(fz l (o++d)).2.2.2[x]? =(fz l o).2.2.2[x]?
 |[],o,x,_=>by simp
 |i::r,o,x,h=>by
  have:=BI l r (o++[i]) x (λ H=>h zc);rw[KW]at this;rw[show o++i::r=o++([i]++r) by simp,this,eP];exact Zn λ e=>h (by simp[e])
def Pf{l:List Nat}(h:GoodLens l){k x:Nat}(j:(ba l)[k]? =some x):∃ d,(dn l)[x]? =some d/\d*2^(15-au l x)=fS l (J k (ba l))/\d<2^au l x:=by
 have t:ba l=J k (ba l)++[x]++ww (k+1) (ba l):=by
  rw[<-ao j,XV]
 have u:Srt (au l) (J k (ba l)++[x]):=by rw[<-ao j];exact Srt.take (ct _) _
 have g:fS l (ba l)<=2^15:=by rw[HF];exact h.kraft
 have i:fS l (J k (ba l)++[x])<=2^15:=by rw[t,dZ]at g;omega
 obtain⟨_,_,p,q⟩:=HG l h.le _ x u i;have H:=BH l;have o:=km l x (Xs j);refine⟨(fz l (J k (ba l)++[x])).2.1,?_,p,?_⟩
 ·have e:dn l=(fz l (J k (ba l)++[x]++ww (k+1) (ba l))).2.2.2:=by unfold dn;rw[<-t]
  rw[e,BI l _ _ x,q]
  ·rw[Yi (by rw[rP];exact o.1)]
  ·intro r;rw[t]at H;exact(nodup_append.1 H).2.2 x bw x r Y
 ·rw[dZ,qe,<-p]at i;have w:=h.le x;have e:2^15=2^au l x*2^(15-au l x):=by rw[<-a0h];congr 1;omega
  rw[e,<-Nat.succ_mul]at i;exact Nat.le_of_mul_le_mul_right i (Yt _)
def Srt.three{α:Type}{key:α->Nat}(n:Nat):∀ {l:List α},Srt key l->l=l.filter (λ x=>decide (key x<n))++l.filter (λ x=>key x==n)++l.filter (λ x=>decide (n<key x))
 |[],_=>rfl
 |x::r,h=>by
  have g:Srt key r:=(XY.1 h).2;have d:=(XY.1 h).1;have i:=Srt.three n g;rcases ZU (key x) n with k|k|k
  ·have a:¬ n<key x:=O
   have b:¬ key x=n:=O
   simp only[a0n,k,a,decide_true,a1n,Z7,Zo,b,Yy,Zc,Yq];exact If (x:: ·) i
  ·have e:r.filter (λ x=>decide (key x<n))=[]:=YD.2 λ y H=>by have:=d y H;simp;omega
   have a:¬ key x<n:=O
   have b:¬ n<key x:=O
   rw[e,YW]at i;simp only[a0n,k,a15,a1n,beq_self_eq_true,Z7,Yq,Yy,e,YW,Zc];exact If (x:: ·) i
  ·have e:r.filter (λ x=>decide (key x<n))=[]:=YD.2 λ y H=>by have:=d y H;simp;omega
   have E:r.filter (λ x=>key x==n)=[]:=YD.2 λ y H=>by have:=d y H;simp;omega
   have a:¬ key x<n:=O
   have b:¬ key x=n:=O
   rw[e,E,YW,YW]at i;simp only[a0n,a,k,decide_true,a1n,Zo,b,Yy,Z7,e,E,YW,Yq];exact If (x:: ·) i
def nB(l:List Nat)(n:Nat):List Nat:=(ba l).filter λ x=>au l x==n
def low(l:List Nat)(n:Nat):List Nat:=(ba l).filter λ x=>decide (au l x<n)
def cP(l:List Nat)(x:Nat):Nat:=(dn l).getD x 0
def wi(l:List Nat)(n:Nat):Nat:=
 match nB l n with
 |[]=>0
 |x::_=>cP l x
def jz(l:List Nat)(n:Nat):ba l=low l n++nB l n++(ba l).filter λ x=>decide (n<au l x):=Srt.three n (ct _)
def ni{l:List Nat}{n x:Nat}(h:x∈nB l n):au l x=n:=by simpa using(Z3.1 h).2
def kA{l:List Nat}(h:GoodLens l){n m x:Nat}(H:(nB l n)[m]? =some x):(dn l)[x]? =some (cP l x)/\cP l x*2^(15-n)=fS l (low l n)+m*2^(15-n)/\cP l x<2^n:=by
 have q:=(KC.1 H).1;have r:=ni (Xs H);have p:(ba l)[I (low l n)+m]? =some x:=by
  rw[jz l n,KW,XP O,Yk,XK q];exact H
 obtain⟨g,i,j,k⟩:=Pf h p;have o:cP l x=g:=by rw[cP,KV,i];rfl
 have t:J (I (low l n)+m) (ba l)=low l n++J m (nB l n):=by
  conv=>lhs;rw[jz l n]
  rw[KW,take_length_add_append,take_append_of_le_length O]
 rw[o];rw[r]at j k;refine⟨i,?_,k⟩;rw[j,t,dZ,uQ (d:=n) λ y u=>ni (XX u),Xo,Y5 O]
def uU{l:List Nat}(h:GoodLens l){n m x:Nat}(d:(nB l n)[m]? =some x):wi l n+m=cP l x:=by
 have o:=(KC.1 d).1;obtain⟨_,j,_⟩:=kA h d;have i:(nB l n)[0]? =some (nB l n)[0]:=py O;obtain⟨_,g,_⟩:=kA h i;have k:wi l n=cP l (nB l n)[0]:=by
  unfold wi;obtain⟨y,r,H⟩:=exists_cons_of_length_pos (by omega:0<I (nB l n));simp only[H,getElem_cons_zero]
 rw[k];have e:(cP l (nB l n)[0]+m)*2^(15-n)=cP l x*2^(15-n):=by rw[Yc,g,j,a0z,YP]
 exact Nat.eq_of_mul_eq_mul_right (Yt _) e
def DD{l:List Nat}{x:Nat}(H:0<au l x):∃ m:Nat,(nB l (au l x))[m]? =some x:=by
 have:x∈nB l (au l x):=Z3.2 ⟨jO l x H,bw⟩;exact Zh.1 this
def HH{l:List Nat}(h:GoodLens l){x n m y:Nat}(T:0<au l x)(W:n<au l x)(p:(nB l n)[m]? =some y):cP l y≠cP l x/2^(au l x-n):=λ e=>by
 obtain⟨k,P⟩:=DD T;obtain⟨_,A,_⟩:=kA h P;obtain⟨_,u,_⟩:=kA h p;have N:=h.le x;have Q:=(KC.1 p).1;have w:fS l (low l n)+I (nB l n)*2^(15-n)<=fS l (low l (au l x)):=by
  have H:(low l n++nB l n).Sublist (low l (au l x)):=by
   have E:low l (au l x)=(low l n++nB l n++(ba l).filter λ z=>decide (n<au l z)).filter λ z=>decide (au l z<au l x):=by rw[<-jz];rfl
   rw[E,YF,YF];have q:(low l n).filter (λ z=>decide (au l z<au l x))=low l n:=Z8.2 λ z g=>by
    have:=(Z3.1 g).2;simp at this⊢;omega
   have r:(nB l n).filter (λ z=>decide (au l z<au l x))=nB l n:=Z8.2 λ z g=>by
    have:=ni g;simp;omega
   rw[q,r];exact sublist_append_left _ _
  have o:fS l (low l n++nB l n)<=fS l (low l (au l x)):=by
   have:∀ {a b:List Nat},a.Sublist b->fS l a<=fS l b:=by
    intro a b j;induction j with
    |slnil=>exact KM _
    |cons z _ i=>simp only[fS,XZ,a02]at i⊢;exact XL i (Nat.le_add_left _ _)
    |cons_cons z _ i=>simp only[fS,XZ,a02]at i⊢;exact a10 i _
   exact this H
  rw[dZ,uQ (d:=n) λ z g=>ni g]at o;exact o
 have R:2^(au l x-n)*2^(15-au l x)=2^(15-n):=xJ O N;have t:cP l x<(cP l y+1)*2^(au l x-n):=by
  rw[e];have:=Nat.lt_div_mul_add (a:=cP l x) (b:=2^(au l x-n)) (Yt _);rw[Yc,Z0];exact this
 have D:cP l x*2^(15-au l x)<(cP l y+1)*2^(15-n):=by
  rw[<-R,<-Zd];exact Zm t (Yt _)
 rw[A,Yc,Z0,u]at D;have K:(m+1)*2^(15-n)<=I (nB l n)*2^(15-n):=YH _ Q;rw[Yc,Z0]at K;omega
def cz(l d:List Nat):List Bool:=d.flatMap λ s=>aY (cP l s) (au l s)
def xL(l a:List Nat)(x:Nat):cz l (a++[x])=cz l a++aY (cP l x) (au l x):=by simp[cz]
def fH{l:List Nat}(h:GoodLens l):∀ d:List Nat,I (cz l d)<=15*I d
 |[]=>by simp[cz]
 |s::r=>by
  have i:=fH h r;have e:cz l (s::r)=aY (cP l s) (au l s)++cz l r:=by simp[cz]
  have:=h.le s;rw[e,AT,aK,No];omega
def nj{l:List Nat}(h:GoodLens l){x:Nat}(i:0<au l x):(dn l)[x]? =some (cP l x)/\cP l x<2^au l x:=by
 obtain⟨m,g⟩:=DD i;obtain⟨H,_,d⟩:=kA h g;exact⟨H,d⟩
def mq{l:List Nat}{x:Nat}(H:x<I l):l[x]? =some (au l x):=by
 simp[au,KV,H]
def iQ{l:List Nat}(h:ei l=true):∀ x∈l,x<=15:=by
 simp only[ei,Xz,Y6,XS]at h;exact h.1
def jA(v:Nat):Nat:=(max (Lib.bitLen v) 1+6)/7
def fU(v:Nat):jA v<=10:=by have:=bitLen_le64 v;unfold jA;omega
def mr(w:Nat)(s:Nat×Nat×Nat×Nat)(x:Nat):Nat×Nat×Nat×Nat:=
 if 0<x/2^w then(s.1+1,s.2.1+(jA (s.1+1-s.2.2.2)+jA (x/2^w)),s.2.2.1+1,s.1+1)else(s.1+1,s.2.1,s.2.2.1,s.2.2.2)
def gw(w:Nat)(l:List Nat):Nat×Nat×Nat×Nat:=l.foldl (mr w) (0,0,0,0)
def jB(w:Nat)(l:List Nat):Nat:=
 (gw w l).2.1+jA (I l)+jA w+jA (gw w l).2.2.1+(I l*w+7)/8
def mu(w:Nat)(l:List Nat)(x:Nat):gw w (l++[x])=mr w (gw w l) x:=by simp[gw]
def et(w:Nat)(s:Nat×List Bool×List Nat×Nat×Nat)(x:Nat):Nat×List Bool×List Nat×Nat×Nat:=
 if 0<x/2^w then(s.1+1,s.2.1++aY (x%2^w) w,s.2.2.1++uv (s.1+1-s.2.2.2.2)++uv (x/2^w),s.2.2.2.1+1,s.1+1)
 else(s.1+1,s.2.1++aY (x%2^w) w,s.2.2.1,s.2.2.2.1,s.2.2.2.2)
def dH(w:Nat)(l:List Nat):Nat×List Bool×List Nat×Nat×Nat:=l.foldl (et w) (0,[],[],0,0)
def jC(w:Nat)(l:List Nat):List Nat:=
 uv (I l)++uv w++uv (dH w l).2.2.2.1++aI (dH w l).2.1++(dH w l).2.2.1
def fA(w:Nat)(l:List Nat)(x:Nat):dH w (l++[x])=et w (dH w l) x:=by simp[dH]
def dR(l:List Nat):Nat->Nat
 |0=>0
 |m+1=>if jB m l<jB (dR l m) l then m else dR l m
def bQ(l:List Nat):List Nat:=jC (dR l 32) l
def j7(l:List Nat):∀ m,dR l m<=m-1
 |0=>KM _
 |m+1=>by unfold dR;split;(omega);(have:=j7 l m;omega)
end Go.Kw
namespace Go.Kw
open Go.RowKit
structure Pt where
 sv:SV
 bits:Nat
 bys:List Nat
def dI:Enc Pt:=⟨2,λ p=>[p.sv.val,.int .i64 (p.bits:Int)],λ _=>Y,λ p u h=>by simp at h;rcases h with rfl|rfl<;>rfl⟩
def da(ps:List Pt):Chunk:=lF (ps.map λ p=>cL p.sv.val 5 (a7 .u8) p.bys)
section
variable {w0 w:World} {cs:List Chunk}
def Sat.C3(h:Sat w0 cs w):Sat w0 (cs++[da []]) w:=by
 have:Sat w0 (cs++lF []::[]) w:=Sat.iN.2 ra;exact this
def Sat.xT{A:List Chunk}{s:SV}{b:Nat}{l:List Nat}{ps:List Pt}(h:Sat w0 (A++[cL s.val 5 (a7 .u8) l]) w)(i:Nat)(H:A[i]? =some (da ps)):Sat w0 (A.set i (da (ps++[⟨s,b,l⟩]))) w:=by
 have:=h.push i H;rw[da,Y0];exact this
def Sat.nr(h:Sat w0 cs w)(i:Nat){ps:List Pt}(H:cs[i]? =some (da ps)):∀ p∈ps,RdL w p.sv.val (a7 .u8) p.bys:=λ p d=>
 Rd.ry ((h.get H).1 (cL p.sv.val 5 (a7 .u8) p.bys) (Ye d))
end
def eZ(l:List Nat)(k:Nat):List Nat:=J 64 (ww (64*k) l)
def cY(n:Nat):Nat:=(n+63)/64
def oE(l:List Nat)(k:Nat):ww (64*k) (J (min (64*k+64) (I l)) l)=eZ l k:=by
 rw[eZ,drop_take];have:min (64*k+64) (I l)-64*k=min 64 (I l-64*k):=O
 rw[this,<-XD,<-take_eq_take_min]
def cD(l:List Nat)(k:Nat):I (eZ l k)=min 64 (I l-64*k):=by simp[eZ]
def jD{l:List Nat}{k x:Nat}(h:x∈eZ l k):x∈l:=Yf (XX h)
def bP(ps:List Pt):List (List Nat×Nat):=ps.map λ p=>(p.bys,p.bits)
def lH(l:List Nat)(k:Nat):List (List Nat×Nat):=(List.range k).map λ i=>(bQ (eZ l i),0)
def Lu(l:List Nat)(k:Nat):lH l (k+1)=lH l k++[(bQ (eZ l k),0)]:=by simp[lH,YK]
def uV(ps:List Pt)(p:Pt):bP (ps++[p])=bP ps++[(p.bys,p.bits)]:=by simp[bP]
def eQ(ps:List Pt):I (bP ps)=I ps:=by simp[bP]
def nC(l:List Nat):Nat:=l.foldl (λ m x=>max m (x+1)) 0
def BJ(l:List Nat)(x:Nat):nC (l++[x])=max (nC l) (x+1):=by simp[nC]
def Lv{l:List Nat}{B:Nat}(h:∀ x∈l,x<B):nC l<=B:=by
 have:∀ (l:List Nat) (m:Nat),m<=B->(∀ x∈l,x<B)->l.foldl (λ m x=>max m (x+1)) m<=B:=by
  intro l;induction l with
  |nil=>intro m H _;exact H
  |cons x r i=>intro m H h;exact i _ (by have:=h x bw;show max m (x+1)<=B;omega) λ y d=>h y a1P
 exact this l 0 (KD _) h
def yW:∀ (l:List Nat),∀ x∈l,x<nC l:=by
 have mono:∀ (l:List Nat) (m:Nat),m<=l.foldl (λ m x=>max m (x+1)) m:=by
  intro l;induction l with
  |nil=>intro m;exact KM _
  |cons x r i=>intro m;exact XL (Nat.le_max_left _ _) (i _)
 have:∀ (l:List Nat) (m:Nat),∀ x∈l,x<l.foldl (λ m x=>max m (x+1)) m:=by
  intro l;induction l with
  |nil=>intro m x h;cases h
  |cons y r i=>
   intro m x h;rcases Xr.1 h with rfl|h
   ·exact ZM (by omega:x<max m (x+1)) (mono r _)
   ·exact i _ x h
 exact λ l=>this l 0
def eb(c:List Nat)(x:Nat):List Nat:=c.set x (c.getD x 0+1)
def lj(m:Nat)(l:List Nat):List Nat:=l.foldl eb (List.replicate m 0)
def xM(m:Nat)(l:List Nat)(x:Nat):lj m (l++[x])=eb (lj m l) x:=by simp[lj]
def gS(m:Nat)(l:List Nat):I (lj m l)=m:=by
 have:∀ (l c:List Nat),I (l.foldl eb c)=I c:=by
  intro l;induction l with
  |nil=>intro c;rfl
  |cons x r i=>intro c;rw[Zg,i];simp[eb]
 rw[lj,this];simp
def Fg(m:Nat)(l:List Nat):∀ x∈lj m l,x<=I l:=by
 have:∀ (l c:List Nat) (B:Nat),(∀ x∈c,x<=B)->∀ x∈l.foldl eb c,x<=B+I l:=by
  intro l;induction l with
  |nil=>intro c B h x H;simpa using h x H
  |cons y r i=>
   intro c B h x H;have:=i (eb c y) (B+1) (λ z d=>by
    rcases YT d with d|rfl
    ·have:=h z d;omega
    ·rw[KV];cases g:c[y]? with
     |none=>simp
     |some v=>have:=h v (Xs g);simp;exact this) x H
   simp only[No];omega
 have h:=this l (List.replicate m 0) 0 (λ x H=>by have:=Za H;omega);simpa[lj]using h
def Lw{m:Nat}{l:List Nat}(k:∀ x∈l,x<m):∀ x∈l,0<(lj m l).getD x 0:=by
 have mono:∀ (l c:List Nat) (j:Nat),c.getD j 0<=(l.foldl eb c).getD j 0:=by
  intro l;induction l with
  |nil=>intro c j;exact KM _
  |cons y r i=>
   intro c j;refine XL ?_ (i _ j);by_cases h:y=j
   ·subst h;by_cases d:y<I c
    ·rw[eb,fG d];omega
    ·simp[KV,XQ (ZG d)]
   ·rw[eb,ea h];exact KM _
 have:∀ (l c:List Nat),(∀ x∈l,x<I c)->∀ x∈l,0<(l.foldl eb c).getD x 0:=by
  intro l;induction l with
  |nil=>intro c _ x h;cases h
  |cons y r i=>
   intro c H x h;have o:=H y bw;by_cases g:x=y
   ·subst g;refine ZM ?_ (mono r _ x);rw[eb,fG o];omega
   ·exact i (eb c y) (λ z p=>by simp[eb];exact H z a0P) x ((Xr.1 h).resolve_left g)
 exact this l _ a4I
def aT(l:List Nat):List Nat:=cC (lj (nC l) l)
def de(l:List Nat):I (aT l)=nC l:=by rw[aT,l8,gS]
def gH(l:List Nat)(h:nC l<=1024):LensOk (lj (nC l) l) (aT l):=Lt _ (by have:=ef (lj (nC l) l);rw[gS]at this;omega)
def qf{l:List Nat}(h:nC l<=1024):∀ x∈l,x<I (aT l)/\0<au (aT l) x:=λ x d=>by
 have H:=yW l x d;have g:=Lw (yW l) x d;refine⟨by rw[de];exact H,?_⟩;have:=(gH l h).zero x (by rw[gS];exact H);rw[au];omega
def jV(l:List Nat)(k:Nat):List (List Nat×Nat):=(List.range k).map λ i=>(aI (cz (aT l) (eZ l i)),I (cz (aT l) (eZ l i)))
def Lx(l:List Nat)(k:Nat):jV l (k+1)=jV l k++[(aI (cz (aT l) (eZ l k)),I (cz (aT l) (eZ l k)))]:=by simp[jV,YK]
def oF(kind:Nat)(p:List Nat×Nat):List Nat:=uv (if kind=0 then I p.1 else p.2)++p.1
def e9(kind:Nat)(ps:List (List Nat×Nat)):List Nat:=ps.flatMap (oF kind)
def gU(kind:Nat)(ps:List (List Nat×Nat))(p:List Nat×Nat):e9 kind (ps++[p])=e9 kind ps++oF kind p:=by simp[e9]
def kF(n kind:Nat)(lens:List Nat):List Nat:=uv n++uv kind++(if kind=1 then uv (I lens)++lens.map (· %2^8)else[])
def lk(n kind:Nat)(lens:List Nat):I (kF n kind lens)<=30+I lens:=by
 have H:=aF n;have d:=aF kind;have g:=aF (I lens);unfold kF;split<;>simp<;>omega
def lI(n kind:Nat)(lens:List Nat)(ps:List (List Nat×Nat)):List Nat:=kF n kind lens++e9 kind ps
def kB{ps:List Pt}{k:Nat}{x:Pt}(h:ps[k]? =some x):(bP ps)[k]? =some (x.bys,x.bits):=by simp[bP,h]
def lr(l:List Nat)(h:I l<=64):I (bQ l)<=10000:=by
 have hw:∀ w,w<=31->∀ l:List Nat,I (dH w l).2.1=I l*w/\I (dH w l).2.2.1<=20*I l:=by
  intro w _;refine lh ⟨by simp[dH],by simp[dH]⟩ λ l x i=>?_;rw[fA];have H:=aF ((dH w l).1+1-(dH w l).2.2.2.2);have d:=aF (x/2^w);unfold et;simp only[AT,No,Xv];split<;>simp only[AT,aK]<;>(refine⟨by rw[i.1,Yc];omega,O⟩)
 have k:=j7 l 32;obtain⟨H,d⟩:=hw (dR l 32) O l;have A:=aF (I l);have g:=aF (dR l 32);have j:=aF (dH (dR l 32) l).2.2.2.1;have o:I l*dR l 32<=64*31:=a1t h O;unfold bQ jC;simp only[AT,aO];omega
def xN{ps:List Pt}{q:List (List Nat×Nat)}(h:bP ps=q){C:List Nat×Nat->Prop}(d:∀ x∈q,C x):∀ p∈ps,C (p.bys,p.bits):=λ p H=>d _ (by rw[<-h];exact Ye H)
def Qw{l:List Nat}{ps:List Pt}(h:bP ps=lH l (cY (I l)))(d:I l<=4096):I ps<=100/\∀ p∈ps,I p.bys<=20000/\p.bits<=1000000:=by
 refine⟨by rw[<-eQ,h];simp[lH,cY];omega,xN (C:=λ q=>I q.1<=20000/\q.2<=1000000) h λ x H=>?_⟩;obtain⟨i,_,rfl⟩:=Y7.1 H;have:=lr (eZ l i) a5g;exact⟨by show(bQ (eZ l i)).length<=20000;omega,by show 0<=1000000;omega⟩
def Qx{l:List Nat}{ps:List Pt}(h:bP ps=jV l (cY (I l)))(k:I l<=4096)(H:nC l<=1024):I ps<=100/\∀ p∈ps,I p.bys<=20000/\p.bits<=1000000:=by
 refine⟨by rw[<-eQ,h];simp[jV,cY];omega,xN (C:=λ q=>I q.1<=20000/\q.2<=1000000) h λ x d=>?_⟩;obtain⟨i,_,rfl⟩:=Y7.1 d;have g:=fH (GoodLens.xV (gH l H)) (eZ l i);have j:=cD l i;exact⟨by show(aI (cz (aT l) (eZ l i))).length<=20000;rw[aO];omega,by show(cz (aT l) (eZ l i)).length<=1000000;omega⟩
def kG(l:List Nat)(kind:Nat):List Nat:=lI (I l) kind (if kind=1 then aT l else[]) (if kind=1 then jV l (cY (I l))else lH l (cY (I l)))
def bV(l:List Nat):Nat:=if(kG l 1).length<I (kG l 0) then 1 else 0
def dS(l:List Nat):List Nat:=if bV l=1 then aT l else[]
def nD(l:List Nat):List (List Nat×Nat):=if bV l=1 then jV l (cY (I l))else lH l (cY (I l))
def HI{l:List Nat}(h:I (kG l 1)<I (kG l 0)):bV l=1/\dS l=aT l/\nD l=jV l (cY (I l)):=by
 have k:bV l=1:=by rw[bV,Xp h]
 exact⟨k,by rw[dS,Xp k],by rw[nD,Xp k]⟩
def DE{l:List Nat}(h:¬ I (kG l 1)<I (kG l 0)):bV l=0/\dS l=[]/\nD l=lH l (cY (I l)):=by
 have k:bV l=0:=by rw[bV,Xn h]
 exact⟨k,by rw[dS,Xn O],by rw[nD,Xn O]⟩
def ed(l:List Nat):bV l<=1:=by unfold bV;split<;>omega
structure OkN(l:List Nat):Prop where
 len:I l<=4096
 lt:∀ x∈l,x<8
def OkN.WM{l:List Nat}(h:OkN l):nC l<=8:=Lv h.lt
def OkN.mx{l:List Nat}(h:OkN l):nC l<=1024:=XL h.WM bl
def yX{l:List Nat}{ps:List Pt}(h:bP ps=nD l)(H:OkN l):I ps<=100/\∀ p∈ps,I p.bys<=20000/\p.bits<=1000000:=by
 unfold nD at h;split at h
 ·exact Qx h H.len H.mx
 ·exact Qw h H.len
def DF{l:List Nat}(H:OkN l):I (dS l)<=8:=by
 unfold dS;split
 ·rw[de];exact H.WM
 ·simp
def xO{l:List Nat}(H:OkN l):I (dS l)<=1024:=by
 unfold dS;split
 ·rw[de];exact H.mx
 ·simp
theorem yY(l:List Nat):lI (I l) (bV l) (dS l) (nD l)=kG l (bV l):=rfl
def Ly{n kind:Nat}{lens:List Nat}{ps:List Pt}(l:I lens<=1024)(h:I ps<=100)(H:∀ p∈ps,I p.bys<=20000/\p.bits<=1000000):I (lI n kind lens (bP ps))<=3000000:=by
 have d:=lk n kind lens;have:∀ ps:List Pt,(∀ p∈ps,I p.bys<=20000/\p.bits<=1000000)->I (e9 kind (bP ps))<=20010*I ps:=by
  intro ps;induction ps with
  |nil=>intro _;simp[e9,bP]
  |cons p r k=>
   intro H;have d:=k λ q j=>H q (by simp[j]);have g:=H p bw;have e:e9 kind (bP (p::r))=oF kind (p.bys,p.bits)++e9 kind (bP r):=by simp[e9,bP]
   have i:=aF (if kind=0 then I p.bys else p.bits);rw[e,AT,No,oF,AT];simp only at i⊢;omega
 have g:=this ps H;unfold lI;rw[AT];omega
def CacheOk(l:List Nat)(t:Nat)(k:List Nat):Prop:=(t=0/\k=[])\/∃ q,t=q+1/\q<cY (I l)/\k=eZ l q
def CacheOk.hit{l d:List Nat}{k:Nat}(h:CacheOk l (k+1) d):d=eZ l k:=by
 rcases h with⟨h,_⟩|⟨q,h1,_,h2⟩
 ·omega
 ·rw[h2,show q=k by omega]
def CacheOk.now{l:List Nat}{k:Nat}(h:k<cY (I l)):CacheOk l (k+1) (eZ l k):=.inr ⟨k,Y,h,Y⟩
def CacheOk.zero(l:List Nat):CacheOk l 0 []:=.inl ⟨Y,Y⟩
def BK{l:List Nat}{ps:List Pt}(h:bP ps=nD l){k:Nat}(d:k<cY (I l)):∃ p,ps[k]? =some p/\(p.bys,p.bits)=if bV l=1 then(aI (cz (aT l) (eZ l k)),I (cz (aT l) (eZ l k)))else(bQ (eZ l k),0):=by
 have i:I ps=cY (I l):=by rw[<-eQ,h];unfold nD;split<;>simp[lH,jV]
 obtain⟨p,g⟩:=ut ps k O;refine⟨p,g,?_⟩;have H:=kB g;rw[h]at H;unfold nD at H;split at H
 ·rename_i h0;rw[Xp h0]
  rw[jV,XF,ZQ d]at H;exact(Y8 H).symm
 ·rename_i h0;rw[Xn h0]
  rw[lH,XF,ZQ d]at H;exact(Y8 H).symm
def Pg(l:List Nat)(i:Nat):(eZ l (i/64))[i%64]? =l[i]? :=by
 rw[eZ,a08 (Zp _ bl),YI];congr 1;omega
def Lz{n i:Nat}(h:i<n):i/64<cY n:=by unfold cY;omega
end Go.Kw
namespace Go.Kw
def st1(v:Nat):Nat:=if v%2^1=1 then v/2^1^^^2197175160 else v/2^1
def dx(v:Nat):Nat->Nat
 |0=>v
 |n+1=>st1 (dx v n)
def uW(i:Nat):Nat:=dx i 4
def WH(v c:Nat):Nat:=v^^^c
def DG(a:Nat):Nat:=a/2^4^^^uW (a%2^4)
def SR(v c:Nat):Nat:=DG (DG (WH v c))
def BL(l:List Nat):Nat:=l.foldl SR 4294967295
def rf(l:List Nat)(c:Nat):BL (l++[c])=SR (BL l) c:=by simp[BL]
def jP(l:List Nat):Nat:=4294967295^^^BL l
def qg(v:Nat):List Nat:=[v%2^8,v/2^8%2^8,v/2^16%2^8,v/2^24%2^8]
def aQ(l:List Nat):List Nat:=l++qg (jP l)
def qh(v:Nat):∀ x∈qg v,x<256:=λ x H=>by
 simp only[qg,Xr,Xq,XA]at H;omega
def ch(l:List Nat):I (aQ l)=I l+4:=by simp[aQ,qg]
def kC{a b:Nat}(H:a<4294967296)(d:b<4294967296):a^^^b<4294967296:=by
 have:=Nat.xor_lt_two_pow (n:=32) (x:=a) (y:=b) O O;omega
def vd{v:Nat}(h:v<4294967296):st1 v<4294967296:=by
 unfold st1;split
 ·exact kC O O
 ·omega
def ve{v:Nat}(h:v<4294967296):∀ n,dx v n<4294967296
 |0=>h
 |n+1=>vd (ve h n)
def yZ{i:Nat}(h:i<16):uW i<4294967296:=ve O 4
def sM{a:Nat}(h:a<4294967296):DG a<4294967296:=kC O (yZ O)
def Ph:∀ (l:List Nat),(∀ x∈l,x<256)->BL l<4294967296:=by
 refine lh (λ _=>by simp[BL]) λ l c i h=>?_;rw[rf];have H:=i λ x d=>h x a1P;have g:=h c bw;exact sM (sM (kC H O))
def qi{l:List Nat}(h:∀ x∈l,x<256):jP l<4294967296:=kC O (Ph l h)
def rh:List Nat:=(List.range 16).map uW
def ri(k:Nat):List Nat:=(List.range k).map uW++List.replicate (16-k) 0
def BM{k:Nat}(h:k<=16):I (ri k)=16:=by simp[ri];omega
def LA{k:Nat}(h:k<16):(ri k).set k (uW k)=ri (k+1):=by
 unfold ri;rw[Y2 _ _ bw,show 16-k=(16-(k+1))+1 by omega,Zx,YK];simp
def LB:ri 16=rh:=by simp[ri,rh]
def vf{i:Nat}(h:i<16):rh[i]? =some (uW i):=by simp[rh,h]
def mw(w:Nat)(l:List Nat):∀ x∈jC w l,x<256:=λ x H=>by
 have he:∀ l:List Nat,∀ x∈(dH w l).2.2.1,x<256:=by
  refine lh (λ x H=>by simp[dH]at H) λ l y i x H=>?_;rw[fA]at H;unfold et at H;split at H
  ·simp only[XE]at H;rcases H with(H|H)|H
   ·exact i x H
   ·exact dG _ x H
   ·exact dG _ x H
  ·exact i x H
 unfold jC at H;simp only[XE]at H;rcases H with(((H|H)|H)|H)|H
 ·exact dG _ x H
 ·exact dG _ x H
 ·exact dG _ x H
 ·exact j0 _ x H
 ·exact he l x H
def SU(kind:Nat)(ps:List (List Nat×Nat))(h:∀ p∈ps,∀ x∈p.1,x<256):∀ x∈e9 kind ps,x<256:=λ x H=>by
 obtain⟨p,d,H⟩:=Z4.1 H;rcases XE.1 H with H|H
 ·exact dG _ x H
 ·exact h p d x H
def Fh(n kind:Nat)(lens:List Nat)(ps:List (List Nat×Nat))(h:∀ p∈ps,∀ x∈p.1,x<256):∀ x∈lI n kind lens ps,x<256:=λ x H=>by
 unfold lI kF at H;simp only[XE]at H;rcases H with((H|H)|H)|H
 ·exact dG _ x H
 ·exact dG _ x H
 ·split at H
  ·rcases XE.1 H with H|H
   ·exact dG _ x H
   ·obtain⟨y,_,rfl⟩:=Y7.1 H;omega
  ·cases H
 ·exact SU kind ps h x H
def Fi(l:List Nat):∀ p∈nD l,∀ x∈p.1,x<256:=λ p H x d=>by
 unfold nD at H;split at H
 ·obtain⟨i,_,rfl⟩:=Y7.1 H;exact j0 _ x d
 ·obtain⟨i,_,rfl⟩:=Y7.1 H;exact mw _ _ x d
def my{α:Type}{l:List α}{k:Nat}{x:α}(h:l[k]? =some x):ww k l=x::ww (k+1) l:=by
 obtain⟨H,rfl⟩:=KC.1 h;exact Yl H
def C8:Nat->Nat->List Nat->Nat×Nat×Nat
 |_,_,[]=>(0,0,10)
 |i,v,c::r=>if i=9/\c≠1 then(0,0,9)else if c<128 then(if c=0/\0<i then(0,0,9)else(v+c%2^7*2^(7*i),i+1,0))else C8 (i+1) (v+c%2^7*2^(7*i)) r
def iJ(l:List Nat):Nat×Nat×Nat:=C8 0 0 l
def LC:∀ (l:List Nat) (i v:Nat),(C8 i v l).2.1<=i+I l
 |[],i,v=>by simp[C8]
 |c::r,i,v=>by
  have d:=LC r (i+1) (v+c%2^7*2^(7*i));rw[C8];simp only[No];split
  ·simp
  ·split
   ·split
    ·simp
    ·simp<;>omega
   ·omega
def rj(l:List Nat):(iJ l).2.1<=I l:=by have:=LC l 0 0;rw[XU]at this;exact this
def qj{v x k:Nat}(h:v<2^k):v|||x*2^k=v+x*2^k:=by
 rw[Nat.or_comm,a1o,<-Nat.shiftLeft_eq,Nat.shiftLeft_add_eq_or_of_lt h]
def Pj{k:Nat}(h:k<=8):2^(7*k)<=2^56:=Y1 bl O
def xP{c k:Nat}(i:k<=9)(H:¬ (k=9/\c≠1)):c%2^7*2^(7*k)<2^64:=by
 by_cases h:k=9
 ·have:c=1:=Yx λ d=>H ⟨h,d⟩;subst h;subst this;decide
 ·have:=Pj (by omega:k<=8);have g:c%2^7*2^(7*k)<=c%2^7*2^56:=a0w _ this;omega
def SX{v c k:Nat}(g:v<2^(7*k))(d:k<=9)(H:¬ (k=9/\c≠1)):v|||(c%2^7*2^(7*k)%2^64)=v+c%2^7*2^(7*k):=by
 rw[XN (xP d H),qj g]
def HJ{v c k:Nat}(H:v<2^(7*k)):v+c%2^7*2^(7*k)<2^(7*(k+1)):=by
 have e:2^(7*(k+1))=2^7*2^(7*k):=by rw[<-a0h];congr 1;omega
 have h:c%2^7*2^(7*k)<=(2^7-1)*2^(7*k):=YH _ O;rw[Nat.sub_mul]at h;have:2^(7*k)<=2^7*2^(7*k):=Nat.le_mul_of_pos_left _ bl;rw[e];omega
def Qy:∀ y,y<256->(y|||128)%2^7=y%2^7/\128<=(y|||128)/\(y|||128)<256:=a1O
def Fj:∀ (f i v x:Nat) (r:List Nat),x<128^(f+1)->i+f=9->x*2^(7*i)<2^64->(0<x\/i=0)->C8 i v (pM f x++r)=(v+x*2^(7*i),i+I (pM f x),0)
 |0,i,v,x,r,hx,hi,hb,h0=>by
  have w:x<128:=a2L
  have t:i=9:=O
  subst t;have y:x<=1:=O
  have j:x=1:=O
  subst j;simp[pM,C8]
 |f+1,i,v,x,r,hx,hi,hb,h0=>by
  rw[pM];by_cases g:x<128
  ·rw[Xp g];have E:x%2^8=x:=XN O;have l:x%2^7=x:=XN O;rw[E,singleton_append,C8,Xn O,Xp g,Xn O,l];simp
  ·rw[Xn g,Zc];obtain⟨p,q,D⟩:=Qy (x%2^8) O;rw[C8,Xn O,Xn (Nat.not_lt.2 q),p];have u:2^(7*(i+1))=2^7*2^(7*i):=by rw[<-a0h];congr 1;omega
   have H:x/2^7*2^(7*(i+1))+x%2^7*2^(7*i)=x*2^(7*i):=by
    rw[u,<-Zd,<-Yc];congr 1;have:=a2o x (2^7);omega
   have k:x<2^7*128^(f+1):=by rw[YA,ZN]at hx;exact hx
   have d:x/2^7*2^(7*(i+1))<2^64:=a04 (by rw[<-H];exact a2g _ _) hb;have A:=Fj f (i+1) (v+x%2^8%2^7*2^(7*i)) (x/2^7) r (Nat.div_lt_of_lt_mul k) O d (.inl (Nat.div_pos O bl));rw[A];have o:x%2^8%2^7=x%2^7:=O
   rw[o];simp only[No,XO,a2c];refine⟨?_,by rw[YG,a1o 1]⟩;rw[<-H,YG,a1o (x%2^7*2^(7*i))]
def rm{x:Nat}(h:x<2^64)(r:List Nat):iJ (uv x++r)=(x,I (uv x),0):=by
 have:=Fj 9 0 0 x r (by have:(2:Nat)^64<=128^10:=bl;omega) Y ra (.inr Y);simpa[iJ,uv]using this
def b9(ok:Bool)(l:List Nat)(lim:Nat):Nat×Bool×List Nat:=
 if ok=false\/(iJ l).2.2≠0\/lim<(iJ l).1 then(0,false,l)else((iJ l).1,true,l.drop (iJ l).2.1)
def iK{x lim:Nat}(h:x<2^64)(l:x<=lim)(r:List Nat):b9 true (uv x++r) lim=(x,true,r):=by
 unfold b9;rw[rm h,Xn cf];simp
def nk(ok:Bool)(l:List Nat)(lim:Nat):(b9 ok l lim).1<=lim:=by
 unfold b9;split
 ·simp
 ·rename_i h;simp at h;simp;omega
def eE(ok:Bool)(l:List Nat)(lim:Nat):∀ x∈(b9 ok l lim).2.2,x∈l:=by
 unfold b9;split
 ·exact λ x h=>h
 ·exact λ x h=>Yf h
def j8(ok:Bool)(l:List Nat)(lim:Nat):I (b9 ok l lim).2.2<=I l:=by
 unfold b9;split
 ·exact KM _
 ·simp
def rb(l:List Nat)(i:Nat):Nat:=l.getD (i/8) 0/2^(7-i%8)%2
def LD(l:List Nat)(i:Nat):rb l i<2:=Zp _ bl
def qk(l:List Nat)(a:Nat):Nat->Nat
 |0=>0
 |m+1=>2*qk l a m+rb l (a+m)
def vg(l:List Nat)(a:Nat):∀ m,qk l a m<2^m
 |0=>by simp[qk]
 |m+1=>by have:=vg l a m;have:=LD l (a+m);rw[qk,YA];omega
def LG{v b:Nat}(H:b<2)(d:v<2^63):v*2^1%2^64|||b=2*v+b:=by
 rw[XN O,Nat.or_comm,qj (k:=1) O];omega
def BN:∀ (b0 b1 b2 b3 d g i k:Bool) (j:Fin 8),(ie b0 128|||(ie b1 64|||(ie b2 32|||(ie b3 16|||(ie d 8|||(ie g 4|||(ie i 2|||ie k 1)))))))/2^(7-j.val)%2=([b0,b1,b2,b3,d,g,i,k].getD j.val false).toNat:=a1O
def DH(l:List Bool)(k j:Nat)(hj:j<8):cU l k/2^(7-j)%2=(dj l (8*k+j)).toNat:=by
 have h:=BN (dj l (8*k)) (dj l (8*k+1)) (dj l (8*k+2)) (dj l (8*k+3)) (dj l (8*k+4)) (dj l (8*k+5)) (dj l (8*k+6)) (dj l (8*k+7)) ⟨j,hj⟩;unfold cU;refine h.trans (If Bool.toNat ?_)
 match j,hj with
 |0,_=>rfl
 |1,_=>rfl
 |2,_=>rfl
 |3,_=>rfl
 |4,_=>rfl
 |5,_=>rfl
 |6,_=>rfl
 |7,_=>rfl
def Fk{l:List Bool}{i:Nat}(h:i<I l):rb (aI l) i=(dj l i).toNat:=by
 have g:(aI l)[i/8]? =some (cU l (i/8)):=by
  unfold aI;rw[XF,ZQ O];rfl
 have hd:(aI l).getD (i/8) 0=cU l (i/8):=by rw[KV,g];rfl
 rw[rb,hd,DH l _ _ (Zp _ bl)];congr 2;omega
def ql(x:Nat):∀ (m k:Nat),k<m->(aY x m)[k]? =some (decide (x/2^(m-1-k)%2=1))
 |0,k,h=>by omega
 |m+1,0,_=>by simp[aY]
 |m+1,k+1,h=>by
  have:=ql x m k O;rw[aY,ZX,this,show m+1-1-(k+1)=m-1-k by omega]
def rn(A B:List Bool)(x m:Nat)(H:x<2^m):∀ k,k<=m->qk (aI (A++aY x m++B)) (I A) k=x/2^(m-k)
 |0,_=>by rw[qk,a0j,a1j H]
 |k+1,hk=>by
  have i:=rn A B x m H k O;have l:I (A++aY x m++B)=I A+m+I B:=by simp[aK,YG]
  have t:dj (A++aY x m++B) (I A+k)=decide (x/2^(m-1-k)%2=1):=by
   rw[dj,KV,KW,XP O,Yk,XK (by rw[aK];omega),ql x m k O];rfl
  rw[qk,i,Fk O,t];have e:m-k=(m-(k+1))+1:=O
  have E:m-1-k=m-(k+1):=O
  rw[E,e,YA,<-Nat.div_div_eq_div_mul];generalize x/2^(m-(k+1))=q;by_cases h:q%2=1
  ·rw[LW h];simp;omega
  ·rw[IN h];simp;omega
def eh{v:Nat}(h0:0<v)(h:v<2^64):1<=Lib.bitLen v/\2^(Lib.bitLen v-1)<=v/\v<2^Lib.bitLen v:=Lib.bitLenAux_bounds 64 v h O
def jh(v:Nat):List Bool:=aY 0 (Lib.bitLen v-1)++aY v (Lib.bitLen v)
def gx(v:Nat):List Bool:=jh (Lib.bitLen v)++aY v (Lib.bitLen v-1)
def mz(v:Nat):I (jh v)=Lib.bitLen v-1+Lib.bitLen v:=by simp[jh,aK]
def qm(v:Nat):I (gx v)=(Lib.bitLen (Lib.bitLen v)-1+Lib.bitLen (Lib.bitLen v))+(Lib.bitLen v-1):=by simp[gx,mz,aK]
def Fl{v:Nat}(h:v<2^32):I (gx v)<=42:=by
 rw[qm];have H:=bitLen_le h;have d:Lib.bitLen (Lib.bitLen v)<=6:=bitLen_le O;omega
def Fm(v:Nat):∀ m k,m<=k->aY (v%2^k) m=aY v m
 |0,_,_=>rfl
 |m+1,k,h=>by
  rw[aY,aY,Fm v m k O];congr 2;have e:v%2^k/2^m%2^1=v/2^m%2^1:=by
   obtain⟨d,rfl⟩:∃ d,k=m+1+d:=⟨k-(m+1),O⟩;rw[a0h,YA,Zd,Nat.mod_mul_right_div_self];rw[Nat.mod_mul_right_mod]
  rw[e]
def Qz(A B:List Bool)(x m k:Nat)(H:k<m):rb (aI (A++(aY x m++B))) (I A+k)=x/2^(m-1-k)%2:=by
 have l:I (A++(aY x m++B))=I A+m+I B:=by simp[aK,YG]
 rw[Fk O,dj,KV,XP O,Yk,XK (by rw[aK];omega),ql x m k H];rw[YZ];rcases Zr (x/2^(m-1-k))with h|h
 ·rw[h,IN O];rfl
 ·rw[h,LW Y];rfl
def Pk(A B:List Bool){v k:Nat}(H:k<Lib.bitLen v-1):rb (aI (A++(jh v++B))) (I A+k)=0:=by
 unfold jh;rw[KW,Qz A _ 0 _ k H,Nat.zero_div]
def Pl(A B:List Bool){v:Nat}(h0:0<v)(h:v<2^64):rb (aI (A++(jh v++B))) (I A+(Lib.bitLen v-1))=1:=by
 obtain⟨i,j,H⟩:=eh h0 h;unfold jh;have e:A++(aY 0 (Lib.bitLen v-1)++aY v (Lib.bitLen v)++B)=(A++aY 0 (Lib.bitLen v-1))++(aY v (Lib.bitLen v)++B):=by simp[KW]
 have E:I A+(Lib.bitLen v-1)=I (A++aY 0 (Lib.bitLen v-1))+0:=by simp[aK]
 rw[e,E,Qz _ _ _ _ 0 O,a0j];have g:v/2^(Lib.bitLen v-1)=1:=by
  have d:Lib.bitLen v=(Lib.bitLen v-1)+1:=O
  rw[d,YA]at H;exact Nat.div_eq_of_lt_le O O
 rw[g]
def Pm(A B:List Bool){v:Nat}(h0:0<v)(h:v<2^64):qk (aI (A++(jh v++B))) (I A+(Lib.bitLen v-1)) (Lib.bitLen v)=v:=by
 obtain⟨d,g,H⟩:=eh h0 h;unfold jh;have e:A++(aY 0 (Lib.bitLen v-1)++aY v (Lib.bitLen v)++B)=(A++aY 0 (Lib.bitLen v-1))++aY v (Lib.bitLen v)++B:=by simp[KW]
 have E:I A+(Lib.bitLen v-1)=I (A++aY 0 (Lib.bitLen v-1)):=by simp[aK]
 rw[e,E,rn _ _ _ _ H _ (KM _),Y4,a2e,Nat.div_one]
def Pn(A B:List Bool)(v m:Nat):qk (aI (A++(aY v m++B))) (I A) m=v%2^m:=by
 rw[<-Fm v m m (KM _),<-KW,rn A B _ m (Zp _ (Yt m)) m (KM _),Y4,a2e,Nat.div_one]
def Po{v:Nat}(h0:0<v)(h:v<2^64):2^(Lib.bitLen v-1)+v%2^(Lib.bitLen v-1)=v:=by
 obtain⟨g,i,H⟩:=eh h0 h;have E:Lib.bitLen v=(Lib.bitLen v-1)+1:=O
 have d:v/2^(Lib.bitLen v-1)=1:=by
  rw[E,YA]at H;exact Nat.div_eq_of_lt_le O O
 have:=a2o v (2^(Lib.bitLen v-1));rw[d]at this;omega
def LH(l:List Nat)(a x:Nat):Prop:=(∀ k,k<Lib.bitLen x-1->rb l (a+k)=0)/\rb l (a+(Lib.bitLen x-1))=1/\qk l (a+(Lib.bitLen x-1)) (Lib.bitLen x)=x
def LI(l:List Nat)(a x:Nat):Prop:=LH l a (Lib.bitLen x)/\qk l (a+(2*(Lib.bitLen (Lib.bitLen x)-1)+1)) (Lib.bitLen x-1)=x%2^(Lib.bitLen x-1)
def LJ(A B:List Bool){x:Nat}(h0:0<x)(h:x<2^64):LH (aI (A++(jh x++B))) (I A) x:=
 ⟨λ k H=>Pk A B H,Pl A B h0 h,Pm A B h0 h⟩
def LK(A B:List Bool){x:Nat}(h0:0<x)(h:x<2^64):LI (aI (A++(gx x++B))) (I A) x:=by
 obtain⟨H,g,i⟩:=eh h0 h;have j:=bitLen_le64 x;have k:=(eh (v:=Lib.bitLen x) O O).1;have e:A++(gx x++B)=A++(jh (Lib.bitLen x)++(aY x (Lib.bitLen x-1)++B)):=by unfold gx;simp only[KW]
 refine⟨by rw[e];exact LJ A _ O O,?_⟩;have E:A++(gx x++B)=(A++jh (Lib.bitLen x))++(aY x (Lib.bitLen x-1)++B):=by rw[e,KW]
 have d:I A+(2*(Lib.bitLen (Lib.bitLen x)-1)+1)=I (A++jh (Lib.bitLen x)):=by rw[AT,mz];omega
 rw[E,d,Pn]
def cE:Nat->List Nat->List Bool
 |_,[]=>[]
 |bf,p::r=>gx (p+1-bf)++cE (p+1) r
def SY(bf:Nat)(l:List Nat):Nat:=l.foldl (λ _ p=>p+1) bf
def LL(bf:Nat)(l:List Nat)(p:Nat):SY bf (l++[p])=p+1:=by simp[SY]
def vi:∀ (l:List Nat) (bf p:Nat),cE bf (l++[p])=cE bf l++gx (p+1-SY bf l)
 |[],bf,p=>by simp[cE,SY]
 |q::r,bf,p=>by
  rw[Zc,cE,cE,vi r,KW];rfl
def sN:∀ (l r:List Nat) (bf:Nat),cE bf (l++r)=cE bf l++cE (SY bf l) r
 |[],r,bf=>rfl
 |q::l,r,bf=>by rw[Zc,cE,cE,sN l r,KW];rfl
structure OkP(l:List Nat):Prop where
 len:I l<=4096
 asc:l.Pairwise (· < ·)
 lt:∀ p∈l,p<4096
def lu:∀ (l:List Nat) (bf:Nat),(∀ p∈l,p<4096)->I (cE bf l)<=42*I l
 |[],_,_=>KD _
 |p::r,bf,h=>by
  have d:=lu r (p+1) λ q H=>h q (Ya _ H);have g:I (gx (p+1-bf))<=42:=Fl (by have:=h p bw;omega);rw[cE,AT,No];omega
def z8(l:List Nat)(i:Nat):Nat:=SY 0 (J i l)
def mA{l:List Nat}{i p:Nat}(h:l[i]? =some p):z8 l (i+1)=p+1:=by unfold z8;rw[ao h,LL]
def za{l:List Nat}(h:OkP l){i p:Nat}(H:l[i]? =some p):z8 l i<=p:=by
 cases i with
 |zero=>exact KD _
 |succ i=>
  have k:=b8 H;obtain⟨q,d⟩:=ut l i O;rw[mA d];have g:=KC.1 d;have j:=KC.1 H;have:=YJ.1 h.asc i (i+1) O k O;rw[g.2,j.2]at this;exact this
def iL(l:List Nat):Nat->List (Nat×Nat)
 |0=>[]
 |i+1=>if i%16=0 then iL l i++[(l.getD i 0,I (cE 0 (J i l)))]else iL l i
def lx(l:List Nat):∀ i,I (iL l i)=(i+15)/16
 |0=>rfl
 |i+1=>by
  unfold iL;have:=lx l i;split
  ·rw[AT,this,KP];omega
  ·rw[this];omega
def qn(l:List Nat):∀ i k x,(iL l i)[k]? =some x->x=(l.getD (16*k) 0,I (cE 0 (J (16*k) l)))/\16*k<i
 |0,k,x,h=>by simp[iL]at h
 |i+1,k,x,h=>by
  unfold iL at h;split at h
  ·rename_i h16
   rcases XI k (I (iL l i)) with H|H
   ·rw[XK H]at h;have:=qn l i k x h;exact⟨this.1,O⟩
   ·rw[XP H]at h;have d:=b8 h;have e:k-I (iL l i)=0:=by simp at d;omega
    rw[e]at h;cases h;rw[lx]at H e;have E:16*k=i:=O
    rw[E];exact⟨Y,O⟩
  ·have:=qn l i k x h;exact⟨this.1,O⟩
def sO(s:List (Nat×Nat)):Nat->List Nat
 |0=>[]
 |k+1=>if k=0 then[]else sO s k++uv ((s.getD k (0,0)).1-(s.getD (k-1) (0,0)).1)++uv ((s.getD k (0,0)).2-(s.getD (k-1) (0,0)).2)
def LM(s:List (Nat×Nat)):∀ k,∀ x∈sO s k,x<256
 |0,x,h=>by cases h
 |k+1,x,h=>by
  unfold sO at h;split at h
  ·cases h
  ·rcases XE.1 h with h|h
   ·rcases XE.1 h with h|h
    ·exact LM s k x h
    ·exact dG _ x h
   ·exact dG _ x h
def Fo(s:List (Nat×Nat)):∀ k,I (sO s k)<=20*k
 |0=>KD _
 |k+1=>by
  unfold sO;split
  ·exact KD _
  ·have H:=Fo s k;have d:=aF ((s.getD k (0,0)).1-(s.getD (k-1) (0,0)).1);have g:=aF ((s.getD k (0,0)).2-(s.getD (k-1) (0,0)).2);rw[AT,AT];omega
def oK(l:List Nat):List Nat:=uv (I l)++uv (I (cE 0 l))++aI (cE 0 l)++sO (iL l (I l)) (I (iL l (I l)))
def jQ(l:List Nat):∀ x∈oK l,x<256:=λ x h=>by
 unfold oK at h;rcases XE.1 h with h|h
 ·rcases XE.1 h with h|h
  ·rcases XE.1 h with h|h<;>exact dG _ x h
  ·exact j0 _ x h
 ·exact LM _ _ x h
def ly{l:List Nat}(h:OkP l):I (oK l)<=40000:=by
 unfold oK;have d:=aF (I l);have g:=aF (I (cE 0 l));have i:=lu l 0 h.lt;have H:=Fo (iL l (I l)) (I (iL l (I l)));have j:=h.len;rw[AT,AT,AT,aO];rw[lx]at H⊢;omega
def cI(s:ByteArray):List Nat:=uv s.size++bL s
def mB(l:List Nat):List Nat:=uv (I l)++l
def rS(ps:List Pr):List Nat:=uv (I ps)++ps.flatMap λ p=>cI p.1++cI p.2
def SZ{x y:Nat}{r s:List Nat}(d:x<2^64)(g:y<2^64)(h:uv x++r=uv y++s):x=y/\r=s:=by
 have H:=rm d r;rw[h,rm g s]at H;have e:x=y:=(If Prod.fst H).symm;subst e;exact⟨Y,append_cancel_left h⟩
def BO{s t:ByteArray}(h:bL s=bL t):s=t:=by
 unfold bL at h;have:s.data.toList=t.data.toList:=List.map_inj_right (λ a b h=>a0u.1 h)|>.1 h;cases s;cases t;simpa[Array.toList_inj]using this
def Vb(p:Pr):Prop:=p.1.size<2^64/\p.2.size<2^64
def gj(vs:List ByteArray):List Nat:=vs.map (dL (ah vs))
def fq(N:List Nat)(n:Nat):List Nat:=(List.range (I N)).filter λ i=>decide (N[i]? =some n)
def LN{N:List Nat}{n i:Nat}:i∈fq N n↔N[i]? =some n:=by
 unfold fq;rw[Z3,Zt,XS];exact⟨λ h=>h.2,λ h=>⟨(KC.1 h).1,h⟩⟩
def np{N:List Nat}(n:Nat)(h:I N<=4096):OkP (fq N n):=by
 refine⟨?_,?_,λ p H=>?_⟩
 ·have:=a0f (λ i=>decide (N[i]? =some n)) (List.range (I N));rw[a0r]at this;exact XL this h
 ·exact(pairwise_lt_range (n:=I N)).filter _
 ·have:=(KC.1 (LN.1 H)).1;omega
def HK(N:List Nat)(x n:Nat):fq (N++[x]) n=if x=n then fq N n++[I N]else fq N n:=by
 unfold fq;rw[AT,KP,YK,YF];have e:(List.range (I N)).filter (λ i=>decide ((N++[x])[i]? =some n))=(List.range (I N)).filter λ i=>decide (N[i]? =some n):=by
  apply filter_congr;intro i H;rw[XK (Zt.1 H)]
 rw[e];by_cases h:x=n
 ·rw[Xp h];simp[h]
 ·rw[Xn h];simp[h]
def zb{vs:List ByteArray}:∀ x∈gj vs,x<I (ah vs):=λ x d=>by
 obtain⟨v,H,rfl⟩:=Y7.1 d;exact(KC.1 (kU H)).1
where mem_get' {α:Type} {l:List α} {i:Nat} {x:α} (h:l[i]? =some x):x∈l:=Xs h
section
variable (X:List ByteArray->List Nat) (T:List Nat->List Nat)
def wj(N:List Nat)(k:Nat):List Nat:=(List.range k).flatMap λ n=>mB (aQ (oK (fq N n)))
def lJ(a:ByteArray×Bool)(vs:List ByteArray):List Nat:=cI a.1++(uv (if a.2 then 1 else 0)++(mB (X vs)++(mB (T (gj vs))++wj (gj vs) (I (ah vs)))))
def fV(at_:List (ByteArray×Bool))(d:List (List ByteArray))(k:Nat):List Nat:=(List.range k).flatMap λ i=>lJ X T (at_.getD i (wt,false)) (d.map λ t=>t.getD i wt)
abbrev nI:=ByteArray×Int×Int×List Pr
def Iv.v(x:Iv):nI:=(x.nm,x.b,x.e,x.ps)
def jc(x:nI):List Nat:=cI x.1++(uv (x.2.2.1-x.2.1).toNat++rS x.2.2.2)
def QA(bf:Int)(x:nI):List Nat:=cI x.1++(uv (x.2.1-bf).toNat++(uv (x.2.2.1-x.2.1).toNat++rS x.2.2.2))
def gV:Int->List nI->List Nat
 |_,[]=>[]
 |bf,x::r=>QA bf x++gV x.2.1 r
def QB(bf:Int)(l:List nI):Int:=l.foldl (λ _ x=>x.2.1) bf
def xQ:∀ (l:List nI) (bf:Int) (x:nI),gV bf (l++[x])=gV bf l++QA (QB bf l) x
 |[],bf,x=>by simp[gV,QB]
 |y::l,bf,x=>by rw[Zc,gV,gV,xQ l,KW];rfl
def vj(x:Nd):List Nat:=cI x.nm++(uv (x.p+1).toNat++(uv x.b.toNat++uv (x.e-x.b).toNat))
def vM(x:Int×ByteArray):List Nat:=uv (x.1+1).toNat++cI x.2
structure oL where
 at_:List (ByteArray×Bool)
 tk:List (List ByteArray)
 tx:List nI
 rg:List nI
 nd:List Nd
 hd:List Int
 rl:List ByteArray
def Co.v(c:Co):oL:=⟨c.at_,c.tk.map (·.ns),c.tx.map Iv.v,c.rg.map Iv.v,c.nd,c.hd,c.rl⟩
def ji(c:oL):List Nat:=[67,83,49]++(uv (I c.at_)++(fV X T c.at_ c.tk (I c.at_)++(uv (I c.tx)++(c.tx.flatMap jc++(uv (I c.rg)++(gV 0 c.rg++(uv (I c.nd)++(c.nd.flatMap vj++(uv (I c.hd)++(c.hd.zip c.rl).flatMap vM)))))))))
end
def Vc(us:List ByteArray):Prop:=(I us<=1024/\I (ah us)<=8)/\∀ v∈us,v.size<=120
section
variable {X:List ByteArray->List Nat} {T:List Nat->List Nat}
def Vd:Int->List nI->Prop
 |_,[]=>True
 |z,x::r=>x.2.1=z/\Vd x.2.2.1 r
def Um:Int->List nI->Prop
 |_,[]=>True
 |z,x::r=>z<=x.2.1/\Um x.2.1 r
def Xb(x:nI):Prop:=x.1.size<2^64/\I x.2.2.2<2^64/\(∀ p∈x.2.2.2,Vb p)/\0<=x.2.1/\x.2.1<=x.2.2.1/\x.2.2.1<4611686018427387904
structure OkV(a:oL):Prop where
 an:1<=I a.at_/\I a.at_<=8
 as:∀ x∈a.at_,x.1.size<2^64
 tn:I a.tk<=1024
 tw:∀ i,I (ah (a.tk.map λ t=>t.getD i wt))<=8
 tr:∀ r∈a.tk,I r=I a.at_/\∀ v∈r,v.size<=120
 xs:∀ x∈a.tx,Xb x
 xc:Vd 0 a.tx
 rs:∀ x∈a.rg,Xb x
 rc:Um 0 a.rg
 ns:∀ x∈a.nd,x.nm.size<2^64/\-1<=x.p/\x.p<4611686018427387904/\0<=x.b/\x.b<=x.e/\x.e<4611686018427387904
 hl:I a.hd=I a.rl
 hs:∀ x∈a.hd.zip a.rl,-1<=x.1/\x.1<4611686018427387904/\x.2.size<2^64
 ls:I a.tx<2^64/\I a.rg<2^64/\I a.nd<2^64/\I a.hd<2^64
end
def bD{s:ByteArray}(h:bF s=true):s.size<=32:=by
 unfold bF at h;exact XR (Xz _ _▸h).1
def jE{s:ByteArray}(h:jJ s=true):s.size<=120:=by
 unfold jJ at h;exact XR (Xz _ _▸h).1
theorem okPs.sz{ps:List Pr}(h:okPs ps):∀ p∈ps,Vb p:=λ p H=>by
 have d:=bD (h.2.1 p H).1;have g:=jE (h.2.1 p H).2;exact⟨O,O⟩
def Pp{x y:Iv}(h:fk x y<=0):x.b<=y.b:=by
 rcases(by omega:y.b<x.b\/x.b<=y.b)with q|q
 ·unfold fk eM at h;rw[Xn (show¬ x.b<y.b by omega),Xp q,Xp O]at h;omega
 ·exact q
def QC:∀ (l:List Iv) (z:Int),(∀ x,l[0]? =some x->x.b=z)->(∀ (i:Nat) x y,l[i]? =some x->l[i+1]? =some y->y.b=x.e)->Vd z (l.map Iv.v)
 |[],_,_,_=>trivial
 |x::l,z,h1,h2=>⟨h1 x Y,QC l x.e (λ y g=>h2 0 x y Y a0N) λ i a b H d=>h2 (i+1) a b te a0I⟩
def QD:∀ (l:List Iv) (z:Int),(∀ x,l[0]? =some x->z<=x.b)->(∀ (i:Nat) x y,l[i]? =some x->l[i+1]? =some y->x.b<=y.b)->Um z (l.map Iv.v)
 |[],_,_,_=>trivial
 |x::l,z,h1,h2=>⟨h1 x Y,QD l x.b (λ y g=>h2 0 x y Y a0N) λ i a b H d=>h2 (i+1) a b te a0I⟩
def BP:∀ (l V:List ByteArray),l.Nodup->(∀ x∈l,x∈V)->I l<=I V
 |[],_,_,_=>KD _
 |x::r,V,hn,h=>by
  obtain⟨g,i⟩:=a2i.1 hn;have j:=h x bw;have k:=BP r (V.filter λ y=> !decide (y=x)) i λ y d=>Z3.2 ⟨h y (Ya _ d),by
   have H:¬ y=x:=λ e=>by subst e;exact g d
   rw[IN H];rfl⟩
  have o:I (V.filter λ y=> !decide (y=x))<I V:=length_filter_lt_length_iff_exists.2 ⟨x,j,bw⟩;rw[No];omega
def LO{vs V:List ByteArray}(h:∀ v∈vs,v∈V):I (ah vs)<=I V:=
 BP _ _ (List.Pairwise.imp (R:=SLt) (S:=λ a b=>a≠b) (λ h e=>by subst e;exact SLt.vJ _ h) (eC vs)) λ x H=>h x (cT.1 H)
def OkC.VP{k:Nat}{c:Co}(h:OkC k c)(i:Nat):I (ah (c.tk.map λ t=>t.ns.getD i wt))<=8:=by
 refine XL (LO (V:=wt::Ba i) λ v d=>?_) (Nat.succ_le_succ (Kf i));obtain⟨t,H,rfl⟩:=Y7.1 d;rw[KV];cases he:t.ns[i]? with
 |none=>exact Yp ..
 |some u=>exact Ya _ (h.voc t H i u he)
def OkC.WR{k:Nat}{c:Co}(h:OkC k c)(R:k<=80):OkV c.v:=by
 have W:=h.ntk;have bd:∀ {b e:Int},inT c.tx b e->0<=b/\b<=e/\e<4611686018427387904:=λ q=>by
  have:=q.bd h.tx;omega
 have p:I c.hd=I c.rl/\I c.hd<=4096:=by
  rcases h.hd with⟨a,b⟩|a
  ·rw[a,b];exact⟨Y,KD _⟩
  ·have:=a.len;omega
 refine⟨h.at_.2,λ x H=>?_,?_,λ i=>by show(ah ((c.tk.map (·.ns)).map _)).length<=8;rw[ZT];exact h.VP i,λ r w=>?_,λ x H=>?_,QC _ _ h.tx.first h.tx.next,λ x H=>?_,QD _ _ (λ x H=>?_) (λ i x y H D=>Pp (h.rg.asc i x y H D)),λ x H=>?_,p.1,λ x H=>?_,?_⟩
 ·obtain⟨i,d⟩:=Y9 H;have:=bD (h.at_.1 i x d).1;omega
 ·show(c.tk.map (·.ns)).length<=1024;rw[Xu];omega
 ·obtain⟨t,g,rfl⟩:=Y7.1 w;have q:=h.tk t g;refine⟨q.1,λ v A=>?_⟩;obtain⟨i,d⟩:=Y9 A;have T:=(KC.1 d).1;exact jE (q.2 i v _ d (py O)).val
 ·obtain⟨t,g,rfl⟩:=Y7.1 H;obtain⟨Q,j,o,l,E⟩:=h.tx.nm t g;have:=bD Q;exact⟨by show t.nm.size<_;omega,by show I t.ps<_;have:=j.1;omega,j.sz,o,by show t.b<=t.e;omega,by show t.e<_;omega⟩
 ·obtain⟨t,g,rfl⟩:=Y7.1 H;obtain⟨Q,j,o⟩:=h.rg.el t g;have:=bD Q;have l:=bd j;exact⟨by show t.nm.size<_;omega,by show I t.ps<_;have:=o.1;omega,o.sz,l.1,l.2.1,l.2.2⟩
 ·exact(bd (h.rg.el x (Xs H)).2.1).1
 ·have q:=h.nd.el x H;have:=bD q.1;have l:=bd q.2;obtain⟨i,d⟩:=Y9 H;have u:i<I c.nd:=(KC.1 d).1;have:=h.nnd;have E:=h.nd.par i x d;exact⟨O,O,O,l⟩
 ·obtain⟨i,d⟩:=Y9 H;rw[show c.v.hd=c.hd from Y,show c.v.rl=c.rl from Y,a03]at d;rcases h.hd with⟨a,b⟩|a
  ·rw[a]at d;simp at d
  ·have Q:=a.el i x.1 d.1;have j:=a.nm x.2 (Xs d.2);refine⟨?_,?_,?_⟩
   ·rcases Q with e|⟨t,g,e⟩
    ·omega
    ·have:=h.tx.nm t g;omega
   ·rcases Q with e|⟨t,g,e⟩
    ·omega
    ·have:=h.tx.nm t g;omega
   ·rcases j with e|e
    ·rw[e];exact Yt 64
    ·have:=bD e;omega
 ·have K:=h.ntx;have N:=h.nrg;have P:=h.nnd;refine⟨?_,?_,?_,?_⟩
  ·show(c.tx.map Iv.v).length<_;rw[Xu];omega
  ·show(c.rg.map Iv.v).length<_;rw[Xu];omega
  ·show I c.nd<_;omega
  ·show I c.hd<_;omega
