/-
 M14q:the package merge of the reference gives the lengths of the program. No program in sight.
-/
import Derived.Test.YtcgidfgdbhihbaaGreatDoorF41v
open List renaming length→I,take→J,drop→ww
set_option linter.all false
open Go.Proofs.YtcgidfgdbhihbaaGreatDoor
open List
namespace Go.Kw
variable {α β:Type}
def Bf(f:α->β)(key:β->Nat)(x:α):∀ l:List α,(wh (λ a=>key (f a)) x l).map f=wh key (f x) (l.map f)
 |[]=>rfl
 |y::r=>by
  rw[wh,XZ,wh];split
  ·rfl
  ·rw[XZ,Bf f key x r]
def qQ(f:α->β)(key:β->Nat):∀ l:List α,(bN (λ a=>key (f a)) l).map f=bN key (l.map f)
 |[]=>rfl
 |x::r=>by rw[bN,Bf,qQ f key r];rfl
def qR(f:α->Nat)(p:α->Bool):∀ l:List α,(l.map f).sum=((l.filter p).map f).sum+((l.filter λ x=> !p x).map f).sum
 |[]=>rfl
 |x::r=>by
  have i:=qR f p r;cases h:p x<;>simp[a0n,h,i]<;>omega
def dP(n s:Nat):List Nat:=(List.replicate n 0).set s 1
def OF(n:Nat)(x:It):Nat×List Nat:=(x.w,dP n x.sym.toNat)
def fY(a b:List Nat):List Nat:=List.zipWith (· + ·) a b
def wb:List (Nat×List Nat)->List (Nat×List Nat)
 |x::y::r=>(x.1+y.1,fY x.2 y.2)::wb r
 |_=>[]
def UQ(x y:Nat×List Nat):Bool:=decide (x.1<=y.1)
def uq(a b:List (Nat×List Nat)):List (Nat×List Nat):=a.merge b UQ
def Bg(c:List Nat):Nat->List (Nat×List Nat)
 |0=>(leaves c).map (OF (I c))
 |k+1=>uq ((leaves c).map (OF (I c))) (wb (Bg c k))
def xw:Nat->List (It×List Nat)->List (It×List Nat)
 |i,x::y::r=>(⟨x.1.w+y.1.w,-1,i,i+1⟩,fY x.2 y.2)::xw (i+2) r
 |_,_=>[]
def Di(c:List Nat):List (It×List Nat):=(leaves c).map λ x=>(x,dP (I c) x.sym.toNat)
def qy(c:List Nat):Nat->List (It×List Nat)
 |0=>Di c
 |k+1=>bN (λ p=>p.1.w) (Di c++xw 0 (qy c k))
def OG(p:It×List Nat):Nat×List Nat:=(p.1.w,p.2)
def pO:∀ (i:Nat) (l:List (It×List Nat)),(xw i l).map Prod.fst=bB i (l.map Prod.fst)
 |i,[]=>by simp[xw,bB]
 |i,[x]=>by simp[xw,bB]
 |i,x::y::r=>by simp only[xw,XZ,bB,pO (i+2) r]
def Qh:∀ (i:Nat) (l:List (It×List Nat)),(xw i l).map OG=wb (l.map OG)
 |i,[]=>by simp[xw,wb]
 |i,[x]=>by simp[xw,wb]
 |i,x::y::r=>by simp only[xw,XZ,wb,Qh (i+2) r];rfl
def pP(c:List Nat):(Di c).map Prod.fst=leaves c:=by simp[Di,ZV]
def Qi(c:List Nat):(Di c).map OG=(leaves c).map (OF (I c)):=by simp[Di,ZV,OG,OF]
def kZ(c:List Nat):∀ k,(qy c k).map Prod.fst=lvl c k
 |0=>pP c
 |k+1=>by
  rw[qy,qQ Prod.fst It.w,Y0,pP,pO,kZ c k];rfl
def Srt.of_map{f:α->β}{key:β->Nat}{l:List α}:Srt key (l.map f)↔Srt (λ a=>key (f a)) l:=by unfold Srt;rw[a1y]
def yB:∀ (a b:List (Nat×List Nat)),Srt Prod.fst a->Srt Prod.fst b->uq a b=bN Prod.fst (a++b)
 |[],b,_,hb=>by rw[YW,ky hb];simp[uq]
 |x::a,[],ha,_=>by rw[Yr,ky ha];simp[uq]
 |x::a,y::b,ha,hb=>by
  have d:=XY.1 ha;have g:=XY.1 hb;by_cases h:x.1<=y.1
  ·have e:UQ x y=true:=LW h;rw[uq,cons_merge_cons_pos (h:=e)];have i:=yB a (y::b) d.2 hb;rw[uq]at i;rw[i];refine kg ?_ ?_
   ·refine XY.2 ⟨λ z H=>?_,ct _⟩;rcases XE.1 ((bn _).mem.2 H)with H|H
    ·exact d.1 z H
    ·rcases Xr.1 H with rfl|H
     ·exact h
     ·exact XL h (g.1 z H)
   ·rw[Zc];exact Stb.append (Stb.refl [x]) (bn _)
  ·have e:¬ UQ x y=true:=by simp[UQ];omega
   rw[uq,cons_merge_cons_neg (h:=e)];have i:=yB (x::a) b ha g.2;rw[uq]at i;rw[i];refine kg ?_ ?_
   ·refine XY.2 ⟨λ z H=>?_,ct _⟩;rcases XE.1 ((bn _).mem.2 H)with H|H
    ·rcases Xr.1 H with rfl|H
     ·omega
     ·have:=d.1 z H;omega
    ·exact g.1 z H
   ·have k:Stb Prod.fst ((x::a)++[y]) ([y]++(x::a)):=Stb.comm λ z H q p=>by
     have j:q=y:=by simpa using p
     subst j;rcases Xr.1 H with rfl|H
     ·omega
     ·have:=d.1 z H;omega
    have l:=Stb.append k (Stb.refl b);have o:=Stb.append (Stb.refl (key:=Prod.fst) [y]) (bn (key:=Prod.fst) ((x::a)++b));rw[show x::a++y::b=(x::a)++[y]++b by simp];refine l.trans ?_;rw[show[y]++(x::a)++b=[y]++((x::a)++b) by simp];exact o
 termination_by a b=>I a+I b
def EE(c:List Nat):∀ k,(qy c k).map OG=Bg c k
 |0=>Qi c
 |k+1=>by
  have H:Srt Prod.fst ((Di c).map OG):=by
   rw[Srt.of_map];have:=ct (key:=It.w) (aR 0 c);have e:leaves c=(Di c).map Prod.fst:=(pP c).symm;have h:Srt It.w (leaves c):=this;rw[e,Srt.of_map]at h;exact h
  have d:Srt Prod.fst ((xw 0 (qy c k)).map OG):=by
   rw[Srt.of_map];have h:Srt It.w ((xw 0 (qy c k)).map Prod.fst):=by rw[pO,kZ];exact qZ 0 _ (l9 c k)
   rw[Srt.of_map]at h;exact h
  have e:=qQ OG Prod.fst (Di c++xw 0 (qy c k));rw[qy];refine e.trans ?_;rw[Y0,<-yB _ _ H d,Qh,EE c k,Qi];rfl
def oJ(l:List (List Nat))(j:Nat):Nat:=(l.map λ o=>o.getD j 0).sum
def wc(X:List It)(j:Nat):Nat:=(X.map λ x=>if x.sym=(j:Int)then 1 else 0).sum
def Hq{n s j:Nat}(H:s<n)(hj:j<n):(dP n s).getD j 0=if s=j then 1 else 0:=by
 unfold dP;rw[KV,YQ];split
 ·simp[H, *]
 ·simp[hj]
def pQ(n s:Nat):I (dP n s)=n:=by simp[dP]
def Kr{ls:List Nat}{x:It}{j:Nat}(hj:j<I ls):(bump ls x).getD j 0=ls.getD j 0+if x.sym=(j:Int)then 1 else 0:=by
 unfold bump;split
 ·rename_i h
  rw[KV,YQ];by_cases e:x.sym.toNat=j
  ·rw[Xp e,Xp O,Xp O,e];rfl
  ·rw[Xn e,Xn O,<-KV];rfl
 ·rw[Xn O];rfl
def kb:∀ (X:List It) (ls:List Nat) {j:Nat},j<I ls->(cu ls X).getD j 0=ls.getD j 0+wc X j
 |[],ls,j,_=>by simp[cu,wc]
 |x::r,ls,j,hj=>by
  have i:=kb r (bump ls x) (j:=j) (by rw[mj];exact hj);rw[show cu ls (x::r)=cu (bump ls x) r from Y,i,Kr hj];simp[wc];omega
def ur(c:List Nat){j:Nat}:∀ (k t:Nat) (ls:List Nat),j<I ls->(down c k t ls).getD j 0=ls.getD j 0+(down c k t (List.replicate (I ls) 0)).getD j 0
 |0,t,ls,hj=>by simp[down,hj]
 |k+1,t,ls,hj=>by
  have H:=ur c k (2*ku (J t (lvl c k))) (cu ls (J t (lvl c k))) (by rw[cB];exact hj);have d:=ur c k (2*ku (J t (lvl c k))) (cu (List.replicate (I ls) 0) (J t (lvl c k))) (by rw[cB];simpa using hj);rw[cB,kb _ _ hj]at H;rw[cB,kb _ _ a2K,Zf]at d;rw[down,down,H,d];simp[hj];omega
def Ks{a b:List Nat}{n j:Nat}(H:I a=n)(d:I b=n):(fY a b).getD j 0=a.getD j 0+b.getD j 0:=by
 unfold fY;simp only[KV,getElem?_zipWith];rcases XI j n with h|h
 ·rw[py O,py O];rfl
 ·rw[XQ O,XQ O];rfl
def mc{a b:List Nat}{n:Nat}(H:I a=n)(d:I b=n):I (fY a b)=n:=by simp[fY,H,d]
def sF:∀ (l:List (Nat×List Nat)),∀ e∈wb l,∃ x∈l,∃ y∈l,e=(x.1+y.1,fY x.2 y.2)
 |[],e,h=>by simp[wb]at h
 |[x],e,h=>by simp[wb]at h
 |x::y::r,e,h=>by
  rcases Xr.1 (by rw[wb]at h;exact h)with rfl|h
  ·exact⟨x,bw,y,bw,Y⟩
  ·obtain⟨a,H,b,d,he⟩:=sF r e h;exact⟨a,zc,b,a1P,he⟩
def uu{a b:List (Nat×List Nat)}{e:Nat×List Nat}:e∈uq a b↔e∈a\/e∈b:=by rw[uq,(merge_perm_append UQ).mem_iff,XE]
def n4(c:List Nat):∀ k,∀ e∈Bg c k,I e.2=I c
 |0,e,h=>by obtain⟨x,_,rfl⟩:=Y7.1 h;exact pQ _ _
 |k+1,e,h=>by
  rcases uu.1 h with h|h
  ·obtain⟨x,_,rfl⟩:=Y7.1 h;exact pQ _ _
  ·obtain⟨x,H,y,d,rfl⟩:=sF _ e h;exact mc (n4 c k x H) (n4 c k y d)
def Dj(c:List Nat):∀ k,∀ e∈Bg c k,∀ y∈e.2,y<=2^k:=by
 have g:∀ e∈(leaves c).map (OF (I c)),∀ y∈e.2,y<=1:=λ e h y H=>by
  obtain⟨x,_,rfl⟩:=Y7.1 h;rcases YT H with h|h
  ·have:=Za h;omega
  ·omega
 intro k;induction k with
 |zero=>exact g
 |succ k j=>
  intro e h y H;rcases uu.1 h with h|h
  ·have:=g e h y H;have:=Nat.one_le_two_pow (n:=k+1);omega
  ·obtain⟨a,o,b,p,rfl⟩:=sF _ e h;obtain⟨i,q,rfl⟩:=a14.1 H;have d:=q;simp only[fY,length_zipWith]at d;have E:(fY a.2 b.2)[i]=a.2[i]' O+b.2[i]' O:=by simp[fY]
   have r:=j a o _ (a0m (l:=a.2) (n:=i) O);have t:=j b p _ (a0m (l:=b.2) (n:=i) O);show(fY a.2 b.2)[i]<=_;rw[E,YA];omega
def OH(c:List Nat)(k:Nat):∀ p∈qy c k,I p.2=I c:=λ p H=>by
 have:OG p∈Bg c k:=by rw[<-EE];exact Ye H
 exact n4 c k _ this
def EF{n:Nat}(j:Nat):∀ (m i:Nat) (l:List (It×List Nat)),(∀ p∈l,I p.2=n)->2*m<=I l->oJ ((J m (xw i l)).map Prod.snd) j=oJ ((J (2*m) l).map Prod.snd) j
 |0,i,l,_,_=>by simp[oJ]
 |m+1,i,[],_,h=>by simp at h
 |m+1,i,[x],_,h=>by simp at h;omega
 |m+1,i,x::y::r,hl,h=>by
  have d:=EF j m (i+2) r (λ p H=>hl p zc) a4l;rw[show 2*(m+1)=2*m+1+1 by omega,xw];simp only[YN,XZ];have g:=Ks (j:=j) (hl x bw) (hl y bw);unfold oJ at d⊢;simp only[XZ,a02,g,d];omega
def uw(c:List Nat)(k:Nat):(qy c k).filter (λ p=>fR p.1)=Di c/\(qy c (k+1)).filter (λ p=>pY p.1)=xw 0 (qy c k):=by
 have l:∀ p∈Di c,0<=p.1.sym:=λ p H=>by
  obtain⟨x,d,rfl⟩:=Y7.1 H;exact oA c x d
 have H:∀ (k:Nat),∀ p∈xw 0 (qy c k),p.1.sym= -1:=λ k p H=>by
  have:p.1∈bB 0 (lvl c k):=by rw[<-kZ,<-pO];exact Ye H
  exact ko 0 _ _ this
 have g:Srt (λ p:It×List Nat=>p.1.w) (Di c):=by
  have h:Srt It.w (leaves c):=ct _;rw[<-pP,Srt.of_map]at h;exact h
 have i:Srt (λ p:It×List Nat=>p.1.w) (xw 0 (qy c k)):=by
  have h:Srt It.w ((xw 0 (qy c k)).map Prod.fst):=by rw[pO,kZ];exact qZ 0 _ (l9 c k)
  rw[Srt.of_map]at h;exact h
 have f0:(Di c).filter (λ p=>fR p.1)=Di c:=Z8.2 λ p h=>by have:=l p h;simp[fR,this]
 constructor
 ·cases k with
  |zero=>exact f0
  |succ k=>
   rw[qy,iG,YF,f0,YD.2,Yr,ky g];intro p h;have:=H k p h;simp[fR,this]
 ·rw[qy,iG,YF,YD.2,YW,Z8.2,ky i]
  ·intro p h;have:=H k p h;simp[pY,this]
  ·intro p h;have:=l p h;simp[pY];omega
def yC(c:List Nat){j:Nat}(hj:j<I c):∀ (l:List (It×List Nat)),(∀ p∈l,p∈Di c)->oJ (l.map Prod.snd) j=wc (l.map Prod.fst) j
 |[],_=>by simp[oJ,wc]
 |p::r,h=>by
  have i:=yC c hj r λ q g=>h q a0G;obtain⟨x,o,rfl⟩:=Y7.1 (h p bw);obtain⟨_,s,k,d⟩:=cM c x o;have H:=(KC.1 d).1;have u:=Hq (n:=I c) (s:=s) (j:=j) H hj;unfold oJ wc at i⊢;simp only[XZ,a02,i,k,Zi,u];congr 1;by_cases e:s=j
  ·rw[Xp e,Xp O]
  ·rw[Xn e,Xn O]
def Hr(X:List It)(j:Nat):wc X j=wc (X.filter fR) j:=by
 unfold wc;rw[qR _ fR X];have:((X.filter λ x=> !fR x).map λ x=>if x.sym=(j:Int)then 1 else 0).sum=0:=by
  rw[List.sum_eq_zero_iff_forall_eq_nat];intro a H;obtain⟨x,d,rfl⟩:=Y7.1 H;have:=(Z3.1 d).2;simp[fR]at this;rw[Xn O]
 omega
def Bh(c:List Nat){j:Nat}(hj:j<I c):∀ (k t:Nat),oJ ((J t (qy c k)).map Prod.snd) j=(down c (k+1) t (List.replicate (I c) 0)).getD j 0
 |0,t=>by
  rw[down,down,kb _ _ a2K,qy,yC c hj _ (λ p i=>XX i),a0d,pP];simp[hj,lvl]
 |k+1,t=>by
  have u:(J t (qy c (k+1))).map Prod.fst=J t (lvl c (k+1)):=by rw[a0d,kZ]
  have q:=qR (λ p:It×List Nat=>p.2.getD j 0) (λ p=>fR p.1) (J t (qy c (k+1)));have E:∀ l:List (It×List Nat),oJ (l.map Prod.snd) j=(l.map λ p=>p.2.getD j 0).sum:=λ l=>by simp[oJ,ZV]
  have g:(J t (qy c (k+1))).filter (λ p=> !fR p.1)=(J t (qy c (k+1))).filter (λ p=>pY p.1):=filter_congr λ p _=>by
   simp only[fR,pY];rcases Int.lt_or_le p.1.sym 0 with h|h
   ·simp[h]
   ·have:¬ p.1.sym<0:=O
    simp[h]
  have o:(J t (qy c (k+1))).filter (λ p=>pY p.1)=J (ku (J t (lvl c (k+1)))) (xw 0 (qy c k)):=by
   rw[dq,(uw c k).2,<-u,ku,countP_map];rfl
  have d:oJ (((J t (qy c (k+1))).filter λ p=>fR p.1).map Prod.snd) j=wc (J t (lvl c (k+1))) j:=by
   rw[yC c hj,Hr (J t (lvl c (k+1))),<-u,filter_map];rfl;intro p i;have r:=Z3.1 i;rw[<-(uw c (k+1)).1];exact Z3.2 ⟨XX r.1,r.2⟩
  have y:2*ku (J t (lvl c (k+1)))<=I (qy c k):=by
   have:=qY c k t;have w:=If List.length (kZ c k);rw[Xu]at w;omega
  have A:=Bh c hj k (2*ku (J t (lvl c (k+1))));rw[E,q,g,o,<-E,<-E,d,EF j _ 0 _ (OH c k) y,A];have hd:=ur c (j:=j) (k+1) (2*ku (J t (lvl c (k+1)))) (cu (List.replicate (I c) 0) (J t (lvl c (k+1)))) (by rw[cB];simpa using hj);rw[cB,Zf,kb _ _ a2K]at hd;have H:down c (k+1+1) t (List.replicate (I c) 0)=down c (k+1) (2*ku (J t (lvl c (k+1)))) (cu (List.replicate (I c) 0) (J t (lvl c (k+1)))):=rfl;rw[H,hd];simp[hj]
def Kt(c:List Nat)(h2:2<=I (leaves c)){j:Nat}(hj:j<I c):oJ ((J (2*I (leaves c)-2) (Bg c 14)).map Prod.snd) j=(cC c).getD j 0:=by
 have h:=Bh c hj 14 (2*I (leaves c)-2);have e:(J (2*I (leaves c)-2) (qy c 14)).map Prod.snd=(J (2*I (leaves c)-2) (Bg c 14)).map Prod.snd:=by
  rw[<-EE,<-a0d,ZT];rfl
 rw[<-e,h,cC,Xn O]
def wo(x:RI):Nat×List Nat:=(x.w,x.occ)
def OI(a b:List RI):(iw a b).map wo=uq (a.map wo) (b.map wo):=map_merge λ _ _ _ _=>Y
def Dk{key:α->Nat}{l:List α}{x:α}{j:Nat}(o:∀ y∈J j (bN key l),key y<=key x)(i:∀ y∈ww j (bN key l),key x<key y):
  bN key (l++[x])=J j (bN key l)++[x]++ww j (bN key l):=by
 have g:=ct (key:=key) l;rw[<-XV j (bN key l)]at g;obtain⟨p,q,r⟩:=Srt.append.1 g;refine(kg ?_ ?_).symm
 ·refine Srt.append.2 ⟨Srt.append.2 ⟨p,Srt.one x,λ y H z d=>?_⟩,q,λ y H z d=>?_⟩
  ·have:z=x:=a0I
   subst this;exact o y H
  ·rcases XE.1 H with H|H
   ·exact r y H z d
   ·have:y=x:=te
    subst this;have:=i z d;omega
 ·have E:Stb key (l++[x]) (bN key l++[x]):=Stb.append (bn l) (Stb.refl _);have k:bN key l++[x]=J j (bN key l)++(ww j (bN key l)++[x]):=by
   rw[<-KW,XV]
  rw[k]at E;refine E.trans ?_;rw[KW];refine Stb.append (Stb.refl _) (Stb.comm λ y H z d=>?_);have:z=x:=a0I
  subst this;have:=i y H;omega
def xx{c:List Nat}{k x j:Nat}{d:List RI}(P:c[k]? =some x)(h0:0<x)(o:d.map wo=(bN It.w (aR 0 (J k c))).map (OF (I c)))(hj:j<=I d)
  (u:∀ z∈ww j d,x<z.w) (D:0<j->∀ y,d[j-1]? =some y->y.w<=x) (b:Bool) (s:SV):
  (J j d++[(⟨x,b,s,dP (I c) k⟩:RI)]++ww j d).map wo=(bN It.w (aR 0 (J (k+1) c))).map (OF (I c)):=by
 have R:=(KC.1 P).1;have t:∀ (i:Nat) (z:It),(bN It.w (aR 0 (J k c)))[i]? =some z->∃ y,d[i]? =some y/\y.w=z.w:=λ i z r=>by
  have h:=If (λ l=>l[i]?) o;simp only[XF,r,Z6]at h;cases p:d[i]? with
  |none=>rw[p]at h;simp at h
  |some y=>rw[p]at h;exact⟨y,Y,If Prod.fst (Y8 h)⟩
 have N:I (bN It.w (aR 0 (J k c)))=I d:=by have:=If List.length o;simpa using this.symm
 have e:=Dk (key:=It.w) (l:=aR 0 (J k c)) (x:=⟨x,(k:Int),0,0⟩) (j:=j) (λ y p=>by
   obtain⟨i,A,g⟩:=a14.1 p;rw[Xo]at A;have H:(bN It.w (aR 0 (J k c)))[i]? =some y:=by rw[<-g,getElem_take];exact py _
   obtain⟨z,r⟩:=ut (bN It.w (aR 0 (J k c))) (j-1) O;obtain⟨q,E,K⟩:=t _ _ r;have T:=D O q E;show y.w<=x;by_cases e:i=j-1
   ·subst e;rw[H]at r;cases r;omega
   ·have:=(ct (key:=It.w) (aR 0 (J k c))).get (by omega:i<j-1) H r;omega) (λ y p=>by
   obtain⟨i,A,g⟩:=a14.1 p;rw[XD]at A;have H:(bN It.w (aR 0 (J k c)))[j+i]? =some y:=by rw[<-g,getElem_drop];exact py _
   obtain⟨q,E,K⟩:=t _ _ H;have:=u q (Xs (by rw[YI];exact E));show x<y.w;omega)
 rw[ao P,gR,Xp h0];have Q:I (J k c)=k:=by simp;omega
 rw[Q,XU,e];simp only[Y0,XZ,Zy,a0d,map_drop,o];rfl
def Ht{c:List Nat}{k x:Nat}(H:c[k]? =some x)(h0:x=0):aR 0 (J (k+1) c)=aR 0 (J k c):=by
 rw[ao H,gR,Xn O,Yr]
def gP(c:List Nat):List Nat:=c.map λ x=>if 0<x then 1 else 0
def xy(l:List Nat)(x:Nat):gP (l++[x])=gP l++[if 0<x then 1 else 0]:=by simp[gP]
def gq(c:List Nat)(k:Nat):List Nat:=gP (J k c)++List.replicate (I c-k) 0
def dE{c:List Nat}{k:Nat}(h:k<=I c):I (gq c k)=I c:=by simp[gq,gP];omega
def Hu{c:List Nat}{k x:Nat}(H:c[k]? =some x)(h0:x=0):gq c (k+1)=gq c k:=by
 have d:=(KC.1 H).1;rw[gq,gq,ao H,xy,Xn O,KW,show I c-k=(I c-(k+1))+1 by omega,Zx];rfl
def Bi{c:List Nat}{k x:Nat}(H:c[k]? =some x)(h0:0<x):(gq c k).set k 1=gq c (k+1):=by
 have d:=(KC.1 H).1;have l:I (gP (J k c))=k:=by simp[gP];omega
 rw[gq,gq,ao H,xy,Xp h0,KW,show I c-k=(I c-(k+1))+1 by omega,Zx];have e:=yT (P:=gP (J k c)) (Q:=List.replicate (I c-(k+1)) 0) (x:=0) (y:=1) (i:=k) l.symm;rw[e];rfl
def Ku(c:List Nat):gq c (I c)=gP c:=by simp[gq]
def ux:∀ (l:List Nat) (i j x:Nat),l[j]? =some x->0<x->∃ y∈aR i l,y.sym=((i+j:Nat):Int)
 |[],i,j,x,h,_=>by simp at h
 |n::r,i,0,x,h,h0=>by
  have:n=x:=ra
  subst this;exact⟨⟨n,i,0,0⟩,by rw[aR,Xp h0];simp,bw⟩
 |n::r,i,j+1,x,h,h0=>by
  obtain⟨y,H,d⟩:=ux r (i+1) j x ra h0;refine⟨y,?_,by rw[d];omega⟩;rw[aR];split
  ·exact Ya _ H
  ·exact H
def Dl(c:List Nat):∀ x∈leaves c,0<x.w:=nb c 0
def Bj:∀ (X:List It) (ls:List Nat) (j:Nat),j<I ls->(X.foldl (λ ls x=>ls.set x.sym.toNat 1) ls).getD j 0=if ∃ x∈X,x.sym.toNat=j then 1 else ls.getD j 0
 |[],ls,j,_=>by simp
 |x::r,ls,j,hj=>by
  have i:=Bj r (ls.set x.sym.toNat 1) j a2K;rw[Zg,i];by_cases h:∃ y∈r,y.sym.toNat=j
  ·rw[Xp h,Xp (by obtain⟨y,H,e⟩:=h;exact⟨y,zc,e⟩)]
  ·rw[Xn h];by_cases e:x.sym.toNat=j
   ·rw[Xp ⟨x,bw,e⟩,KV,YQ,Xp e,Xp O];rfl
   ·rw[Xn (by rintro⟨y,H,E⟩;rcases Xr.1 H with rfl|H;(exact e E);(exact h ⟨y,H,E⟩)),KV,YQ,Xn e,<-KV]
def Kv{c:List Nat}(h:I (leaves c)<2):cC c=gP c:=by
 rw[cC,Xp h];apply ZC;intro j;have g:∀ (X:List It) (ls:List Nat),I (X.foldl (λ ls x=>ls.set x.sym.toNat 1) ls)=I ls:=by
  intro X;induction X with
  |nil=>intro ls;rfl
  |cons x r t=>intro ls;rw[Zg,t];simp
 rcases XI j (I c) with H|H
 ·have o:=Bj (leaves c) (List.replicate (I c) 0) j te;have E:∀ (l:List Nat),j<I l->l[j]? =some (l.getD j 0):=λ l g=>by rw[KV,py g];rfl
  rw[E _ (by rw[g];simpa using H),o,gP,XF,py H];simp only[Z6];congr 1;by_cases k:0<c[j]
  ·obtain⟨y,i,p⟩:=ux c 0 j c[j] (py H) k;rw[Xp k,Xp ⟨y,(bn _).mem.1 i,O⟩]
  ·rw[Xn k,Xn]
   ·simp[H]
   ·rintro⟨y,i,p⟩;obtain⟨_,s,q,d⟩:=cM c y i;have u:=Dl c y i;have:s=j:=O
    subst this;rw[py H]at d;have:=Y8 d;omega
 ·rw[XQ (by rw[g];simpa using H),XQ (by simp[gP];exact H)]
def UR(W:Nat):∀ l:List (Nat×List Nat),(∀ e∈l,e.1<=W)->∀ e∈wb l,e.1<=2*W:=λ l h e he=>by
 obtain⟨x,H,y,d,rfl⟩:=sF l e he;have:=h x H;have:=h y d;show x.1+y.1<=_;omega
def Kx(c:List Nat)(W:Nat)(h:∀ x∈c,x<=W):∀ k,∀ e∈Bg c k,e.1<=W*2^k
 |0,e,he=>by
  obtain⟨x,H,rfl⟩:=Y7.1 he;have:=h _ (cM c x H).1;show x.w<=_;omega
 |k+1,e,he=>by
  rcases uu.1 he with he|he
  ·obtain⟨x,H,rfl⟩:=Y7.1 he;have d:=h _ (cM c x H).1;have g:W<=W*2^(k+1):=ZF _ (Yt _);show x.w<=_;omega
  ·have:=UR (W*2^k) (Bg c k) (Kx c W h k) e he;rw[YA,<-Zd];omega
def uy(c:List Nat)(k:Nat):I (Bg c k)=I (lvl c k):=by rw[<-EE,Xu,<-kZ,Xu]
def uz:∀ (q:Nat) (b:List (Nat×List Nat)) (x y:Nat×List Nat),b[2*q]? =some x->b[2*q+1]? =some y->wb (J (2*(q+1)) b)=wb (J (2*q) b)++[(x.1+y.1,fY x.2 y.2)]
 |0,b,x,y,hx,hy=>by
  match b,hx,hy with
  |a::a2::r,hx,hy=>simp at hx hy;subst hx hy;simp[wb]
 |q+1,b,x,y,hx,hy=>by
  match b,hx,hy with
  |[],hx,_=>simp at hx
  |[a],hx,_=>simp at hx
  |a::a2::r,hx,hy=>
   have i:=uz q r x y (by rw[show 2*(q+1)=2*q+1+1 by omega]at hx;simpa using hx) (by rw[show 2*(q+1)+1=2*q+1+1+1 by omega]at hy;simpa using hy);rw[show 2*(q+1+1)=2*(q+1)+1+1 by omega,show 2*(q+1)=2*q+1+1 by omega];simp only[YN,wb];rw[show 2*q+1+1=2*(q+1) by omega,i];rfl
def EG:∀ (q:Nat) (b:List (Nat×List Nat)),I b<=2*q+1->wb (J (2*q) b)=wb b
 |0,b,h=>by
  match b with
  |[]=>rfl
  |[x]=>rfl
  |_::_::_=>simp at h
 |q+1,b,h=>by
  match b with
  |[]=>rfl
  |[x]=>rw[Xx cf]
  |a::a2::r=>
   have i:=EG q r a4l;rw[show 2*(q+1)=2*q+1+1 by omega];simp only[YN,wb,i]
def xz(a b:List Nat)(s:Nat):List Nat:=J s (fY a b)++List.replicate (I a-s) 0
def Bk(a b:List Nat):xz a b 0=List.replicate (I a) 0:=by simp[xz]
def uA{a b:List Nat}{n s:Nat}(H:I a=n)(d:I b=n)(g:s<=n):I (xz a b s)=n:=by simp[xz,fY,H,d];omega
def EH{a b:List Nat}{n:Nat}(H:I a=n)(d:I b=n):xz a b n=fY a b:=by
 rw[xz,Xx (by rw[mc H d];exact KM _),H,Y4];simp
def EI{a b:List Nat}{n s x y:Nat}(d:I a=n)(g:I b=n)(H:a[s]? =some x)(j:b[s]? =some y):(xz a b s).set s (x+y)=xz a b (s+1):=by
 have k:=(KC.1 H).1;have i:(fY a b)[s]? =some (x+y):=by simp[fY,getElem?_zipWith,H,j]
 have l:I (J s (fY a b))=s:=by rw[Xo,mc d g];omega
 rw[xz,xz,ao i,show I a-s=(I a-(s+1))+1 by omega,Zx,yT l.symm];simp
def OJ{c:List Nat}{p:List RI}(H:p.map wo=Bg c 14)(h2:2<=I (leaves c)){j:Nat}(hj:j<I c):oJ ((ww 0 (J (2*I (leaves c)-2) p)).map RI.occ) j=(cC c).getD j 0:=by
 rw[<-Kt c h2 hj,<-H,YR,<-a0d,ZT];rfl
def Ky(l:List (List Nat))(x:List Nat)(j:Nat):oJ (l++[x]) j=oJ l j+x.getD j 0:=by simp[oJ]
def Kz{c r:List Nat}{s:Nat}(i:s=I c)(l:I r=I c)(H:∀ j,j<s->r[j]? =some ((cC c).getD j 0)):r=cC c:=by
 apply ZC;intro j;have g:=l8 c;rcases XI j (I c) with d|d
 ·rw[H j O,KV,py O];rfl
 ·rw[XQ O,XQ O]
