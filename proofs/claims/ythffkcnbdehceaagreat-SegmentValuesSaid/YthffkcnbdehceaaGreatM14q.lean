/-
 M14q:the package merge of the reference gives the lengths of the program. No program in sight.
-/
import Derived.Test.YthffkcnbdehceaaGreatF17g
set_option linter.all false
open Go.Proofs.YthffkcnbdehceaaGreat
open List
namespace Go.Kw
variable {α β:Type}
def zC(f:α->β)(key:β->Nat)(x:α):∀ l:List α,(tY (λ a=>key (f a)) x l).map f=tY key (f x) (l.map f)
 |[]=>rfl
 |y::r=>by
  rw[tY,Sg,tY];split
  ·rfl
  ·rw[Sg,zC f key x r]
def po(f:α->β)(key:β->Nat):∀ l:List α,(bD (λ a=>key (f a)) l).map f=bD key (l.map f)
 |[]=>rfl
 |x::r=>by rw[bD,zC,po f key r];rfl
def pq(f:α->Nat)(p:α->Bool):∀ l:List α,(l.map f).sum=((l.filter p).map f).sum+((l.filter λ x=> !p x).map f).sum
 |[]=>rfl
 |x::r=>by
  have ih:=pq f p r;cases h:p x<;>simp[V3,h,ih]<;>omega
def du(n s:Nat):List Nat:=(List.replicate n 0).set s 1
def La(n:Nat)(x:It):Nat×List Nat:=(x.w,du n x.sym.toNat)
def fk(a b:List Nat):List Nat:=List.zipWith (· + ·) a b
def u5:List (Nat×List Nat)->List (Nat×List Nat)
 |x::y::r=>(x.1+y.1,fk x.2 y.2)::u5 r
 |_=>[]
def Pk(x y:Nat×List Nat):Bool:=decide (x.1<=y.1)
def sM(a b:List (Nat×List Nat)):List (Nat×List Nat):=a.merge b Pk
def zD(c:List Nat):Nat->List (Nat×List Nat)
 |0=>(leaves c).map (La c.length)
 |k+1=>sM ((leaves c).map (La c.length)) (u5 (zD c k))
def vG:Nat->List (It×List Nat)->List (It×List Nat)
 |i,x::y::r=>(⟨x.1.w+y.1.w,-1,i,i+1⟩,fk x.2 y.2)::vG (i+2) r
 |_,_=>[]
def BB(c:List Nat):List (It×List Nat):=(leaves c).map λ x=>(x,du c.length x.sym.toNat)
def oz(c:List Nat):Nat->List (It×List Nat)
 |0=>BB c
 |k+1=>bD (λ p=>p.1.w) (BB c++vG 0 (oz c k))
def Lb(p:It×List Nat):Nat×List Nat:=(p.1.w,p.2)
def nZ:∀ (i:Nat) (l:List (It×List Nat)),(vG i l).map Prod.fst=br i (l.map Prod.fst)
 |i,[]=>by simp[vG,br]
 |i,[x]=>by simp[vG,br]
 |i,x::y::r=>by simp only[vG,Sg,br,nZ (i+2) r]
def Mn:∀ (i:Nat) (l:List (It×List Nat)),(vG i l).map Lb=u5 (l.map Lb)
 |i,[]=>by simp[vG,u5]
 |i,[x]=>by simp[vG,u5]
 |i,x::y::r=>by simp only[vG,Sg,u5,Mn (i+2) r];rfl
def o0(c:List Nat):(BB c).map Prod.fst=leaves c:=by simp[BB,U7]
def Mo(c:List Nat):(BB c).map Lb=(leaves c).map (La c.length):=by simp[BB,U7,Lb,La]
def k6(c:List Nat):∀ k,(oz c k).map Prod.fst=lvl c k
 |0=>o0 c
 |k+1=>by
  rw[oz,po Prod.fst It.w,Si,o0,nZ,k6 c k];rfl
def Srt.of_map{f:α->β}{key:β->Nat}{l:List α}:Srt key (l.map f)↔Srt (λ a=>key (f a)) l:=by unfold Srt;rw[Vf]
def xe:∀ (a b:List (Nat×List Nat)),Srt Prod.fst a->Srt Prod.fst b->sM a b=bD Prod.fst (a++b)
 |[],b,_,hb=>by rw[Tj,ji hb];simp[sM]
 |x::a,[],ha,_=>by rw[SO,ji ha];simp[sM]
 |x::a,y::b,ha,hb=>by
  have ha':=Sb.1 ha;have hb':=Sb.1 hb;by_cases h:x.1<=y.1
  ·have e:Pk x y=true:=Rr h;rw[sM,cons_merge_cons_pos (h:=e)];have ih:=xe a (y::b) ha'.2 hb;rw[sM]at ih;rw[ih];refine jc ?_ ?_
   ·refine Sb.2 ⟨λ z hz=>?_,bW _⟩;rcases RE.1 ((bg _).mem.2 hz)with hz|hz
    ·exact ha'.1 z hz
    ·rcases Rx.1 hz with rfl|hz
     ·exact h
     ·exact RV h (hb'.1 z hz)
   ·rw[TE];exact Stb.append (Stb.refl [x]) (bg _)
  ·have e:¬ Pk x y=true:=by simp[Pk];omega
   rw[sM,cons_merge_cons_neg (h:=e)];have ih:=xe (x::a) b ha hb'.2;rw[sM]at ih;rw[ih];refine jc ?_ ?_
   ·refine Sb.2 ⟨λ z hz=>?_,bW _⟩;rcases RE.1 ((bg _).mem.2 hz)with hz|hz
    ·rcases Rx.1 hz with rfl|hz
     ·omega
     ·have:=ha'.1 z hz;omega
    ·exact hb'.1 z hz
   ·have h1:Stb Prod.fst ((x::a)++[y]) ([y]++(x::a)):=Stb.comm λ z hz q hq=>by
     have hq':q=y:=by simpa using hq
     subst hq';rcases Rx.1 hz with rfl|hz
     ·omega
     ·have:=ha'.1 z hz;omega
    have h2:=Stb.append h1 (Stb.refl b);have h3:=Stb.append (Stb.refl (key:=Prod.fst) [y]) (bg (key:=Prod.fst) ((x::a)++b));rw[show x::a++y::b=(x::a)++[y]++b by simp];refine h2.trans ?_;rw[show[y]++(x::a)++b=[y]++((x::a)++b) by simp];exact h3
 termination_by a b=>a.length+b.length
def CP(c:List Nat):∀ k,(oz c k).map Lb=zD c k
 |0=>Mo c
 |k+1=>by
  have h0:Srt Prod.fst ((BB c).map Lb):=by
   rw[Srt.of_map];have:=bW (key:=It.w) (aO 0 c);have e:leaves c=(BB c).map Prod.fst:=(o0 c).symm;have h:Srt It.w (leaves c):=this;rw[e,Srt.of_map]at h;exact h
  have h1:Srt Prod.fst ((vG 0 (oz c k)).map Lb):=by
   rw[Srt.of_map];have h:Srt It.w ((vG 0 (oz c k)).map Prod.fst):=by rw[nZ,k6];exact pj 0 _ (jX c k)
   rw[Srt.of_map]at h;exact h
  have e:=po Lb Prod.fst (BB c++vG 0 (oz c k));rw[oz];refine e.trans ?_;rw[Si,<-xe _ _ h0 h1,Mn,CP c k,Mo];rfl
def mP(l:List (List Nat))(j:Nat):Nat:=(l.map λ o=>o.getD j 0).sum
def u6(xs:List It)(j:Nat):Nat:=(xs.map λ x=>if x.sym=(j:Int)then 1 else 0).sum
def F9{n s j:Nat}(hs:s<n)(hj:j<n):(du n s).getD j 0=if s=j then 1 else 0:=by
 unfold du;rw[KP,T8];split
 ·simp[hs, *]
 ·simp[hj]
def o3(n s:Nat):(du n s).length=n:=by simp[du]
def HV{ls:List Nat}{x:It}{j:Nat}(hj:j<ls.length):(bump ls x).getD j 0=ls.getD j 0+if x.sym=(j:Int)then 1 else 0:=by
 unfold bump;split
 ·rename_i h
  rw[KP,T8];by_cases e:x.sym.toNat=j
  ·rw[No e,No (by omega),No (by omega),e];rfl
  ·rw[M2 e,M2 (by omega),<-KP];rfl
 ·rw[M2 (by omega)];rfl
def jo:∀ (xs:List It) (ls:List Nat) {j:Nat},j<ls.length->(bX ls xs).getD j 0=ls.getD j 0+u6 xs j
 |[],ls,j,_=>by simp[bX,u6]
 |x::r,ls,j,hj=>by
  have ih:=jo r (bump ls x) (j:=j) (by rw[kX];exact hj);rw[show bX ls (x::r)=bX (bump ls x) r from Y,ih,HV hj];simp[u6];omega
def sN(c:List Nat){j:Nat}:∀ (k t:Nat) (ls:List Nat),j<ls.length->(down c k t ls).getD j 0=ls.getD j 0+(down c k t (List.replicate ls.length 0)).getD j 0
 |0,t,ls,hj=>by simp[down,hj]
 |k+1,t,ls,hj=>by
  have h1:=sN c k (2*jh ((lvl c k).take t)) (bX ls ((lvl c k).take t)) (by rw[cc];exact hj);have h2:=sN c k (2*jh ((lvl c k).take t)) (bX (List.replicate ls.length 0) ((lvl c k).take t)) (by rw[cc];simpa using hj);rw[cc,jo _ _ hj]at h1;rw[cc,jo _ _ (by simpa using hj),Tz]at h2;rw[down,down,h1,h2];simp[hj];omega
def HW{a b:List Nat}{n j:Nat}(ha:a.length=n)(hb:b.length=n):(fk a b).getD j 0=a.getD j 0+b.getD j 0:=by
 unfold fk;simp only[KP,getElem?_zipWith];rcases RG j n with h|h
 ·rw[py (by omega),py (by omega)];rfl
 ·rw[RN (by omega),RN (by omega)];rfl
def l5{a b:List Nat}{n:Nat}(ha:a.length=n)(hb:b.length=n):(fk a b).length=n:=by simp[fk,ha,hb]
def qH:∀ (l:List (Nat×List Nat)),∀ e∈u5 l,∃ x∈l,∃ y∈l,e=(x.1+y.1,fk x.2 y.2)
 |[],e,h=>by simp[u5]at h
 |[x],e,h=>by simp[u5]at h
 |x::y::r,e,h=>by
  rcases Rx.1 (by rw[u5]at h;exact h)with rfl|h
  ·exact⟨x,by simp,y,by simp,Y⟩
  ·obtain⟨a,ha,b,hb,he⟩:=qH r e h;exact⟨a,by simp[ha],b,by simp[hb],he⟩
def sO{a b:List (Nat×List Nat)}{e:Nat×List Nat}:e∈sM a b↔e∈a\/e∈b:=by rw[sM,(merge_perm_append Pk).mem_iff,RE]
def lV(c:List Nat):∀ k,∀ e∈zD c k,e.2.length=c.length
 |0,e,h=>by obtain⟨x,_,rfl⟩:=Sk.1 h;exact o3 _ _
 |k+1,e,h=>by
  rcases sO.1 h with h|h
  ·obtain⟨x,_,rfl⟩:=Sk.1 h;exact o3 _ _
  ·obtain⟨x,hx,y,hy,rfl⟩:=qH _ e h;exact l5 (lV c k x hx) (lV c k y hy)
def BC(c:List Nat):∀ k,∀ e∈zD c k,∀ y∈e.2,y<=2^k:=by
 have h0:∀ e∈(leaves c).map (La c.length),∀ y∈e.2,y<=1:=λ e h y hy=>by
  obtain⟨x,_,rfl⟩:=Sk.1 h;rcases Tc hy with h|h
  ·have:=Tu h;omega
  ·omega
 intro k;induction k with
 |zero=>exact h0
 |succ k ih=>
  intro e h y hy;rcases sO.1 h with h|h
  ·have:=h0 e h y hy;have:=Nat.one_le_two_pow (n:=k+1);omega
  ·obtain⟨a,ha,b,hb,rfl⟩:=qH _ e h;obtain⟨i,hi,rfl⟩:=Vi.1 hy;have hi':=hi;simp only[fk,length_zipWith]at hi';have e1:(fk a.2 b.2)[i]=a.2[i]'(by omega)+b.2[i]'(by omega):=by simp[fk]
   have h1:=ih a ha _ (Uu (l:=a.2) (n:=i) (by omega));have h2:=ih b hb _ (Uu (l:=b.2) (n:=i) (by omega));show(fk a.2 b.2)[i]<=_;rw[e1,T0];omega
def Lc(c:List Nat)(k:Nat):∀ p∈oz c k,p.2.length=c.length:=λ p hp=>by
 have:Lb p∈zD c k:=by rw[<-CP];exact Su hp
 exact lV c k _ this
def CQ{n:Nat}(j:Nat):∀ (m i:Nat) (l:List (It×List Nat)),(∀ p∈l,p.2.length=n)->2*m<=l.length->mP (((vG i l).take m).map Prod.snd) j=mP ((l.take (2*m)).map Prod.snd) j
 |0,i,l,_,_=>by simp[mP]
 |m+1,i,[],_,h=>by simp at h
 |m+1,i,[x],_,h=>by simp at h;omega
 |m+1,i,x::y::r,hl,h=>by
  have ih:=CQ j m (i+2) r (λ p hp=>hl p (by simp[hp])) (by simp at h;omega);rw[show 2*(m+1)=2*m+1+1 by omega,vG];simp only[T5,Sg];have hv:=HW (j:=j) (hl x (by simp)) (hl y (by simp));unfold mP at ih⊢;simp only[Sg,UI,hv,ih];omega
def sP(c:List Nat)(k:Nat):(oz c k).filter (λ p=>eY p.1)=BB c/\(oz c (k+1)).filter (λ p=>nR p.1)=vG 0 (oz c k):=by
 have hl:∀ p∈BB c,0<=p.1.sym:=λ p hp=>by
  obtain⟨x,hx,rfl⟩:=Sk.1 hp;exact mG c x hx
 have hp:∀ (k:Nat),∀ p∈vG 0 (oz c k),p.1.sym= -1:=λ k p hp=>by
  have:p.1∈br 0 (lvl c k):=by rw[<-k6,<-nZ];exact Su hp
  exact jf 0 _ _ this
 have s0:Srt (λ p:It×List Nat=>p.1.w) (BB c):=by
  have h:Srt It.w (leaves c):=bW _;rw[<-o0,Srt.of_map]at h;exact h
 have s1:Srt (λ p:It×List Nat=>p.1.w) (vG 0 (oz c k)):=by
  have h:Srt It.w ((vG 0 (oz c k)).map Prod.fst):=by rw[nZ,k6];exact pj 0 _ (jX c k)
  rw[Srt.of_map]at h;exact h
 have f0:(BB c).filter (λ p=>eY p.1)=BB c:=Tt.2 λ p h=>by have:=hl p h;simp[eY,this]
 constructor
 ·cases k with
  |zero=>exact f0
  |succ k=>
   rw[oz,gA,Te,f0,SR.2,SO,ji s0];intro p h;have:=hp k p h;simp[eY,this]
 ·rw[oz,gA,Te,SR.2,Tj,Tt.2,ji s1]
  ·intro p h;have:=hp k p h;simp[nR,this]
  ·intro p h;have:=hl p h;simp[nR];omega
def xf(c:List Nat){j:Nat}(hj:j<c.length):∀ (l:List (It×List Nat)),(∀ p∈l,p∈BB c)->mP (l.map Prod.snd) j=u6 (l.map Prod.fst) j
 |[],_=>by simp[mP,u6]
 |p::r,h=>by
  have ih:=xf c hj r λ q hq=>h q (by simp[hq]);obtain⟨x,hx,rfl⟩:=Sk.1 (h p (by simp));obtain⟨_,s,hs,hc⟩:=cv c x hx;have hs2:=(IN.1 hc).1;have hu:=F9 (n:=c.length) (s:=s) (j:=j) hs2 hj;unfold mP u6 at ih⊢;simp only[Sg,UI,ih,hs,TB,hu];congr 1;by_cases e:s=j
  ·rw[No e,No (by omega)]
  ·rw[M2 e,M2 (by omega)]
def Fa(xs:List It)(j:Nat):u6 xs j=u6 (xs.filter eY) j:=by
 unfold u6;rw[pq _ eY xs];have:((xs.filter λ x=> !eY x).map λ x=>if x.sym=(j:Int)then 1 else 0).sum=0:=by
  rw[List.sum_eq_zero_iff_forall_eq_nat];intro a ha;obtain⟨x,hx,rfl⟩:=Sk.1 ha;have:=(Tp.1 hx).2;simp[eY]at this;rw[M2 (by omega)]
 omega
def zE(c:List Nat){j:Nat}(hj:j<c.length):∀ (k t:Nat),mP (((oz c k).take t).map Prod.snd) j=(down c (k+1) t (List.replicate c.length 0)).getD j 0
 |0,t=>by
  rw[down,down,jo _ _ (by simpa using hj),oz,xf c hj _ (λ p hp=>RZ hp),Ue,o0];simp[hj,lvl]
 |k+1,t=>by
  have hf:((oz c (k+1)).take t).map Prod.fst=(lvl c (k+1)).take t:=by rw[Ue,k6]
  have hsp:=pq (λ p:It×List Nat=>p.2.getD j 0) (λ p=>eY p.1) ((oz c (k+1)).take t);have e1:∀ l:List (It×List Nat),mP (l.map Prod.snd) j=(l.map λ p=>p.2.getD j 0).sum:=λ l=>by simp[mP,U7]
  have hneg:((oz c (k+1)).take t).filter (λ p=> !eY p.1)=((oz c (k+1)).take t).filter (λ p=>nR p.1):=filter_congr λ p _=>by
   simp only[eY,nR];rcases Int.lt_or_le p.1.sym 0 with h|h
   ·simp[h]
   ·have:¬ p.1.sym<0:=by omega
    simp[h]
  have hpk:((oz c (k+1)).take t).filter (λ p=>nR p.1)=(vG 0 (oz c k)).take (jh ((lvl c (k+1)).take t)):=by
   rw[cO,(sP c k).2,<-hf,jh,countP_map];rfl
  have hlf:mP ((((oz c (k+1)).take t).filter λ p=>eY p.1).map Prod.snd) j=u6 ((lvl c (k+1)).take t) j:=by
   rw[xf c hj,Fa ((lvl c (k+1)).take t),<-hf,filter_map];rfl;intro p hp;have h1:=Tp.1 hp;rw[<-(sP c (k+1)).1];exact Tp.2 ⟨RZ h1.1,h1.2⟩
  have hm:2*jh ((lvl c (k+1)).take t)<=(oz c k).length:=by
   have:=ph c k t;have h2:=If List.length (k6 c k);rw[Rq]at h2;omega
  have ih:=zE c hj k (2*jh ((lvl c (k+1)).take t));rw[e1,hsp,hneg,hpk,<-e1,<-e1,hlf,CQ j _ 0 _ (Lc c k) hm,ih];have hd:=sN c (j:=j) (k+1) (2*jh ((lvl c (k+1)).take t)) (bX (List.replicate c.length 0) ((lvl c (k+1)).take t)) (by rw[cc];simpa using hj);rw[cc,Tz,jo _ _ (by simpa using hj)]at hd;have hd0:down c (k+1+1) t (List.replicate c.length 0)=down c (k+1) (2*jh ((lvl c (k+1)).take t)) (bX (List.replicate c.length 0) ((lvl c (k+1)).take t)):=rfl;rw[hd0,hd];simp[hj]
def HX(c:List Nat)(h2:2<=(leaves c).length){j:Nat}(hj:j<c.length):mP (((zD c 14).take (2*(leaves c).length-2)).map Prod.snd) j=(cd c).getD j 0:=by
 have h:=zE c hj 14 (2*(leaves c).length-2);have e:((oz c 14).take (2*(leaves c).length-2)).map Prod.snd=((zD c 14).take (2*(leaves c).length-2)).map Prod.snd:=by
  rw[<-CP,<-Ue,U4];rfl
 rw[<-e,h,cd,M2 (by omega)]
def wo(x:RI):Nat×List Nat:=(x.w,x.occ)
def Ld(a b:List RI):(gu a b).map wo=sM (a.map wo) (b.map wo):=map_merge λ _ _ _ _=>Y
def BD{key:α->Nat}{l:List α}{x:α}{j:Nat}(hlo:∀ y∈(bD key l).take j,key y<=key x)(hhi:∀ y∈(bD key l).drop j,key x<key y):
  bD key (l++[x])=(bD key l).take j++[x]++(bD key l).drop j:=by
 have hs:=bW (key:=key) l;rw[<-RY j (bD key l)]at hs;obtain⟨h1,h2,h3⟩:=Srt.append.1 hs;refine(jc ?_ ?_).symm
 ·refine Srt.append.2 ⟨Srt.append.2 ⟨h1,Srt.one x,λ y hy z hz=>?_⟩,h2,λ y hy z hz=>?_⟩
  ·have:z=x:=by simpa using hz
   subst this;exact hlo y hy
  ·rcases RE.1 hy with hy|hy
   ·exact h3 y hy z hz
   ·have:y=x:=by simpa using hy
    subst this;have:=hhi z hz;omega
 ·have e1:Stb key (l++[x]) (bD key l++[x]):=Stb.append (bg l) (Stb.refl _);have e2:bD key l++[x]=(bD key l).take j++((bD key l).drop j++[x]):=by
   rw[<-KV,RY]
  rw[e2]at e1;refine e1.trans ?_;rw[KV];refine Stb.append (Stb.refl _) (Stb.comm λ y hy z hz=>?_);have:z=x:=by simpa using hz
  subst this;have:=hhi y hy;omega
def vH{c:List Nat}{k x j:Nat}{lv:List RI}(hx:c[k]? =some x)(h0:0<x)(hlv:lv.map wo=(bD It.w (aO 0 (c.take k))).map (La c.length))(hj:j<=lv.length)
  (hhi:∀ z∈lv.drop j,x<z.w) (hlo:0<j->∀ y,lv[j-1]? =some y->y.w<=x) (b:Bool) (s:SV):
  (lv.take j++[(⟨x,b,s,du c.length k⟩:RI)]++lv.drop j).map wo=(bD It.w (aO 0 (c.take (k+1)))).map (La c.length):=by
 have hkl:=(IN.1 hx).1;have hget:∀ (i:Nat) (z:It),(bD It.w (aO 0 (c.take k)))[i]? =some z->∃ y,lv[i]? =some y/\y.w=z.w:=λ i z hz=>by
  have h:=If (λ l=>l[i]?) hlv;simp only[Rz,hz,T9]at h;cases hy:lv[i]? with
  |none=>rw[hy]at h;simp at h
  |some y=>rw[hy]at h;exact⟨y,Y,If Prod.fst (SC h)⟩
 have hlen:(bD It.w (aO 0 (c.take k))).length=lv.length:=by have:=If List.length hlv;simpa using this.symm
 have e:=BD (key:=It.w) (l:=aO 0 (c.take k)) (x:=⟨x,(k:Int),0,0⟩) (j:=j) (λ y hy=>by
   obtain⟨i,hi,hiy⟩:=Vi.1 hy;rw[KW]at hi;have hyi:(bD It.w (aO 0 (c.take k)))[i]? =some y:=by rw[<-hiy,getElem_take];exact py _
   obtain⟨z,hz⟩:∃ z,(bD It.w (aO 0 (c.take k)))[j-1]? =some z:=⟨_,py (by omega)⟩;obtain⟨q,hq,hqw⟩:=hget _ _ hz;have h1:=hlo (by omega) q hq;show y.w<=x;by_cases e:i=j-1
   ·subst e;rw[hyi]at hz;cases hz;omega
   ·have:=(bW (key:=It.w) (aO 0 (c.take k))).get (by omega:i<j-1) hyi hz;omega) (λ y hy=>by
   obtain⟨i,hi,hiy⟩:=Vi.1 hy;rw[Ry]at hi;have hyi:(bD It.w (aO 0 (c.take k)))[j+i]? =some y:=by rw[<-hiy,getElem_drop];exact py _
   obtain⟨q,hq,hqw⟩:=hget _ _ hyi;have:=hhi q (Rv (by rw[SZ];exact hq));show x<y.w;omega)
 rw[aj hx,fS,No h0];have hk:(c.take k).length=k:=by simp;omega
 rw[hk,RX,e];simp only[Si,Sg,U3,Ue,map_drop,hlv];rfl
def Fb{c:List Nat}{k x:Nat}(hx:c[k]? =some x)(h0:x=0):aO 0 (c.take (k+1))=aO 0 (c.take k):=by
 rw[aj hx,fS,M2 (by omega),SO]
def fU(c:List Nat):List Nat:=c.map λ x=>if 0<x then 1 else 0
def vI(l:List Nat)(x:Nat):fU (l++[x])=fU l++[if 0<x then 1 else 0]:=by simp[fU]
def fB(c:List Nat)(k:Nat):List Nat:=fU (c.take k)++List.replicate (c.length-k) 0
def cZ{c:List Nat}{k:Nat}(h:k<=c.length):(fB c k).length=c.length:=by simp[fB,fU];omega
def Fc{c:List Nat}{k x:Nat}(hx:c[k]? =some x)(h0:x=0):fB c (k+1)=fB c k:=by
 have hk:=(IN.1 hx).1;rw[fB,fB,aj hx,vI,M2 (by omega),KV,show c.length-k=(c.length-(k+1))+1 by omega,TR];rfl
def zF{c:List Nat}{k x:Nat}(hx:c[k]? =some x)(h0:0<x):(fB c k).set k 1=fB c (k+1):=by
 have hk:=(IN.1 hx).1;have hl:(fU (c.take k)).length=k:=by simp[fU];omega
 rw[fB,fB,aj hx,vI,No h0,KV,show c.length-k=(c.length-(k+1))+1 by omega,TR];have e:=wX (P:=fU (c.take k)) (Q:=List.replicate (c.length-(k+1)) 0) (x:=0) (y:=1) (i:=k) hl.symm;rw[e];rfl
def HY(c:List Nat):fB c c.length=fU c:=by simp[fB]
def sQ:∀ (l:List Nat) (i j x:Nat),l[j]? =some x->0<x->∃ y∈aO i l,y.sym=((i+j:Nat):Int)
 |[],i,j,x,h,_=>by simp at h
 |n::r,i,0,x,h,h0=>by
  have:n=x:=by simpa using h
  subst this;exact⟨⟨n,i,0,0⟩,by rw[aO,No h0];simp,by simp⟩
 |n::r,i,j+1,x,h,h0=>by
  obtain⟨y,hy,hs⟩:=sQ r (i+1) j x (by simpa using h) h0;refine⟨y,?_,by rw[hs];omega⟩;rw[aO];split
  ·exact Sl _ hy
  ·exact hy
def BE(c:List Nat):∀ x∈leaves c,0<x.w:=lP c 0
def zG:∀ (xs:List It) (ls:List Nat) (j:Nat),j<ls.length->(xs.foldl (λ ls x=>ls.set x.sym.toNat 1) ls).getD j 0=if ∃ x∈xs,x.sym.toNat=j then 1 else ls.getD j 0
 |[],ls,j,_=>by simp
 |x::r,ls,j,hj=>by
  have ih:=zG r (ls.set x.sym.toNat 1) j (by simpa using hj);rw[TQ,ih];by_cases h:∃ y∈r,y.sym.toNat=j
  ·rw[No h,No (by obtain⟨y,hy,e⟩:=h;exact⟨y,by simp[hy],e⟩)]
  ·rw[M2 h];by_cases e:x.sym.toNat=j
   ·rw[No ⟨x,by simp,e⟩,KP,T8,No e,No (by omega)];rfl
   ·rw[M2 (by rintro⟨y,hy,e2⟩;rcases Rx.1 hy with rfl|hy;(exact e e2);(exact h ⟨y,hy,e2⟩)),KP,T8,M2 e,<-KP]
def HZ{c:List Nat}(h:(leaves c).length<2):cd c=fU c:=by
 rw[cd,No h];apply TL;intro j;have hl:∀ (xs:List It) (ls:List Nat),(xs.foldl (λ ls x=>ls.set x.sym.toNat 1) ls).length=ls.length:=by
  intro xs;induction xs with
  |nil=>intro ls;rfl
  |cons x r ih=>intro ls;rw[TQ,ih];simp
 rcases RG j c.length with hj|hj
 ·have h1:=zG (leaves c) (List.replicate c.length 0) j (by simpa using hj);have e1:∀ (l:List Nat),j<l.length->l[j]? =some (l.getD j 0):=λ l hl=>by rw[KP,py hl];rfl
  rw[e1 _ (by rw[hl];simpa using hj),h1,fU,Rz,py hj];simp only[T9];congr 1;by_cases hc:0<c[j]
  ·obtain⟨y,hy,hs⟩:=sQ c 0 j c[j] (py hj) hc;rw[No hc,No ⟨y,(bg _).mem.1 hy,by omega⟩]
  ·rw[M2 hc,M2]
   ·simp[hj]
   ·rintro⟨y,hy,hs⟩;obtain⟨_,s,hs2,hcs⟩:=cv c y hy;have hp:=BE c y hy;have:s=j:=by omega
    subst this;rw[py hj]at hcs;have:=SC hcs;omega
 ·rw[RN (by rw[hl];simpa using hj),RN (by simp[fU];exact hj)]
def Pl(W:Nat):∀ l:List (Nat×List Nat),(∀ e∈l,e.1<=W)->∀ e∈u5 l,e.1<=2*W:=λ l h e he=>by
 obtain⟨x,hx,y,hy,rfl⟩:=qH l e he;have:=h x hx;have:=h y hy;show x.1+y.1<=_;omega
def I0(c:List Nat)(W:Nat)(h:∀ x∈c,x<=W):∀ k,∀ e∈zD c k,e.1<=W*2^k
 |0,e,he=>by
  obtain⟨x,hx,rfl⟩:=Sk.1 he;have:=h _ (cv c x hx).1;show x.w<=_;omega
 |k+1,e,he=>by
  rcases sO.1 he with he|he
  ·obtain⟨x,hx,rfl⟩:=Sk.1 he;have h1:=h _ (cv c x hx).1;have h2:W<=W*2^(k+1):=TU _ (SH _);show x.w<=_;omega
  ·have:=Pl (W*2^k) (zD c k) (I0 c W h k) e he;rw[T0,<-Ty];omega
def sR(c:List Nat)(k:Nat):(zD c k).length=(lvl c k).length:=by rw[<-CP,Rq,<-k6,Rq]
def sS:∀ (q:Nat) (b:List (Nat×List Nat)) (x y:Nat×List Nat),b[2*q]? =some x->b[2*q+1]? =some y->u5 (b.take (2*(q+1)))=u5 (b.take (2*q))++[(x.1+y.1,fk x.2 y.2)]
 |0,b,x,y,hx,hy=>by
  match b,hx,hy with
  |a::a2::r,hx,hy=>simp at hx hy;subst hx hy;simp[u5]
 |q+1,b,x,y,hx,hy=>by
  match b,hx,hy with
  |[],hx,_=>simp at hx
  |[a],hx,_=>simp at hx
  |a::a2::r,hx,hy=>
   have ih:=sS q r x y (by rw[show 2*(q+1)=2*q+1+1 by omega]at hx;simpa using hx) (by rw[show 2*(q+1)+1=2*q+1+1+1 by omega]at hy;simpa using hy);rw[show 2*(q+1+1)=2*(q+1)+1+1 by omega,show 2*(q+1)=2*q+1+1 by omega];simp only[T5,u5];rw[show 2*q+1+1=2*(q+1) by omega,ih];rfl
def CR:∀ (q:Nat) (b:List (Nat×List Nat)),b.length<=2*q+1->u5 (b.take (2*q))=u5 b
 |0,b,h=>by
  match b with
  |[]=>rfl
  |[x]=>rfl
  |_::_::_=>simp at h
 |q+1,b,h=>by
  match b with
  |[]=>rfl
  |[x]=>rw[Ru (by simp;omega)]
  |a::a2::r=>
   have ih:=CR q r (by simp at h;omega);rw[show 2*(q+1)=2*q+1+1 by omega];simp only[T5,u5,ih]
def vJ(a b:List Nat)(s:Nat):List Nat:=(fk a b).take s++List.replicate (a.length-s) 0
def zH(a b:List Nat):vJ a b 0=List.replicate a.length 0:=by simp[vJ]
def sU{a b:List Nat}{n s:Nat}(ha:a.length=n)(hb:b.length=n)(hs:s<=n):(vJ a b s).length=n:=by simp[vJ,fk,ha,hb];omega
def CS{a b:List Nat}{n:Nat}(ha:a.length=n)(hb:b.length=n):vJ a b n=fk a b:=by
 rw[vJ,Ru (by rw[l5 ha hb];exact KD _),ha,Se];simp
def CU{a b:List Nat}{n s x y:Nat}(ha:a.length=n)(hb:b.length=n)(hx:a[s]? =some x)(hy:b[s]? =some y):(vJ a b s).set s (x+y)=vJ a b (s+1):=by
 have hs:=(IN.1 hx).1;have hv:(fk a b)[s]? =some (x+y):=by simp[fk,getElem?_zipWith,hx,hy]
 have hl:((fk a b).take s).length=s:=by rw[KW,l5 ha hb];omega
 rw[vJ,vJ,aj hv,show a.length-s=(a.length-(s+1))+1 by omega,TR,wX hl.symm];simp
def Le{c:List Nat}{p2:List RI}(hp:p2.map wo=zD c 14)(h2:2<=(leaves c).length){j:Nat}(hj:j<c.length):mP (((p2.take (2*(leaves c).length-2)).drop 0).map RI.occ) j=(cd c).getD j 0:=by
 rw[<-HX c h2 hj,<-hp,Tm,<-Ue,U4];rfl
def I1(l:List (List Nat))(x:List Nat)(j:Nat):mP (l++[x]) j=mP l j+x.getD j 0:=by simp[mP]
def I2{c cur:List Nat}{s:Nat}(hs:s=c.length)(hcl:cur.length=c.length)(hcur:∀ j,j<s->cur[j]? =some ((cd c).getD j 0)):cur=cd c:=by
 apply TL;intro j;have hll:=jW c;rcases RG j c.length with hj|hj
 ·rw[hcur j (by omega),KP,py (by omega)];rfl
 ·rw[RN (by omega),RN (by omega)]
