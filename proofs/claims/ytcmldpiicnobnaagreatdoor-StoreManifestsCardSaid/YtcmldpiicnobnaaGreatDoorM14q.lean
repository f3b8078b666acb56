/-
 M14q:the package merge of the reference gives the lengths of the program. No program in sight.
-/
import Derived.Test.YtcmldpiicnobnaaGreatDoorF16t
set_option linter.all false
open Go.Proofs.YtcmldpiicnobnaaGreatDoor
open List
namespace Go.Kw
variable {α β:Type}
def vS(f:α->β)(key:β->Nat)(x:α):∀ l:List α,(rf (λ a=>key (f a)) x l).map f=rf key (f x) (l.map f)
 |[]=>rfl
 |y::r=>by
  rw[rf,P5,rf];split
  ·rfl
  ·rw[P5,vS f key x r]
def nF(f:α->β)(key:β->Nat):∀ l:List α,(bT (λ a=>key (f a)) l).map f=bT key (l.map f)
 |[]=>rfl
 |x::r=>by rw[bT,vS,nF f key r];rfl
def nG(f:α->Nat)(p:α->Bool):∀ l:List α,(l.map f).sum=((l.filter p).map f).sum+((l.filter λ x=> !p x).map f).sum
 |[]=>rfl
 |x::r=>by
  have ih:=nG f p r;cases h:p x<;>simp[Rs,h,ih]<;>omega
def cX(n s:Nat):List Nat:=(List.replicate n 0).set s 1
def H9(n:Nat)(x:It):Nat×List Nat:=(x.w,cX n x.sym.toNat)
def eF(a b:List Nat):List Nat:=List.zipWith (· + ·) a b
def rm:List (Nat×List Nat)->List (Nat×List Nat)
 |x::y::r=>(x.1+y.1,eF x.2 y.2)::rm r
 |_=>[]
def M8(x y:Nat×List Nat):Bool:=decide (x.1<=y.1)
def qm(a b:List (Nat×List Nat)):List (Nat×List Nat):=a.merge b M8
def vT(c:List Nat):Nat->List (Nat×List Nat)
 |0=>(leaves c).map (H9 c.length)
 |k+1=>qm ((leaves c).map (H9 c.length)) (rm (vT c k))
def sf:Nat->List (It×List Nat)->List (It×List Nat)
 |i,x::y::r=>(⟨x.1.w+y.1.w,-1,i,i+1⟩,eF x.2 y.2)::sf (i+2) r
 |_,_=>[]
def y4(c:List Nat):List (It×List Nat):=(leaves c).map λ x=>(x,cX c.length x.sym.toNat)
def mX(c:List Nat):Nat->List (It×List Nat)
 |0=>y4 c
 |k+1=>bT (λ p=>p.1.w) (y4 c++sf 0 (mX c k))
def Ha(p:It×List Nat):Nat×List Nat:=(p.1.w,p.2)
def mE:∀ (i:Nat) (l:List (It×List Nat)),(sf i l).map Prod.fst=cF i (l.map Prod.fst)
 |i,[]=>by simp[sf,cF]
 |i,[x]=>by simp[sf,cF]
 |i,x::y::r=>by simp only[sf,P5,cF,mE (i+2) r]
def IE:∀ (i:Nat) (l:List (It×List Nat)),(sf i l).map Ha=rm (l.map Ha)
 |i,[]=>by simp[sf,rm]
 |i,[x]=>by simp[sf,rm]
 |i,x::y::r=>by simp only[sf,P5,rm,IE (i+2) r];rfl
def mF(c:List Nat):(y4 c).map Prod.fst=leaves c:=by simp[y4,R9]
def IF(c:List Nat):(y4 c).map Ha=(leaves c).map (H9 c.length):=by simp[y4,R9,Ha,H9]
def iK(c:List Nat):∀ k,(mX c k).map Prod.fst=lvl c k
 |0=>mF c
 |k+1=>by
  rw[mX,nF Prod.fst It.w,Pw,mF,mE,iK c k];rfl
def Srt.of_map{f:α->β}{key:β->Nat}{l:List α}:Srt key (l.map f)↔Srt (λ a=>key (f a)) l:=by unfold Srt;rw[pairwise_map]
def tI:∀ (a b:List (Nat×List Nat)),Srt Prod.fst a->Srt Prod.fst b->qm a b=bT Prod.fst (a++b)
 |[],b,_,hb=>by rw[Q6,il hb];simp[qm]
 |x::a,[],ha,_=>by rw[PF,il ha];simp[qm]
 |x::a,y::b,ha,hb=>by
  have ha':=P2.1 ha;have hb':=P2.1 hb;by_cases h:x.1<=y.1
  ·have e:M8 x y=true:=OL h;rw[qm,cons_merge_cons_pos (h:=e)];have ih:=tI a (y::b) ha'.2 hb;rw[qm]at ih;rw[ih];refine jj ?_ ?_
   ·refine P2.2 ⟨λ z hz=>?_,cg _⟩;rcases OM.1 ((bn _).mem.2 hz)with hz|hz
    ·exact ha'.1 z hz
    ·rcases LD.1 hz with rfl|hz
     ·exact h
     ·exact Pb h (hb'.1 z hz)
   ·rw[PE];exact Stb.append (Stb.refl [x]) (bn _)
  ·have e:¬ M8 x y=true:=by simp[M8];omega
   rw[qm,cons_merge_cons_neg (h:=e)];have ih:=tI (x::a) b ha hb'.2;rw[qm]at ih;rw[ih];refine jj ?_ ?_
   ·refine P2.2 ⟨λ z hz=>?_,cg _⟩;rcases OM.1 ((bn _).mem.2 hz)with hz|hz
    ·rcases LD.1 hz with rfl|hz
     ·omega
     ·have:=ha'.1 z hz;omega
    ·exact hb'.1 z hz
   ·have h1:Stb Prod.fst ((x::a)++[y]) ([y]++(x::a)):=Stb.comm λ z hz q hq=>by
     have hq':q=y:=by simpa using hq
     subst hq';rcases LD.1 hz with rfl|hz
     ·omega
     ·have:=ha'.1 z hz;omega
    have h2:=Stb.append h1 (Stb.refl b);have h3:=Stb.append (Stb.refl (key:=Prod.fst) [y]) (bn (key:=Prod.fst) ((x::a)++b));rw[show x::a++y::b=(x::a)++[y]++b by simp];refine h2.trans ?_;rw[show[y]++(x::a)++b=[y]++((x::a)++b) by simp];exact h3
 termination_by a b=>a.length+b.length
def zn(c:List Nat):∀ k,(mX c k).map Ha=vT c k
 |0=>IF c
 |k+1=>by
  have h0:Srt Prod.fst ((y4 c).map Ha):=by
   rw[Srt.of_map];have:=cg (key:=It.w) (aW 0 c);have e:leaves c=(y4 c).map Prod.fst:=(mF c).symm;have h:Srt It.w (leaves c):=this;rw[e,Srt.of_map]at h;exact h
  have h1:Srt Prod.fst ((sf 0 (mX c k)).map Ha):=by
   rw[Srt.of_map];have h:Srt It.w ((sf 0 (mX c k)).map Prod.fst):=by rw[mE,iK];exact nu 0 _ (iH c k)
   rw[Srt.of_map]at h;exact h
  have e:=nF Ha Prod.fst (y4 c++sf 0 (mX c k));rw[mX];refine e.trans ?_;rw[Pw,<-tI _ _ h0 h1,IE,zn c k,IF];rfl
def lx(l:List (List Nat))(j:Nat):Nat:=(l.map λ o=>o.getD j 0).sum
def rp(xs:List It)(j:Nat):Nat:=(xs.map λ x=>if x.sym=(j:Int)then 1 else 0).sum
def BE{n s j:Nat}(hs:s<n)(hj:j<n):(cX n s).getD j 0=if s=j then 1 else 0:=by
 unfold cX;rw[LW,Q1];split
 ·simp[hs, *]
 ·simp[hj]
def mG(n s:Nat):(cX n s).length=n:=by simp[cX]
def Ee{ls:List Nat}{x:It}{j:Nat}(hj:j<ls.length):(bump ls x).getD j 0=ls.getD j 0+if x.sym=(j:Int)then 1 else 0:=by
 unfold bump;split
 ·rename_i h
  rw[LW,Q1];by_cases e:x.sym.toNat=j
  ·rw[Ow e,Ow (by omega),Ow (by omega),e];rfl
  ·rw[OB e,OB (by omega),<-LW];rfl
 ·rw[OB (by omega)];rfl
def iq:∀ (xs:List It) (ls:List Nat) {j:Nat},j<ls.length->(ck ls xs).getD j 0=ls.getD j 0+rp xs j
 |[],ls,j,_=>by simp[ck,rp]
 |x::r,ls,j,hj=>by
  have ih:=iq r (bump ls x) (j:=j) (by rw[jm];exact hj);rw[show ck ls (x::r)=ck (bump ls x) r from J,ih,Ee hj];simp[rp];omega
def qn(c:List Nat){j:Nat}:∀ (k t:Nat) (ls:List Nat),j<ls.length->(down c k t ls).getD j 0=ls.getD j 0+(down c k t (List.replicate ls.length 0)).getD j 0
 |0,t,ls,hj=>by simp[down,hj]
 |k+1,t,ls,hj=>by
  have h1:=qn c k (2*j5 ((lvl c k).take t)) (ck ls ((lvl c k).take t)) (by rw[ct];exact hj);have h2:=qn c k (2*j5 ((lvl c k).take t)) (ck (List.replicate ls.length 0) ((lvl c k).take t)) (by rw[ct];simpa using hj);rw[ct,iq _ _ hj]at h1;rw[ct,iq _ _ (by simpa using hj),PW]at h2;rw[down,down,h1,h2];simp[hj];omega
def Ef{a b:List Nat}{n j:Nat}(ha:a.length=n)(hb:b.length=n):(eF a b).getD j 0=a.getD j 0+b.getD j 0:=by
 unfold eF;simp only[LW,getElem?_zipWith];rcases OI j n with h|h
 ·rw[py (by omega),py (by omega)];rfl
 ·rw[OX (by omega),OX (by omega)];rfl
def jw{a b:List Nat}{n:Nat}(ha:a.length=n)(hb:b.length=n):(eF a b).length=n:=by simp[eF,ha,hb]
def oH:∀ (l:List (Nat×List Nat)),∀ e∈rm l,∃ x∈l,∃ y∈l,e=(x.1+y.1,eF x.2 y.2)
 |[],e,h=>by simp[rm]at h
 |[x],e,h=>by simp[rm]at h
 |x::y::r,e,h=>by
  rcases LD.1 (by rw[rm]at h;exact h)with rfl|h
  ·exact⟨x,by simp,y,by simp,J⟩
  ·obtain⟨a,ha,b,hb,he⟩:=oH r e h;exact⟨a,by simp[ha],b,by simp[hb],he⟩
def qo{a b:List (Nat×List Nat)}{e:Nat×List Nat}:e∈qm a b↔e∈a\/e∈b:=by rw[qm,(merge_perm_append M8).mem_iff,OM]
def jY(c:List Nat):∀ k,∀ e∈vT c k,e.2.length=c.length
 |0,e,h=>by obtain⟨x,_,rfl⟩:=Ps.1 h;exact mG _ _
 |k+1,e,h=>by
  rcases qo.1 h with h|h
  ·obtain⟨x,_,rfl⟩:=Ps.1 h;exact mG _ _
  ·obtain⟨x,hx,y,hy,rfl⟩:=oH _ e h;exact jw (jY c k x hx) (jY c k y hy)
def y5(c:List Nat):∀ k,∀ e∈vT c k,∀ y∈e.2,y<=2^k:=by
 have h0:∀ e∈(leaves c).map (H9 c.length),∀ y∈e.2,y<=1:=λ e h y hy=>by
  obtain⟨x,_,rfl⟩:=Ps.1 h;rcases Qf hy with h|h
  ·have:=PR h;omega
  ·omega
 intro k;induction k with
 |zero=>exact h0
 |succ k ih=>
  intro e h y hy;rcases qo.1 h with h|h
  ·have:=h0 e h y hy;have:=Nat.one_le_two_pow (n:=k+1);omega
  ·obtain⟨a,ha,b,hb,rfl⟩:=oH _ e h;obtain⟨i,hi,rfl⟩:=Sx.1 hy;have hi':=hi;simp only[eF,length_zipWith]at hi';have e1:(eF a.2 b.2)[i]=a.2[i]'(by omega)+b.2[i]'(by omega):=by simp[eF]
   have h1:=ih a ha _ (Sa (l:=a.2) (n:=i) (by omega));have h2:=ih b hb _ (Sa (l:=b.2) (n:=i) (by omega));show(eF a.2 b.2)[i]<=_;rw[e1,PG];omega
def Hb(c:List Nat)(k:Nat):∀ p∈mX c k,p.2.length=c.length:=λ p hp=>by
 have:Ha p∈vT c k:=by rw[<-zn];exact Pj hp
 exact jY c k _ this
def zo{n:Nat}(j:Nat):∀ (m i:Nat) (l:List (It×List Nat)),(∀ p∈l,p.2.length=n)->2*m<=l.length->lx (((sf i l).take m).map Prod.snd) j=lx ((l.take (2*m)).map Prod.snd) j
 |0,i,l,_,_=>by simp[lx]
 |m+1,i,[],_,h=>by simp at h
 |m+1,i,[x],_,h=>by simp at h;omega
 |m+1,i,x::y::r,hl,h=>by
  have ih:=zo j m (i+2) r (λ p hp=>hl p (by simp[hp])) (by simp at h;omega);rw[show 2*(m+1)=2*m+1+1 by omega,sf];simp only[Qz,P5];have hv:=Ef (j:=j) (hl x (by simp)) (hl y (by simp));unfold lx at ih⊢;simp only[P5,sum_cons,hv,ih];omega
def qp(c:List Nat)(k:Nat):(mX c k).filter (λ p=>ew p.1)=y4 c/\(mX c (k+1)).filter (λ p=>mc p.1)=sf 0 (mX c k):=by
 have hl:∀ p∈y4 c,0<=p.1.sym:=λ p hp=>by
  obtain⟨x,hx,rfl⟩:=Ps.1 hp;exact l5 c x hx
 have hp:∀ (k:Nat),∀ p∈sf 0 (mX c k),p.1.sym= -1:=λ k p hp=>by
  have:p.1∈cF 0 (lvl c k):=by rw[<-iK,<-mE];exact Pj hp
  exact jQ 0 _ _ this
 have s0:Srt (λ p:It×List Nat=>p.1.w) (y4 c):=by
  have h:Srt It.w (leaves c):=cg _;rw[<-mF,Srt.of_map]at h;exact h
 have s1:Srt (λ p:It×List Nat=>p.1.w) (sf 0 (mX c k)):=by
  have h:Srt It.w ((sf 0 (mX c k)).map Prod.fst):=by rw[mE,iK];exact nu 0 _ (iH c k)
  rw[Srt.of_map]at h;exact h
 have f0:(y4 c).filter (λ p=>ew p.1)=y4 c:=QA.2 λ p h=>by have:=hl p h;simp[ew,this]
 constructor
 ·cases k with
  |zero=>exact f0
  |succ k=>
   rw[mX,fN,Qm,f0,PD.2,PF,il s0];intro p h;have:=hp k p h;simp[ew,this]
 ·rw[mX,fN,Qm,PD.2,Q6,QA.2,il s1]
  ·intro p h;have:=hp k p h;simp[mc,this]
  ·intro p h;have:=hl p h;simp[mc];omega
def tJ(c:List Nat){j:Nat}(hj:j<c.length):∀ (l:List (It×List Nat)),(∀ p∈l,p∈y4 c)->lx (l.map Prod.snd) j=rp (l.map Prod.fst) j
 |[],_=>by simp[lx,rp]
 |p::r,h=>by
  have ih:=tJ c hj r λ q hq=>h q (by simp[hq]);obtain⟨x,hx,rfl⟩:=Ps.1 (h p (by simp));obtain⟨_,s,hs,hc⟩:=dW c x hx;have hs2:=(sp.1 hc).1;have hu:=BE (n:=c.length) (s:=s) (j:=j) hs2 hj;unfold lx rp at ih⊢;simp only[P5,sum_cons,ih,hs,Qb,hu];congr 1;by_cases e:s=j
  ·rw[Ow e,Ow (by omega)]
  ·rw[OB e,OB (by omega)]
def BF(xs:List It)(j:Nat):rp xs j=rp (xs.filter ew) j:=by
 unfold rp;rw[nG _ ew xs];have:((xs.filter λ x=> !ew x).map λ x=>if x.sym=(j:Int)then 1 else 0).sum=0:=by
  rw[List.sum_eq_zero_iff_forall_eq_nat];intro a ha;obtain⟨x,hx,rfl⟩:=Ps.1 ha;have:=(Q4.1 hx).2;simp[ew]at this;rw[OB (by omega)]
 omega
def vU(c:List Nat){j:Nat}(hj:j<c.length):∀ (k t:Nat),lx (((mX c k).take t).map Prod.snd) j=(down c (k+1) t (List.replicate c.length 0)).getD j 0
 |0,t=>by
  rw[down,down,iq _ _ (by simpa using hj),mX,tJ c hj _ (λ p hp=>OS hp),Qt,mF];simp[hj,lvl]
 |k+1,t=>by
  have hf:((mX c (k+1)).take t).map Prod.fst=(lvl c (k+1)).take t:=by rw[Qt,iK]
  have hsp:=nG (λ p:It×List Nat=>p.2.getD j 0) (λ p=>ew p.1) ((mX c (k+1)).take t);have e1:∀ l:List (It×List Nat),lx (l.map Prod.snd) j=(l.map λ p=>p.2.getD j 0).sum:=λ l=>by simp[lx,R9]
  have hneg:((mX c (k+1)).take t).filter (λ p=> !ew p.1)=((mX c (k+1)).take t).filter (λ p=>mc p.1):=filter_congr λ p _=>by
   simp only[ew,mc];rcases Int.lt_or_le p.1.sym 0 with h|h
   ·simp[h]
   ·have:¬ p.1.sym<0:=by omega
    simp[h]
  have hpk:((mX c (k+1)).take t).filter (λ p=>mc p.1)=(sf 0 (mX c k)).take (j5 ((lvl c (k+1)).take t)):=by
   rw[cB,(qp c k).2,<-hf,j5,countP_map];rfl
  have hlf:lx ((((mX c (k+1)).take t).filter λ p=>ew p.1).map Prod.snd) j=rp ((lvl c (k+1)).take t) j:=by
   rw[tJ c hj,BF ((lvl c (k+1)).take t),<-hf,filter_map];rfl;intro p hp;have h1:=Q4.1 hp;rw[<-(qp c (k+1)).1];exact Q4.2 ⟨OS h1.1,h1.2⟩
  have hm:2*j5 ((lvl c (k+1)).take t)<=(mX c k).length:=by
   have:=rY c k t;have h2:=If List.length (iK c k);rw[OC]at h2;omega
  have ih:=vU c hj k (2*j5 ((lvl c (k+1)).take t));rw[e1,hsp,hneg,hpk,<-e1,<-e1,hlf,zo j _ 0 _ (Hb c k) hm,ih];have hd:=qn c (j:=j) (k+1) (2*j5 ((lvl c (k+1)).take t)) (ck (List.replicate c.length 0) ((lvl c (k+1)).take t)) (by rw[ct];simpa using hj);rw[ct,PW,iq _ _ (by simpa using hj)]at hd;have hd0:down c (k+1+1) t (List.replicate c.length 0)=down c (k+1) (2*j5 ((lvl c (k+1)).take t)) (ck (List.replicate c.length 0) ((lvl c (k+1)).take t)):=rfl;rw[hd0,hd];simp[hj]
def Eg(c:List Nat)(h2:2<=(leaves c).length){j:Nat}(hj:j<c.length):lx (((vT c 14).take (2*(leaves c).length-2)).map Prod.snd) j=(cA c).getD j 0:=by
 have h:=vU c hj 14 (2*(leaves c).length-2);have e:((mX c 14).take (2*(leaves c).length-2)).map Prod.snd=((vT c 14).take (2*(leaves c).length-2)).map Prod.snd:=by
  rw[<-zn,<-Qt,QU];rfl
 rw[<-e,h,cA,OB (by omega)]
def wo(x:RI):Nat×List Nat:=(x.w,x.occ)
def Hc(a b:List RI):(fJ a b).map wo=qm (a.map wo) (b.map wo):=map_merge λ _ _ _ _=>J
def y6{key:α->Nat}{l:List α}{x:α}{j:Nat}(hlo:∀ y∈(bT key l).take j,key y<=key x)(hhi:∀ y∈(bT key l).drop j,key x<key y):
  bT key (l++[x])=(bT key l).take j++[x]++(bT key l).drop j:=by
 have hs:=cg (key:=key) l;rw[<-P0 j (bT key l)]at hs;obtain⟨h1,h2,h3⟩:=Srt.append.1 hs;refine(jj ?_ ?_).symm
 ·refine Srt.append.2 ⟨Srt.append.2 ⟨h1,Srt.one x,λ y hy z hz=>?_⟩,h2,λ y hy z hz=>?_⟩
  ·have:z=x:=by simpa using hz
   subst this;exact hlo y hy
  ·rcases OM.1 hy with hy|hy
   ·exact h3 y hy z hz
   ·have:y=x:=by simpa using hy
    subst this;have:=hhi z hz;omega
 ·have e1:Stb key (l++[x]) (bT key l++[x]):=Stb.append (bn l) (Stb.refl _);have e2:bT key l++[x]=(bT key l).take j++((bT key l).drop j++[x]):=by
   rw[<-No,P0]
  rw[e2]at e1;refine e1.trans ?_;rw[No];refine Stb.append (Stb.refl _) (Stb.comm λ y hy z hz=>?_);have:z=x:=by simpa using hz
  subst this;have:=hhi y hy;omega
def sg{c:List Nat}{k x j:Nat}{lv:List RI}(hx:c[k]? =some x)(h0:0<x)(hlv:lv.map wo=(bT It.w (aW 0 (c.take k))).map (H9 c.length))(hj:j<=lv.length)
  (hhi:∀ z∈lv.drop j,x<z.w) (hlo:0<j->∀ y,lv[j-1]? =some y->y.w<=x) (b:Bool) (s:SV):
  (lv.take j++[(⟨x,b,s,cX c.length k⟩:RI)]++lv.drop j).map wo=(bT It.w (aW 0 (c.take (k+1)))).map (H9 c.length):=by
 have hkl:=(sp.1 hx).1;have hget:∀ (i:Nat) (z:It),(bT It.w (aW 0 (c.take k)))[i]? =some z->∃ y,lv[i]? =some y/\y.w=z.w:=λ i z hz=>by
  have h:=If (λ l=>l[i]?) hlv;simp only[OT,hz,PY]at h;cases hy:lv[i]? with
  |none=>rw[hy]at h;simp at h
  |some y=>rw[hy]at h;exact⟨y,J,If Prod.fst (OG h)⟩
 have hlen:(bT It.w (aW 0 (c.take k))).length=lv.length:=by have:=If List.length hlv;simpa using this.symm
 have e:=y6 (key:=It.w) (l:=aW 0 (c.take k)) (x:=⟨x,(k:Int),0,0⟩) (j:=j) (λ y hy=>by
   obtain⟨i,hi,hiy⟩:=Sx.1 hy;rw[M2]at hi;have hyi:(bT It.w (aW 0 (c.take k)))[i]? =some y:=by rw[<-hiy,getElem_take];exact py _
   obtain⟨z,hz⟩:∃ z,(bT It.w (aW 0 (c.take k)))[j-1]? =some z:=⟨_,py (by omega)⟩;obtain⟨q,hq,hqw⟩:=hget _ _ hz;have h1:=hlo (by omega) q hq;show y.w<=x;by_cases e:i=j-1
   ·subst e;rw[hyi]at hz;cases hz;omega
   ·have:=(cg (key:=It.w) (aW 0 (c.take k))).get (by omega:i<j-1) hyi hz;omega) (λ y hy=>by
   obtain⟨i,hi,hiy⟩:=Sx.1 hy;rw[OJ]at hi;have hyi:(bT It.w (aW 0 (c.take k)))[j+i]? =some y:=by rw[<-hiy,getElem_drop];exact py _
   obtain⟨q,hq,hqw⟩:=hget _ _ hyi;have:=hhi q (OD (by rw[Q0];exact hq));show x<y.w;omega)
 rw[aB hx,jl,Ow h0];have hk:(c.take k).length=k:=by simp;omega
 rw[hk,Pa,e];simp only[Pw,P5,QS,Qt,map_drop,hlv];rfl
def BG{c:List Nat}{k x:Nat}(hx:c[k]? =some x)(h0:x=0):aW 0 (c.take (k+1))=aW 0 (c.take k):=by
 rw[aB hx,jl,OB (by omega),PF]
def fy(c:List Nat):List Nat:=c.map λ x=>if 0<x then 1 else 0
def si(l:List Nat)(x:Nat):fy (l++[x])=fy l++[if 0<x then 1 else 0]:=by simp[fy]
def eY(c:List Nat)(k:Nat):List Nat:=fy (c.take k)++List.replicate (c.length-k) 0
def cR{c:List Nat}{k:Nat}(h:k<=c.length):(eY c k).length=c.length:=by simp[eY,fy];omega
def BH{c:List Nat}{k x:Nat}(hx:c[k]? =some x)(h0:x=0):eY c (k+1)=eY c k:=by
 have hk:=(sp.1 hx).1;rw[eY,eY,aB hx,si,OB (by omega),No,show c.length-k=(c.length-(k+1))+1 by omega,R1];rfl
def vV{c:List Nat}{k x:Nat}(hx:c[k]? =some x)(h0:0<x):(eY c k).set k 1=eY c (k+1):=by
 have hk:=(sp.1 hx).1;have hl:(fy (c.take k)).length=k:=by simp[fy];omega
 rw[eY,eY,aB hx,si,Ow h0,No,show c.length-k=(c.length-(k+1))+1 by omega,R1];have e:=DM (P:=fy (c.take k)) (Q:=List.replicate (c.length-(k+1)) 0) (x:=0) (y:=1) (i:=k) hl.symm;rw[e];rfl
def Eh(c:List Nat):eY c c.length=fy c:=by simp[eY]
def qq:∀ (l:List Nat) (i j x:Nat),l[j]? =some x->0<x->∃ y∈aW i l,y.sym=((i+j:Nat):Int)
 |[],i,j,x,h,_=>by simp at h
 |n::r,i,0,x,h,h0=>by
  have:n=x:=by simpa using h
  subst this;exact⟨⟨n,i,0,0⟩,by rw[aW,Ow h0];simp,by simp⟩
 |n::r,i,j+1,x,h,h0=>by
  obtain⟨y,hy,hs⟩:=qq r (i+1) j x (by simpa using h) h0;refine⟨y,?_,by rw[hs];omega⟩;rw[aW];split
  ·exact Pe _ hy
  ·exact hy
def y7(c:List Nat):∀ x∈leaves c,0<x.w:=jS c 0
def vW:∀ (xs:List It) (ls:List Nat) (j:Nat),j<ls.length->(xs.foldl (λ ls x=>ls.set x.sym.toNat 1) ls).getD j 0=if ∃ x∈xs,x.sym.toNat=j then 1 else ls.getD j 0
 |[],ls,j,_=>by simp
 |x::r,ls,j,hj=>by
  have ih:=vW r (ls.set x.sym.toNat 1) j (by simpa using hj);rw[Q5,ih];by_cases h:∃ y∈r,y.sym.toNat=j
  ·rw[Ow h,Ow (by obtain⟨y,hy,e⟩:=h;exact⟨y,by simp[hy],e⟩)]
  ·rw[OB h];by_cases e:x.sym.toNat=j
   ·rw[Ow ⟨x,by simp,e⟩,LW,Q1,Ow e,Ow (by omega)];rfl
   ·rw[OB (by rintro⟨y,hy,e2⟩;rcases LD.1 hy with rfl|hy;(exact e e2);(exact h ⟨y,hy,e2⟩)),LW,Q1,OB e,<-LW]
def Ei{c:List Nat}(h:(leaves c).length<2):cA c=fy c:=by
 rw[cA,Ow h];apply QN;intro j;have hl:∀ (xs:List It) (ls:List Nat),(xs.foldl (λ ls x=>ls.set x.sym.toNat 1) ls).length=ls.length:=by
  intro xs;induction xs with
  |nil=>intro ls;rfl
  |cons x r ih=>intro ls;rw[Q5,ih];simp
 rcases OI j c.length with hj|hj
 ·have h1:=vW (leaves c) (List.replicate c.length 0) j (by simpa using hj);have e1:∀ (l:List Nat),j<l.length->l[j]? =some (l.getD j 0):=λ l hl=>by rw[LW,py hl];rfl
  rw[e1 _ (by rw[hl];simpa using hj),h1,fy,OT,py hj];simp only[PY];congr 1;by_cases hc:0<c[j]
  ·obtain⟨y,hy,hs⟩:=qq c 0 j c[j] (py hj) hc;rw[Ow hc,Ow ⟨y,(bn _).mem.1 hy,by omega⟩]
  ·rw[OB hc,OB]
   ·simp[hj]
   ·rintro⟨y,hy,hs⟩;obtain⟨_,s,hs2,hcs⟩:=dW c y hy;have hp:=y7 c y hy;have:s=j:=by omega
    subst this;rw[py hj]at hcs;have:=OG hcs;omega
 ·rw[OX (by rw[hl];simpa using hj),OX (by simp[fy];exact hj)]
def M9(W:Nat):∀ l:List (Nat×List Nat),(∀ e∈l,e.1<=W)->∀ e∈rm l,e.1<=2*W:=λ l h e he=>by
 obtain⟨x,hx,y,hy,rfl⟩:=oH l e he;have:=h x hx;have:=h y hy;show x.1+y.1<=_;omega
def Ej(c:List Nat)(W:Nat)(h:∀ x∈c,x<=W):∀ k,∀ e∈vT c k,e.1<=W*2^k
 |0,e,he=>by
  obtain⟨x,hx,rfl⟩:=Ps.1 he;have:=h _ (dW c x hx).1;show x.w<=_;omega
 |k+1,e,he=>by
  rcases qo.1 he with he|he
  ·obtain⟨x,hx,rfl⟩:=Ps.1 he;have h1:=h _ (dW c x hx).1;have h2:W<=W*2^(k+1):=Rl _ (QO _);show x.w<=_;omega
  ·have:=M9 (W*2^k) (vT c k) (Ej c W h k) e he;rw[PG,<-Qj];omega
def qs(c:List Nat)(k:Nat):(vT c k).length=(lvl c k).length:=by rw[<-zn,OC,<-iK,OC]
def qt:∀ (q:Nat) (b:List (Nat×List Nat)) (x y:Nat×List Nat),b[2*q]? =some x->b[2*q+1]? =some y->rm (b.take (2*(q+1)))=rm (b.take (2*q))++[(x.1+y.1,eF x.2 y.2)]
 |0,b,x,y,hx,hy=>by
  match b,hx,hy with
  |a::a2::r,hx,hy=>simp at hx hy;subst hx hy;simp[rm]
 |q+1,b,x,y,hx,hy=>by
  match b,hx,hy with
  |[],hx,_=>simp at hx
  |[a],hx,_=>simp at hx
  |a::a2::r,hx,hy=>
   have ih:=qt q r x y (by rw[show 2*(q+1)=2*q+1+1 by omega]at hx;simpa using hx) (by rw[show 2*(q+1)+1=2*q+1+1+1 by omega]at hy;simpa using hy);rw[show 2*(q+1+1)=2*(q+1)+1+1 by omega,show 2*(q+1)=2*q+1+1 by omega];simp only[Qz,rm];rw[show 2*q+1+1=2*(q+1) by omega,ih];rfl
def zp:∀ (q:Nat) (b:List (Nat×List Nat)),b.length<=2*q+1->rm (b.take (2*q))=rm b
 |0,b,h=>by
  match b with
  |[]=>rfl
  |[x]=>rfl
  |_::_::_=>simp at h
 |q+1,b,h=>by
  match b with
  |[]=>rfl
  |[x]=>rw[OA (by simp;omega)]
  |a::a2::r=>
   have ih:=zp q r (by simp at h;omega);rw[show 2*(q+1)=2*q+1+1 by omega];simp only[Qz,rm,ih]
def sj(a b:List Nat)(s:Nat):List Nat:=(eF a b).take s++List.replicate (a.length-s) 0
def vX(a b:List Nat):sj a b 0=List.replicate a.length 0:=by simp[sj]
def qu{a b:List Nat}{n s:Nat}(ha:a.length=n)(hb:b.length=n)(hs:s<=n):(sj a b s).length=n:=by simp[sj,eF,ha,hb];omega
def zq{a b:List Nat}{n:Nat}(ha:a.length=n)(hb:b.length=n):sj a b n=eF a b:=by
 rw[sj,OA (by rw[jw ha hb];exact KP _),ha,PX];simp
def zt{a b:List Nat}{n s x y:Nat}(ha:a.length=n)(hb:b.length=n)(hx:a[s]? =some x)(hy:b[s]? =some y):(sj a b s).set s (x+y)=sj a b (s+1):=by
 have hs:=(sp.1 hx).1;have hv:(eF a b)[s]? =some (x+y):=by simp[eF,getElem?_zipWith,hx,hy]
 have hl:((eF a b).take s).length=s:=by rw[M2,jw ha hb];omega
 rw[sj,sj,aB hv,show a.length-s=(a.length-(s+1))+1 by omega,R1,DM hl.symm];simp
def Hd{c:List Nat}{p2:List RI}(hp:p2.map wo=vT c 14)(h2:2<=(leaves c).length){j:Nat}(hj:j<c.length):lx (((p2.take (2*(leaves c).length-2)).drop 0).map RI.occ) j=(cA c).getD j 0:=by
 rw[<-Eg c h2 hj,<-hp,PK,<-Qt,QU];rfl
def Ek(l:List (List Nat))(x:List Nat)(j:Nat):lx (l++[x]) j=lx l j+x.getD j 0:=by simp[lx]
def El{c cur:List Nat}{s:Nat}(hs:s=c.length)(hcl:cur.length=c.length)(hcur:∀ j,j<s->cur[j]? =some ((cA c).getD j 0)):cur=cA c:=by
 apply QN;intro j;have hll:=iG c;rcases OI j c.length with hj|hj
 ·rw[hcur j (by omega),LW,py (by omega)];rfl
 ·rw[OX (by omega),OX (by omega)]
