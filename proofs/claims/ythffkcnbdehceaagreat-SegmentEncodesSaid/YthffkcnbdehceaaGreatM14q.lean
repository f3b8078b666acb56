/-
 M14q:the package merge of the reference gives the lengths of the program. No program in sight.
-/
import Derived.Test.YthffkcnbdehceaaGreatM14p
open Go.Proofs.YthffkcnbdehceaaGreat
open List
set_option linter.unusedVariables false
set_option linter.unusedSimpArgs false
set_option linter.unusedSectionVars false
namespace Go.Kw
variable {α β:Type}
theorem yF (f:α->β) (key:β->Nat) (x:α):∀ l:List α,(sW (λ a=>key (f a)) x l).map f=sW key (f x) (l.map f)
 |[]=>rfl
 |y::r=>by
  rw [sW,Qm,sW]
  split
  ·rfl
  ·rw [Qm,yF f key x r]
theorem oP (f:α->β) (key:β->Nat):∀ l:List α,(bz (λ a=>key (f a)) l).map f=bz key (l.map f)
 |[]=>rfl
 |x::r=>by rw [bz,yF,oP f key r];rfl
theorem oQ (f:α->Nat) (p:α->Bool):∀ l:List α,(l.map f).sum=((l.filter p).map f).sum+((l.filter λ x=> !p x).map f).sum
 |[]=>rfl
 |x::r=>by
  have ih:=oQ f p r
  cases h:p x<;>simp [Tg,h,ih]<;>omega
def cN (n s:Nat):List Nat:=(List.replicate n 0).set s 1
def JD (n:Nat) (x:It):Nat×List Nat:=(x.w,cN n x.sym.toNat)
def eY (a b:List Nat):List Nat:=List.zipWith (· + ·) a b
def ta:List (Nat×List Nat)->List (Nat×List Nat)
 |x::y::r=>(x.1+y.1,eY x.2 y.2)::ta r
 |_=>[]
def NA (x y:Nat×List Nat):Bool:=decide (x.1<=y.1)
def rZ (a b:List (Nat×List Nat)):List (Nat×List Nat):=a.merge b NA
def yG (c:List Nat):Nat->List (Nat×List Nat)
 |0=>(leaves c).map (JD c.length)
 |k+1=>rZ ((leaves c).map (JD c.length)) (ta (yG c k))
def uu:Nat->List (It×List Nat)->List (It×List Nat)
 |i,x::y::r=>(⟨x.1.w+y.1.w,-1,i,i+1⟩,eY x.2 y.2)::uu (i+2) r
 |_,_=>[]
def AE (c:List Nat):List (It×List Nat):=(leaves c).map λ x=>(x,cN c.length x.sym.toNat)
def o7 (c:List Nat):Nat->List (It×List Nat)
 |0=>AE c
 |k+1=>bz (λ p=>p.1.w) (AE c++uu 0 (o7 c k))
def JE (p:It×List Nat):Nat×List Nat:=(p.1.w,p.2)
theorem nT:∀ (i:Nat) (l:List (It×List Nat)),(uu i l).map Prod.fst=bm i (l.map Prod.fst)
 |i,[]=>by simp [uu,bm]
 |i,[x]=>by simp [uu,bm]
 |i,x::y::r=>by simp only [uu,Qm,bm,nT (i+2) r]
theorem KI:∀ (i:Nat) (l:List (It×List Nat)),(uu i l).map JE=ta (l.map JE)
 |i,[]=>by simp [uu,ta]
 |i,[x]=>by simp [uu,ta]
 |i,x::y::r=>by simp only [uu,Qm,ta,KI (i+2) r];rfl
theorem nU (c:List Nat):(AE c).map Prod.fst=leaves c:=by simp [AE,Sh]
theorem KJ (c:List Nat):(AE c).map JE=(leaves c).map (JD c.length):=by simp [AE,Sh,JE,JD]
theorem jz (c:List Nat):∀ k,(o7 c k).map Prod.fst=lvl c k
 |0=>nU c
 |k+1=>by
  rw [o7,oP Prod.fst It.w,Ql,nU,nT,jz c k];rfl
theorem Srt.of_map {f:α->β} {key:β->Nat} {l:List α}:Srt key (l.map f)↔Srt (λ a=>key (f a)) l:=by unfold Srt;rw [Tp]
theorem wa:∀ (a b:List (Nat×List Nat)),Srt Prod.fst a->Srt Prod.fst b->rZ a b=bz Prod.fst (a++b)
 |[],b,_,hb=>by rw [Rc,iZ hb];simp [rZ]
 |x::a,[],ha,_=>by rw [QO,iZ ha];simp [rZ]
 |x::a,y::b,ha,hb=>by
  have ha':=Qd.1 ha
  have hb':=Qd.1 hb
  by_cases h:x.1<=y.1
  ·have e:NA x y=true:=PM h
   rw [rZ,cons_merge_cons_pos (h:=e)]
   have ih:=wa a (y::b) ha'.2 hb
   rw [rZ] at ih
   rw [ih]
   refine iU ?_ ?_
   ·refine Qd.2 ⟨λ z hz=> ?_,cd _⟩
    rcases PT.1 ((b8 _).mem.2 hz) with hz|hz
    ·exact ha'.1 z hz
    ·rcases PR.1 hz with rfl|hz
     ·exact h
     ·exact Q7 h (hb'.1 z hz)
   ·rw [Rt]
    exact Stb.append (Stb.refl [x]) (b8 _)
  ·have e:¬ NA x y=true:=by simp [NA];omega
   rw [rZ,cons_merge_cons_neg (h:=e)]
   have ih:=wa (x::a) b ha hb'.2
   rw [rZ] at ih
   rw [ih]
   refine iU ?_ ?_
   ·refine Qd.2 ⟨λ z hz=> ?_,cd _⟩
    rcases PT.1 ((b8 _).mem.2 hz) with hz|hz
    ·rcases PR.1 hz with rfl|hz
     ·omega
     ·have:=ha'.1 z hz;omega
    ·exact hb'.1 z hz
   ·have h1:Stb Prod.fst ((x::a)++[y]) ([y]++(x::a)):=Stb.comm λ z hz q hq=>by
     have hq':q=y:=by simpa using hq
     subst hq'
     rcases PR.1 hz with rfl|hz
     ·omega
     ·have:=ha'.1 z hz;omega
    have h2:=Stb.append h1 (Stb.refl b)
    have h3:=Stb.append (Stb.refl (key:=Prod.fst) [y]) (b8 (key:=Prod.fst) ((x::a)++b))
    rw [show x::a++y::b=(x::a)++[y]++b by simp]
    refine h2.trans ?_
    rw [show [y]++(x::a)++b=[y]++((x::a)++b) by simp]
    exact h3
 termination_by a b=>a.length+b.length
theorem BV (c:List Nat):∀ k,(o7 c k).map JE=yG c k
 |0=>KJ c
 |k+1=>by
  have h0:Srt Prod.fst ((AE c).map JE):=by
   rw [Srt.of_map]
   have:=cd (key:=It.w) (aN 0 c)
   have e:leaves c=(AE c).map Prod.fst:=(nU c).symm
   have h:Srt It.w (leaves c):=this
   rw [e,Srt.of_map] at h;exact h
  have h1:Srt Prod.fst ((uu 0 (o7 c k)).map JE):=by
   rw [Srt.of_map]
   have h:Srt It.w ((uu 0 (o7 c k)).map Prod.fst):=by rw [nT,jz];exact oL 0 _ (jq c k)
   rw [Srt.of_map] at h;exact h
  have e:=oP JE Prod.fst (AE c++uu 0 (o7 c k))
  rw [o7]
  refine e.trans ?_
  rw [Ql,<-wa _ _ h0 h1,KI,BV c k,KJ];rfl
def mI (l:List (List Nat)) (j:Nat):Nat:=(l.map λ o=>o.getD j 0).sum
def tc (xs:List It) (j:Nat):Nat:=(xs.map λ x=>if x.sym=(j:Int) then 1 else 0).sum
theorem DK {n s j:Nat} (hs:s<n) (hj:j<n):(cN n s).getD j 0=if s=j then 1 else 0:=by
 unfold cN
 rw [KW,R7]
 split
 ·simp [hs, *]
 ·simp [hj]
theorem nW (n s:Nat):(cN n s).length=n:=by simp [cN]
theorem GJ {ls:List Nat} {x:It} {j:Nat} (hj:j<ls.length):(bump ls x).getD j 0=ls.getD j 0+if x.sym=(j:Int) then 1 else 0:=by
 unfold bump
 split
 ·rename_i h
  rw [KW,R7]
  by_cases e:x.sym.toNat=j
  ·rw [PI e,PI (by omega),PI (by omega),e];rfl
  ·rw [M2 e,M2 (by omega),<-KW];rfl
 ·rw [M2 (by omega)];rfl
theorem j3:∀ (xs:List It) (ls:List Nat) {j:Nat},j<ls.length->(bS ls xs).getD j 0=ls.getD j 0+tc xs j
 |[],ls,j,_=>by simp [bS,tc]
 |x::r,ls,j,hj=>by
  have ih:=j3 r (bump ls x) (j:=j) (by rw [kq];exact hj)
  rw [show bS ls (x::r)=bS (bump ls x) r from rfl,ih,GJ hj]
  simp [tc];omega
theorem sd (c:List Nat) {j:Nat}:∀ (k t:Nat) (ls:List Nat),j<ls.length->(down c k t ls).getD j 0=ls.getD j 0+(down c k t (List.replicate ls.length 0)).getD j 0
 |0,t,ls,hj=>by simp [down,hj]
 |k+1,t,ls,hj=>by
  have h1:=sd c k (2*iY ((lvl c k).take t)) (bS ls ((lvl c k).take t)) (by rw [bZ];exact hj)
  have h2:=sd c k (2*iY ((lvl c k).take t)) (bS (List.replicate ls.length 0) ((lvl c k).take t)) (by rw [bZ];simpa using hj)
  rw [bZ,j3 _ _ hj] at h1
  rw [bZ,j3 _ _ (by simpa using hj),R6] at h2
  rw [down,down,h1,h2]
  simp [hj];omega
theorem GK {a b:List Nat} {n j:Nat} (ha:a.length=n) (hb:b.length=n):(eY a b).getD j 0=a.getD j 0+b.getD j 0:=by
 unfold eY
 simp only [KW,getElem?_zipWith]
 rcases Q1 j n with h|h
 ·rw [py (by omega),py (by omega)];rfl
 ·rw [Q3 (by omega),Q3 (by omega)];rfl
theorem kE {a b:List Nat} {n:Nat} (ha:a.length=n) (hb:b.length=n):(eY a b).length=n:=by simp [eY,ha,hb]
theorem qn:∀ (l:List (Nat×List Nat)),∀ e∈ta l,∃ x∈l,∃ y∈l,e=(x.1+y.1,eY x.2 y.2)
 |[],e,h=>by simp [ta] at h
 |[x],e,h=>by simp [ta] at h
 |x::y::r,e,h=>by
  rcases PR.1 (by rw [ta] at h;exact h) with rfl|h
  ·exact ⟨x,by simp,y,by simp,rfl⟩
  ·obtain ⟨a,ha,b,hb,he⟩:=qn r e h
   exact ⟨a,by simp [ha],b,by simp [hb],he⟩
theorem sf {a b:List (Nat×List Nat)} {e:Nat×List Nat}:e∈rZ a b↔e∈a\/e∈b:=by rw [rZ,(merge_perm_append NA).mem_iff,PT]
theorem lh (c:List Nat):∀ k,∀ e∈yG c k,e.2.length=c.length
 |0,e,h=>by obtain ⟨x,_,rfl⟩:=Qn.1 h;exact nW _ _
 |k+1,e,h=>by
  rcases sf.1 h with h|h
  ·obtain ⟨x,_,rfl⟩:=Qn.1 h;exact nW _ _
  ·obtain ⟨x,hx,y,hy,rfl⟩:=qn _ e h
   exact kE (lh c k x hx) (lh c k y hy)
theorem AF (c:List Nat):∀ k,∀ e∈yG c k,∀ y∈e.2,y<=2^k:=by
 have h0:∀ e∈(leaves c).map (JD c.length),∀ y∈e.2,y<=1:=λ e h y hy=>by
  obtain ⟨x,_,rfl⟩:=Qn.1 h
  rcases R2 hy with h|h
  ·have:=Rj h;omega
  ·omega
 intro k
 induction k with
 |zero=>exact h0
 |succ k ih=>
  intro e h y hy
  rcases sf.1 h with h|h
  ·have:=h0 e h y hy;have:=Nat.one_le_two_pow (n:=k+1);omega
  ·obtain ⟨a,ha,b,hb,rfl⟩:=qn _ e h
   obtain ⟨i,hi,rfl⟩:=U0.1 hy
   have hi':=hi
   simp only [eY,length_zipWith] at hi'
   have e1:(eY a.2 b.2)[i]=a.2[i]'(by omega)+b.2[i]'(by omega):=by simp [eY]
   have h1:=ih a ha _ (SE (l:=a.2) (n:=i) (by omega))
   have h2:=ih b hb _ (SE (l:=b.2) (n:=i) (by omega))
   show (eY a.2 b.2)[i]<=_
   rw [e1,QY];omega
theorem JF (c:List Nat) (k:Nat):∀ p∈o7 c k,p.2.length=c.length:=λ p hp=>by
 have:JE p∈yG c k:=by rw [<-BV];exact Qv hp
 exact lh c k _ this
theorem BW {n:Nat} (j:Nat):∀ (m i:Nat) (l:List (It×List Nat)),(∀ p∈l,p.2.length=n)->2*m<=l.length->mI (((uu i l).take m).map Prod.snd) j=mI ((l.take (2*m)).map Prod.snd) j
 |0,i,l,_,_=>by simp [mI]
 |m+1,i,[],_,h=>by simp at h
 |m+1,i,[x],_,h=>by simp at h;omega
 |m+1,i,x::y::r,hl,h=>by
  have ih:=BW j m (i+2) r (λ p hp=>hl p (by simp [hp])) (by simp at h;omega)
  rw [show 2*(m+1)=2*m+1+1 by omega,uu]
  simp only [QW,Qm]
  have hv:=GK (j:=j) (hl x (by simp)) (hl y (by simp))
  unfold mI at ih⊢
  simp only [Qm,TO,hv,ih]
  omega
theorem sg (c:List Nat) (k:Nat):(o7 c k).filter (λ p=>eP p.1)=AE c/\(o7 c (k+1)).filter (λ p=>nL p.1)=uu 0 (o7 c k):=by
 have hl:∀ p∈AE c,0<=p.1.sym:=λ p hp=>by
  obtain ⟨x,hx,rfl⟩:=Qn.1 hp;exact mu c x hx
 have hp:∀ (k:Nat),∀ p∈uu 0 (o7 c k),p.1.sym= -1:=λ k p hp=>by
  have:p.1∈bm 0 (lvl c k):=by rw [<-jz,<-nT];exact Qv hp
  exact iW 0 _ _ this
 have s0:Srt (λ p:It×List Nat=>p.1.w) (AE c):=by
  have h:Srt It.w (leaves c):=cd _
  rw [<-nU,Srt.of_map] at h;exact h
 have s1:Srt (λ p:It×List Nat=>p.1.w) (uu 0 (o7 c k)):=by
  have h:Srt It.w ((uu 0 (o7 c k)).map Prod.fst):=by rw [nT,jz];exact oL 0 _ (jq c k)
  rw [Srt.of_map] at h;exact h
 have f0:(AE c).filter (λ p=>eP p.1)=AE c:=RH.2 λ p h=>by have:=hl p h;simp [eP,this]
 constructor
 ·cases k with
  |zero=>exact f0
  |succ k=>
   rw [o7,gd,RD,f0,QN.2,QO,iZ s0]
   intro p h;have:=hp k p h;simp [eP,this]
 ·rw [o7,gd,RD,QN.2,Rc,RH.2,iZ s1]
  ·intro p h;have:=hp k p h;simp [nL,this]
  ·intro p h;have:=hl p h;simp [nL];omega
theorem wb (c:List Nat) {j:Nat} (hj:j<c.length):∀ (l:List (It×List Nat)),(∀ p∈l,p∈AE c)->mI (l.map Prod.snd) j=tc (l.map Prod.fst) j
 |[],_=>by simp [mI,tc]
 |p::r,h=>by
  have ih:=wb c hj r λ q hq=>h q (by simp [hq])
  obtain ⟨x,hx,rfl⟩:=Qn.1 (h p (by simp))
  obtain ⟨_,s,hs,hc⟩:=cu c x hx
  have hs2:=(AT.1 hc).1
  have hu:=DK (n:=c.length) (s:=s) (j:=j) hs2 hj
  unfold mI tc at ih⊢
  simp only [Qm,TO,ih,hs,Rq,hu]
  congr 1
  by_cases e:s=j
  ·rw [PI e,PI (by omega)]
  ·rw [M2 e,M2 (by omega)]
theorem DL (xs:List It) (j:Nat):tc xs j=tc (xs.filter eP) j:=by
 unfold tc
 rw [oQ _ eP xs]
 have:((xs.filter λ x=> !eP x).map λ x=>if x.sym=(j:Int) then 1 else 0).sum=0:=by
  rw [List.sum_eq_zero_iff_forall_eq_nat]
  intro a ha
  obtain ⟨x,hx,rfl⟩:=Qn.1 ha
  have:=(Ri.1 hx).2
  simp [eP] at this
  rw [M2 (by omega)]
 omega
theorem yH (c:List Nat) {j:Nat} (hj:j<c.length):∀ (k t:Nat),mI (((o7 c k).take t).map Prod.snd) j=(down c (k+1) t (List.replicate c.length 0)).getD j 0
 |0,t=>by
  rw [down,down,j3 _ _ (by simpa using hj),o7,wb c hj _ (λ p hp=>Q8 hp),Sr,nU]
  simp [hj,lvl]
 |k+1,t=>by
  have hf:((o7 c (k+1)).take t).map Prod.fst=(lvl c (k+1)).take t:=by rw [Sr,jz]
  have hsp:=oQ (λ p:It×List Nat=>p.2.getD j 0) (λ p=>eP p.1) ((o7 c (k+1)).take t)
  have e1:∀ l:List (It×List Nat),mI (l.map Prod.snd) j=(l.map λ p=>p.2.getD j 0).sum:=λ l=>by simp [mI,Sh]
  have hneg:((o7 c (k+1)).take t).filter (λ p=> !eP p.1)=((o7 c (k+1)).take t).filter (λ p=>nL p.1):=filter_congr λ p _=>by
   simp only [eP,nL]
   rcases Int.lt_or_le p.1.sym 0 with h|h
   ·simp [h]
   ·have:¬ p.1.sym<0:=by omega
    simp [h]
  have hpk:((o7 c (k+1)).take t).filter (λ p=>nL p.1)=(uu 0 (o7 c k)).take (iY ((lvl c (k+1)).take t)):=by
   rw [cJ,(sg c k).2,<-hf,iY,countP_map];rfl
  have hlf:mI ((((o7 c (k+1)).take t).filter λ p=>eP p.1).map Prod.snd) j=tc ((lvl c (k+1)).take t) j:=by
   rw [wb c hj,DL ((lvl c (k+1)).take t),<-hf,filter_map];rfl
   intro p hp
   have h1:=Ri.1 hp
   rw [<-(sg c (k+1)).1]
   exact Ri.2 ⟨Q8 h1.1,h1.2⟩
  have hm:2*iY ((lvl c (k+1)).take t)<=(o7 c k).length:=by
   have:=oK c k t
   have h2:=If List.length (jz c k)
   rw [No] at h2;omega
  have ih:=yH c hj k (2*iY ((lvl c (k+1)).take t))
  rw [e1,hsp,hneg,hpk,<-e1,<-e1,hlf,BW j _ 0 _ (JF c k) hm,ih]
  have hd:=sd c (j:=j) (k+1) (2*iY ((lvl c (k+1)).take t)) (bS (List.replicate c.length 0) ((lvl c (k+1)).take t)) (by rw [bZ];simpa using hj)
  rw [bZ,R6,j3 _ _ (by simpa using hj)] at hd
  have hd0:down c (k+1+1) t (List.replicate c.length 0)=down c (k+1) (2*iY ((lvl c (k+1)).take t)) (bS (List.replicate c.length 0) ((lvl c (k+1)).take t)):=rfl
  rw [hd0,hd];simp [hj]
theorem GL (c:List Nat) (h2:2<=(leaves c).length) {j:Nat} (hj:j<c.length):mI (((yG c 14).take (2*(leaves c).length-2)).map Prod.snd) j=(ca c).getD j 0:=by
 have h:=yH c hj 14 (2*(leaves c).length-2)
 have e:((o7 c 14).take (2*(leaves c).length-2)).map Prod.snd=((yG c 14).take (2*(leaves c).length-2)).map Prod.snd:=by
  rw [<-BV,<-Sr,Sf];rfl
 rw [<-e,h,ca,M2 (by omega)]
def wo (x:RI):Nat×List Nat:=(x.w,x.occ)
theorem JG (a b:List RI):(gl a b).map wo=rZ (a.map wo) (b.map wo):=map_merge λ _ _ _ _=>rfl
theorem AG {key:α->Nat} {l:List α} {x:α} {j:Nat} (hlo:∀ y∈(bz key l).take j,key y<=key x) (hhi:∀ y∈(bz key l).drop j,key x<key y):
  bz key (l++[x])=(bz key l).take j++[x]++(bz key l).drop j:=by
 have hs:=cd (key:=key) l
 rw [<-Qc j (bz key l)] at hs
 obtain ⟨h1,h2,h3⟩:=Srt.append.1 hs
 refine (iU ?_ ?_).symm
 ·refine Srt.append.2 ⟨Srt.append.2 ⟨h1,Srt.one x,λ y hy z hz=> ?_⟩,h2,λ y hy z hz=> ?_⟩
  ·have:z=x:=by simpa using hz
   subst this;exact hlo y hy
  ·rcases PT.1 hy with hy|hy
   ·exact h3 y hy z hz
   ·have:y=x:=by simpa using hy
    subst this;have:=hhi z hz;omega
 ·have e1:Stb key (l++[x]) (bz key l++[x]):=Stb.append (b8 l) (Stb.refl _)
  have e2:bz key l++[x]=(bz key l).take j++((bz key l).drop j++[x]):=by
   rw [<-LW,Qc]
  rw [e2] at e1
  refine e1.trans ?_
  rw [LW]
  refine Stb.append (Stb.refl _) (Stb.comm λ y hy z hz=> ?_)
  have:z=x:=by simpa using hz
  subst this;have:=hhi y hy;omega
theorem lj {c:List Nat} {k x j:Nat} {lv:List RI} (hx:c[k]? =some x) (h0:0<x) (hlv:lv.map wo=(bz It.w (aN 0 (c.take k))).map (JD c.length)) (hj:j<=lv.length)
  (hhi:∀ z∈lv.drop j,x<z.w) (hlo:0<j->∀ y,lv[j-1]? =some y->y.w<=x) (b:Bool) (s:SV):
  (lv.take j++[(⟨x,b,s,cN c.length k⟩:RI)]++lv.drop j).map wo=(bz It.w (aN 0 (c.take (k+1)))).map (JD c.length):=by
 have hkl:=(AT.1 hx).1
 have hget:∀ (i:Nat) (z:It),(bz It.w (aN 0 (c.take k)))[i]? =some z->∃ y,lv[i]? =some y/\y.w=z.w:=λ i z hz=>by
  have h:=If (λ l=>l[i]?) hlv
  simp only [PX,hz,Rh] at h
  cases hy:lv[i]? with
  |none=>rw [hy] at h;simp at h
  |some y=>rw [hy] at h;exact ⟨y,rfl,If Prod.fst (Qz h)⟩
 have hlen:(bz It.w (aN 0 (c.take k))).length=lv.length:=by have:=If List.length hlv;simpa using this.symm
 have e:=AG (key:=It.w) (l:=aN 0 (c.take k)) (x:=⟨x,(k:Int),0,0⟩) (j:=j) (λ y hy=>by
   obtain ⟨i,hi,hiy⟩:=U0.1 hy
   rw [KV] at hi
   have hyi:(bz It.w (aN 0 (c.take k)))[i]? =some y:=by rw [<-hiy,getElem_take];exact py _
   obtain ⟨z,hz⟩:∃ z,(bz It.w (aN 0 (c.take k)))[j-1]? =some z:=⟨_,py (by omega)⟩
   obtain ⟨q,hq,hqw⟩:=hget _ _ hz
   have h1:=hlo (by omega) q hq
   show y.w<=x
   by_cases e:i=j-1
   ·subst e;rw [hyi] at hz;cases hz;omega
   ·have:=(cd (key:=It.w) (aN 0 (c.take k))).get (by omega:i<j-1) hyi hz
    omega) (λ y hy=>by
   obtain ⟨i,hi,hiy⟩:=U0.1 hy
   rw [PK] at hi
   have hyi:(bz It.w (aN 0 (c.take k)))[j+i]? =some y:=by rw [<-hiy,getElem_drop];exact py _
   obtain ⟨q,hq,hqw⟩:=hget _ _ hyi
   have:=hhi q (PO (by rw [QZ];exact hq))
   show x<y.w
   omega)
 rw [ak hx,fB,PI h0]
 have hk:(c.take k).length=k:=by simp;omega
 rw [hk,Qa,e]
 simp only [Ql,Qm,Sl,Sr,map_drop,hlv]
 rfl
theorem DM {c:List Nat} {k x:Nat} (hx:c[k]? =some x) (h0:x=0):aN 0 (c.take (k+1))=aN 0 (c.take k):=by
 rw [ak hx,fB,M2 (by omega),QO]
def fG (c:List Nat):List Nat:=c.map λ x=>if 0<x then 1 else 0
theorem uw (l:List Nat) (x:Nat):fG (l++[x])=fG l++[if 0<x then 1 else 0]:=by simp [fG]
def eV (c:List Nat) (k:Nat):List Nat:=fG (c.take k)++List.replicate (c.length-k) 0
theorem bT {c:List Nat} {k:Nat} (h:k<=c.length):(eV c k).length=c.length:=by simp [eV,fG];omega
theorem DN {c:List Nat} {k x:Nat} (hx:c[k]? =some x) (h0:x=0):eV c (k+1)=eV c k:=by
 have hk:=(AT.1 hx).1
 rw [eV,eV,ak hx,uw,M2 (by omega),LW,show c.length-k=(c.length-(k+1))+1 by omega,Sa]
 rfl
theorem nX {c:List Nat} {k x:Nat} (hx:c[k]? =some x) (h0:0<x):(eV c k).set k 1=eV c (k+1):=by
 have hk:=(AT.1 hx).1
 have hl:(fG (c.take k)).length=k:=by simp [fG];omega
 rw [eV,eV,ak hx,uw,PI h0,LW,show c.length-k=(c.length-(k+1))+1 by omega,Sa]
 have e:=vP (P:=fG (c.take k)) (Q:=List.replicate (c.length-(k+1)) 0) (x:=0) (y:=1) (i:=k) hl.symm
 rw [e];rfl
theorem GM (c:List Nat):eV c c.length=fG c:=by simp [eV]
theorem sh:∀ (l:List Nat) (i j x:Nat),l[j]? =some x->0<x->∃ y∈aN i l,y.sym=((i+j:Nat):Int)
 |[],i,j,x,h,_=>by simp at h
 |n::r,i,0,x,h,h0=>by
  have:n=x:=by simpa using h
  subst this
  exact ⟨⟨n,i,0,0⟩,by rw [aN,PI h0];simp,by simp⟩
 |n::r,i,j+1,x,h,h0=>by
  obtain ⟨y,hy,hs⟩:=sh r (i+1) j x (by simpa using h) h0
  refine ⟨y,?_,by rw [hs];omega⟩
  rw [aN];split
  ·exact Qr _ hy
  ·exact hy
theorem AH (c:List Nat):∀ x∈leaves c,0<x.w:=l4 c 0
theorem yI:∀ (xs:List It) (ls:List Nat) (j:Nat),j<ls.length->(xs.foldl (λ ls x=>ls.set x.sym.toNat 1) ls).getD j 0=if ∃ x∈xs,x.sym.toNat=j then 1 else ls.getD j 0
 |[],ls,j,_=>by simp
 |x::r,ls,j,hj=>by
  have ih:=yI r (ls.set x.sym.toNat 1) j (by simpa using hj)
  rw [RG,ih]
  by_cases h:∃ y∈r,y.sym.toNat=j
  ·rw [PI h,PI (by obtain ⟨y,hy,e⟩:=h;exact ⟨y,by simp [hy],e⟩)]
  ·rw [M2 h]
   by_cases e:x.sym.toNat=j
   ·rw [PI ⟨x,by simp,e⟩,KW,R7,PI e,PI (by omega)];rfl
   ·rw [M2 (by rintro ⟨y,hy,e2⟩;rcases PR.1 hy with rfl|hy;(exact e e2);(exact h ⟨y,hy,e2⟩)),KW,R7,M2 e,<-KW]
theorem GN {c:List Nat} (h:(leaves c).length<2):ca c=fG c:=by
 rw [ca,PI h]
 apply RM
 intro j
 have hl:∀ (xs:List It) (ls:List Nat),(xs.foldl (λ ls x=>ls.set x.sym.toNat 1) ls).length=ls.length:=by
  intro xs
  induction xs with
  |nil=>intro ls;rfl
  |cons x r ih=>intro ls;rw [RG,ih];simp
 rcases Q1 j c.length with hj|hj
 ·have h1:=yI (leaves c) (List.replicate c.length 0) j (by simpa using hj)
  have e1:∀ (l:List Nat),j<l.length->l[j]? =some (l.getD j 0):=λ l hl=>by rw [KW,py hl];rfl
  rw [e1 _ (by rw [hl];simpa using hj),h1,fG,PX,py hj]
  simp only [Rh]
  congr 1
  by_cases hc:0<c[j]
  ·obtain ⟨y,hy,hs⟩:=sh c 0 j c[j] (py hj) hc
   rw [PI hc,PI ⟨y,(b8 _).mem.1 hy,by omega⟩]
  ·rw [M2 hc,M2]
   ·simp [hj]
   ·rintro ⟨y,hy,hs⟩
    obtain ⟨_,s,hs2,hcs⟩:=cu c y hy
    have hp:=AH c y hy
    have:s=j:=by omega
    subst this
    rw [py hj] at hcs
    have:=Qz hcs
    omega
 ·rw [Q3 (by rw [hl];simpa using hj),Q3 (by simp [fG];exact hj)]
theorem NB (W:Nat):∀ l:List (Nat×List Nat),(∀ e∈l,e.1<=W)->∀ e∈ta l,e.1<=2*W:=λ l h e he=>by
 obtain ⟨x,hx,y,hy,rfl⟩:=qn l e he
 have:=h x hx;have:=h y hy
 show x.1+y.1<=_;omega
theorem GO (c:List Nat) (W:Nat) (h:∀ x∈c,x<=W):∀ k,∀ e∈yG c k,e.1<=W*2^k
 |0,e,he=>by
  obtain ⟨x,hx,rfl⟩:=Qn.1 he
  have:=h _ (cu c x hx).1
  show x.w<=_;omega
 |k+1,e,he=>by
  rcases sf.1 he with he|he
  ·obtain ⟨x,hx,rfl⟩:=Qn.1 he
   have h1:=h _ (cu c x hx).1
   have h2:W<=W*2^(k+1):=RO _ (R1 _)
   show x.w<=_;omega
  ·have:=NB (W*2^k) (yG c k) (GO c W h k) e he
   rw [QY,<-Rw];omega
theorem si (c:List Nat) (k:Nat):(yG c k).length=(lvl c k).length:=by rw [<-BV,No,<-jz,No]
theorem sj:∀ (q:Nat) (b:List (Nat×List Nat)) (x y:Nat×List Nat),b[2*q]? =some x->b[2*q+1]? =some y->ta (b.take (2*(q+1)))=ta (b.take (2*q))++[(x.1+y.1,eY x.2 y.2)]
 |0,b,x,y,hx,hy=>by
  match b,hx,hy with
  |a::a2::r,hx,hy=>simp at hx hy;subst hx hy;simp [ta]
 |q+1,b,x,y,hx,hy=>by
  match b,hx,hy with
  |[],hx,_=>simp at hx
  |[a],hx,_=>simp at hx
  |a::a2::r,hx,hy=>
   have ih:=sj q r x y (by rw [show 2*(q+1)=2*q+1+1 by omega] at hx;simpa using hx) (by rw [show 2*(q+1)+1=2*q+1+1+1 by omega] at hy;simpa using hy)
   rw [show 2*(q+1+1)=2*(q+1)+1+1 by omega,show 2*(q+1)=2*q+1+1 by omega]
   simp only [QW,ta]
   rw [show 2*q+1+1=2*(q+1) by omega,ih];rfl
theorem BX:∀ (q:Nat) (b:List (Nat×List Nat)),b.length<=2*q+1->ta (b.take (2*q))=ta b
 |0,b,h=>by
  match b with
  |[]=>rfl
  |[x]=>rfl
  |_::_::_=>simp at h
 |q+1,b,h=>by
  match b with
  |[]=>rfl
  |[x]=>rw [PV (by simp;omega)]
  |a::a2::r=>
   have ih:=BX q r (by simp at h;omega)
   rw [show 2*(q+1)=2*q+1+1 by omega]
   simp only [QW,ta,ih]
def ux (a b:List Nat) (s:Nat):List Nat:=(eY a b).take s++List.replicate (a.length-s) 0
theorem yJ (a b:List Nat):ux a b 0=List.replicate a.length 0:=by simp [ux]
theorem so {a b:List Nat} {n s:Nat} (ha:a.length=n) (hb:b.length=n) (hs:s<=n):(ux a b s).length=n:=by simp [ux,eY,ha,hb];omega
theorem BY {a b:List Nat} {n:Nat} (ha:a.length=n) (hb:b.length=n):ux a b n=eY a b:=by
 rw [ux,PV (by rw [kE ha hb];exact KB _),ha,Qp];simp
theorem BZ {a b:List Nat} {n s x y:Nat} (ha:a.length=n) (hb:b.length=n) (hx:a[s]? =some x) (hy:b[s]? =some y):(ux a b s).set s (x+y)=ux a b (s+1):=by
 have hs:=(AT.1 hx).1
 have hv:(eY a b)[s]? =some (x+y):=by simp [eY,getElem?_zipWith,hx,hy]
 have hl:((eY a b).take s).length=s:=by rw [KV,kE ha hb];omega
 rw [ux,ux,ak hv,show a.length-s=(a.length-(s+1))+1 by omega,Sa,vP hl.symm]
 simp
theorem JH {c:List Nat} {p2:List RI} (hp:p2.map wo=yG c 14) (h2:2<=(leaves c).length) {j:Nat} (hj:j<c.length):mI (((p2.take (2*(leaves c).length-2)).drop 0).map RI.occ) j=(ca c).getD j 0:=by
 rw [<-GL c h2 hj,<-hp,Ra,<-Sr,Sf];rfl
theorem GP (l:List (List Nat)) (x:List Nat) (j:Nat):mI (l++[x]) j=mI l j+x.getD j 0:=by simp [mI]
theorem GQ {c cur:List Nat} {s:Nat} (hs:s=c.length) (hcl:cur.length=c.length) (hcur:∀ j,j<s->cur[j]? =some ((ca c).getD j 0)):cur=ca c:=by
 apply RM
 intro j
 have hll:=jo c
 rcases Q1 j c.length with hj|hj
 ·rw [hcur j (by omega),KW,py (by omega)];rfl
 ·rw [Q3 (by omega),Q3 (by omega)]
end Go.Kw
