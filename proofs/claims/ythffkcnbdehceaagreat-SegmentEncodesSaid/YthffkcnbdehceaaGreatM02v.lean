/-
 M02V:what is read as a number with no error is the number's encoding. No program in sight.
-/
import Derived.Test.YthffkcnbdehceaaGreatM03
import Derived.Test.YthffkcnbdehceaaGreatKd
open Go.Proofs.YthffkcnbdehceaaGreat
open List
set_option linter.unusedVariables false
set_option linter.unusedSimpArgs false
set_option linter.unusedSectionVars false
namespace Go.Kw
theorem Lx:∀ c,c<128->∀ b,b<2->((c+128*b)|||128)=c+128:=by decide+kernel
theorem Bv:∀ (l:List Nat) (i v x k:Nat),(∀ y∈l,y<256)->i<=9->ze i v l=(x,k,0)->∃ y rest,l=nI (9-i) y++rest/\x=v+y*2^(7*i)/\k=i+(nI (9-i) y).length/\(0<i->0<y)/\(y<2^(64-7*i))
 |[],i,v,x,k,_,_,h=>by simp [ze] at h
 |c::r,i,v,x,k,hb,hi,h=>by
  have hc:c<256:=hb c (QD ..)
  rw [ze] at h
  split at h
  ·simp at h
  ·rename_i h9
   split at h
   ·rename_i h128
    split at h
    ·simp at h
    ·rename_i h0
     simp only [Q6,and_true] at h
     have hm:c%2^7=c:=Q5 (by omega)
     have hf:∀ f,nI f c=[c%2^8]:=λ f=>by unfold nI;cases f<;>simp [h128]
     have h8:c%2^8=c:=Q5 (by omega)
     refine ⟨c,r,by rw [hf,h8];rfl,by rw [<-h.1,hm],by rw [hf,<-h.2];rfl,λ hp=>by omega,?_⟩
     by_cases e:i=9
     ·have:c=1:=QR λ hne=>h9 ⟨e,hne⟩
      subst e;subst this;decide
     ·have h2:2^7<=2^(64-7*i):=Qg (by decide) (by omega)
      omega
   ·rename_i h128
    have hi9:i<9:=by
     rcases Q1 i 9 with h'|h'
     ·exact h'
     ·exact absurd ⟨by omega,by omega⟩ h9
    obtain ⟨y,rest,e1,e2,e3,e4,e5⟩:=Bv r (i+1) _ x k (λ y hy=>hb y (Qr _ hy)) (by omega) h
    have hy0:=e4 (by omega)
    have hcm:c%2^7=c-128:=by omega
    have hbig:¬ (c-128+128*y)<128:=by omega
    have hfu:nI (9-i) (c-128+128*y)=c::nI (9-(i+1)) y:=by
     rw [show 9-i=(9-(i+1))+1 by omega,nI,M2 hbig]
     have hd:(c-128+128*y)/2^7=y:=by omega
     have hmo:(c-128+128*y)%2^8=(c-128)+128*(y%2):=by omega
     rw [hd,hmo,Lx (c-128) (by omega) (y%2) (by omega),Nat.sub_add_cancel (by omega)]
    refine ⟨c-128+128*y,rest,by rw [hfu,e1];rfl,?_,by rw [hfu,e3,KP];omega,λ _=>by omega,?_⟩
    ·rw [e2,hcm,Qx,Rn]
     congr 2
     rw [show 7*(i+1)=7+7*i by omega,Sx,Sy 128 y,Rw]
    ·have hp:2^(64-7*i)=2^7*2^(64-7*(i+1)):=by rw [<-Sx];congr 1;omega
     omega
theorem J8 {l:List Nat} (hb:∀ y∈l,y<256) (h:(fY l).2.2=0):l=uv (fY l).1++l.drop (fY l).2.1/\(fY l).1<2^64:=by
 obtain ⟨y,rest,e1,e2,e3,_,e5⟩:=Bv l 0 0 (fY l).1 (fY l).2.1 hb (by decide) (Sd rfl (Sd rfl h))
 have hx:(fY l).1=y:=by rw [e2];simp
 have hk:(fY l).2.1=(uv y).length:=by rw [e3,Qa];rfl
 refine ⟨?_,by rw [hx];exact e5⟩
 rw [hx,hk]
 have e6:l=uv y++rest:=e1
 conv=>lhs;rw [e6]
 rw [e6,TU]
def Agr (l s:List Nat):Prop:=(∃ t,s=l++t)\/∃ t,l=s++t
theorem Agr.refl (l:List Nat):Agr l l:= .inl ⟨[],by simp⟩
theorem Agr.cut {x l s:List Nat} (h:Agr l (x++s)):(∃ r,l=x++r/\Agr r s)\/∃ t,x=l++t/\t≠[]:=by
 rcases h with ⟨t,h⟩|⟨t,h⟩
 ·rcases append_eq_append_iff.1 h with ⟨a,h1,h2⟩|⟨a,h1,h2⟩
  ·exact .inl ⟨a,h1,.inl ⟨t,h2⟩⟩
  ·by_cases e:a=[]
   ·subst e
    exact .inl ⟨[],by simpa using h1.symm,.inl ⟨s,rfl⟩⟩
   ·exact .inr ⟨a,h1,e⟩
 ·exact .inl ⟨s++t,by rw [h,LW],.inr ⟨t,rfl⟩⟩
theorem vC {l s:List Nat} {n:Nat} (hb:∀ y∈l,y<256) (hn:n<=1073741824) (h:Agr l (uv n++s)) (hk:(aW true l 1073741824).2.1=true):(aW true l 1073741824).1=n/\Agr (aW true l 1073741824).2.2 s:=by
 rcases h.cut with ⟨r,rfl,hr⟩|⟨t,ht,hne⟩
 ·rw [fZ (by omega) hn];exact ⟨rfl,hr⟩
 ·exfalso
  unfold aW at hk
  split at hk
  ·cases hk
  ·rename_i hq
   have h0:(fY l).2.2=0:=QR λ q=>hq (.inr (.inl q))
   obtain ⟨e1,e2⟩:=J8 hb h0
   have e3:uv n++[]=uv (fY l).1++(l.drop (fY l).2.1++t):=by rw [<-LW,<-e1,QO];exact ht
   have e4:=(LI (by omega) e2 e3).2
   exact hne (append_eq_nil_iff.1 e4.symm).2
def jB (ok:Bool) (l:List Nat):List Nat×Bool×List Nat:=
 if (aW ok l 1073741824).2.1=false\/(aW ok l 1073741824).2.2.length<(aW ok l 1073741824).1 then ([],false,(aW ok l 1073741824).2.2)
 else ((aW ok l 1073741824).2.2.take (aW ok l 1073741824).1,true,(aW ok l 1073741824).2.2.drop (aW ok l 1073741824).1)
theorem rp {ok:Bool} {l:List Nat} {lim:Nat} (h:ok=false):aW ok l lim=(0,false,l):=by unfold aW;rw [PI (.inl h)]
theorem Bw {ok:Bool} {l:List Nat} (h:ok=false):jB ok l=([],false,l):=by
 have e:=rp (l:=l) (lim:=1073741824) h
 unfold jB;rw [e,PI (.inl rfl)]
theorem Bx (ok:Bool) (l:List Nat):(jB ok l).2.2.length<=l.length/\(jB ok l).1.length<=l.length:=by
 have h:=gG ok l 1073741824
 unfold jB;split
 ·exact ⟨h,KD _⟩
 ·simp only [PK,KV];omega
theorem By (ok:Bool) (l:List Nat):(∀ x∈(jB ok l).2.2,x∈l)/\∀ x∈(jB ok l).1,x∈l:=by
 have h:=dK ok l 1073741824
 unfold jB;split
 ·exact ⟨h,λ x hx=>by cases hx⟩
 ·exact ⟨λ x hx=>h x (Qi hx),λ x hx=>h x (Q8 hx)⟩
theorem FI {l s m:List Nat} (hb:∀ y∈l,y<256) (hn:m.length<=1073741824) (h:Agr l (ke m++s)) (hk:(jB true l).2.1=true):(jB true l).1=m/\Agr (jB true l).2.2 s:=by
 unfold jB at hk⊢
 split at hk
 ·cases hk
 ·rename_i hq
  have h1:(aW true l 1073741824).2.1=true:=by
   cases hc:(aW true l 1073741824).2.1 with
   |false=>exact absurd (.inl hc) hq
   |true=>rfl
  have h2:(aW true l 1073741824).1<=(aW true l 1073741824).2.2.length:=RN λ q=>hq (.inr q)
  unfold ke at h
  rw [LW] at h
  obtain ⟨e1,e2⟩:=vC hb hn h h1
  rw [M2 hq]
  simp only
  rw [e1] at h2⊢
  rcases e2.cut with ⟨r,hr,hs⟩|⟨t,ht,hne⟩
  ·rw [hr]
   exact ⟨by simp,by simpa using hs⟩
  ·exfalso
   have:=If List.length ht
   rw [sp] at this
   have h3:0<t.length:=T4.2 hne
   omega
def iN {S α:Type} (ok:S->Bool) (f:S->α×S):Nat->S->List α×S
 |0,s=>([],s)
 |n+1,s=>if ok s=true then ((f s).1::(iN ok f n (f s).2).1,(iN ok f n (f s).2).2) else ([],s)
section
variable {S α:Type} {ok:S->Bool} {f:S->α×S}
theorem Bz {n:Nat} {s:S} (h:ok s=false):iN ok f n s=([],s):=by
 cases n with
 |zero=>rfl
 |succ n=>rw [iN,M2 (by rw [h];simp)]
theorem y3 {n:Nat} {s:S} (h:ok s=true):iN ok f (n+1) s=((f s).1::(iN ok f n (f s).2).1,(iN ok f n (f s).2).2):=by rw [iN,PI h]
end
abbrev RS:=Bool×List Nat
def aS (s:RS):Nat×RS:=aW s.1 s.2 1073741824
def aP (s:RS):ByteArray×RS:=(strOf (jB s.1 s.2).1,(jB s.1 s.2).2)
def rq (s:RS):Pr×RS:=(((aP s).1,(aP (aP s).2).1),(aP (aP s).2).2)
def pq (s:RS):List Pr×RS:=iN Prod.fst rq (aS s).1 (aS s).2
def Ak (s:RS×Nat):lC×(RS×Nat):=
 let a:=aP s.1;let n:=aS a.2;let p:=pq n.2
 ((a.1,(s.2:Int),((s.2+n.1:Nat):Int),p.1),(p.2,s.2+n.1))
def y4 (s:RS×Nat):lC×(RS×Nat):=
 let a:=aP s.1;let n:=aS a.2;let e:=aS n.2;let p:=pq e.2
 ((a.1,((s.2+n.1:Nat):Int),((s.2+n.1+e.1:Nat):Int),p.1),(p.2,s.2+n.1))
def FJ (s:RS):Nd×RS:=
 let a:=aP s;let p:=aS a.2;let b:=aS p.2;let e:=aS b.2
 (⟨a.1,(b.1:Int),((b.1+e.1:Nat):Int),(p.1:Int)-1⟩,e.2)
def BA (s:RS):(Int×ByteArray)×RS:=((((aS s).1:Int)-1,(aP (aS s).2).1),(aP (aS s).2).2)
def wQ (p:RS×Nat):Bool:=p.1.1
def dJ (s:RS) (a:Nat):List lC×(RS×Nat):=iN wQ Ak (aS s).1 ((aS s).2,a)
def ec (s:RS) (a:Nat):List lC×(RS×Nat):=iN wQ y4 (aS s).1 ((aS s).2,a)
def eI (s:RS):List Nd×RS:=iN Prod.fst FJ (aS s).1 (aS s).2
def fK (s:RS):List (Int×ByteArray)×RS:=iN Prod.fst BA (aS s).1 (aS s).2
structure RB (s:RS):Prop where
 lt:∀ x∈s.2,x<256
 len:s.2.length<=1000000000
theorem RB.nm {s:RS} (h:RB s):RB (aS s).2:=⟨λ x hx=>h.lt x (dK _ _ _ x hx),Q7 (gG _ _ _) h.len⟩
theorem RB.tx {s:RS} (h:RB s):RB (aP s).2:=⟨λ x hx=>h.lt x ((By _ _).1 x hx),Q7 (Bx _ _).1 h.len⟩
theorem nq {S α:Type} {ok:S->Bool} {f:S->α×S} {Q:S->Prop} (hf:∀ s,Q s->Q (f s).2):∀ (n:Nat) (s:S),Q s->Q (iN ok f n s).2
 |0,s,h=>h
 |n+1,s,h=>by
  rw [iN];split
  ·exact nq hf n _ (hf s h)
  ·exact h
theorem RB.PB {s:RS} (h:RB s):RB (rq s).2:=h.tx.tx
theorem RB.pr {s:RS} (h:RB s):RB (pq s).2:=nq (Q:=RB) (λ _ h=>h.PB) _ _ h.nm
theorem RB.dc {s:RS} (h:RB s) (a:Nat):RB (Ak (s,a)).2.1:=h.tx.nm.pr
theorem RB.rg {s:RS} (h:RB s) (a:Nat):RB (y4 (s,a)).2.1:=h.tx.nm.nm.pr
theorem RB.nd {s:RS} (h:RB s):RB (FJ s).2:=h.tx.nm.nm.nm
theorem RB.he {s:RS} (h:RB s):RB (BA s).2:=h.nm.tx
theorem RB.Pk {s:RS} (h:RB s) (a:Nat):RB (dJ s a).2.1:=nq (Q:=λ p:RS×Nat=>RB p.1) (λ p h=>h.dc p.2) _ _ h.nm
theorem RB.PC {s:RS} (h:RB s) (a:Nat):RB (ec s a).2.1:=nq (Q:=λ p:RS×Nat=>RB p.1) (λ p h=>h.rg p.2) _ _ h.nm
theorem RB.PD {s:RS} (h:RB s):RB (eI s).2:=nq (Q:=RB) (λ _ h=>h.nd) _ _ h.nm
theorem ez (s:RS):(aS s).1<=1073741824:=kX _ _ _
theorem nr {S α:Type} {ok:S->Bool} {f:S->α×S} {n:Nat} {s:S} (h:ok s=true) (hn:0<n):iN ok f n s=((f s).1::(iN ok f (n-1) (f s).2).1,(iN ok f (n-1) (f s).2).2):=by
 obtain ⟨m,rfl⟩:∃ m,n=m+1:=⟨n-1,by omega⟩
 exact y3 h
theorem nt {S α:Type} {ok:S->Bool} {f:S->α×S} {n:Nat} {s:S} (h:¬ (0<n/\ok s=true)):iN ok f n s=([],s):=by
 cases n with
 |zero=>rfl
 |succ n=>rw [iN,M2 λ q=>h ⟨by omega,q⟩]
theorem vD {s:RS} (h:(aP s).2.1=false):bF (aP s).1=[]:=by
 have e:(jB s.1 s.2).1=[]:=by
  have h1:(jB s.1 s.2).2.1=false:=h
  unfold jB at h1⊢
  split
  ·rfl
  ·rename_i hq;rw [M2 hq] at h1;cases h1
 show bF (strOf (jB s.1 s.2).1)=[]
 rw [e];rfl
theorem Al (s:RS):(aP s).1.size<=s.2.length:=by
 show (strOf (jB s.1 s.2).1).size<=_
 rw [bX];exact (Bx _ _).2
theorem J9 {s:RS} (h:s.1=false):(aP s).2.1=false:=by
 have e:=Bw (l:=s.2) h
 show (jB s.1 s.2).2.1=false
 rw [e]
def At (X:Bool) (s:RS) (r:List Nat):Prop:=(s.1=true->(∀ y∈s.2,y<256)/\Agr s.2 r)/\(X=true->s=(true,r))
theorem At.off {X:Bool} {s:RS} {r r':List Nat} (h:At X s r) (h0:s.1=false):At X s r':=
 ⟨λ q=>(by rw [h0] at q;cases q),λ q=>(by have:=h.2 q;rw [this] at h0;cases h0)⟩
theorem ig {X:Bool} {s:RS} {r:List Nat} {n:Nat} (h:At X s (uv n++r)) (hn:n<=1073741824):At X (aS s).2 r/\((aS s).2.1=true->s.1=true/\(aS s).1=n):=by
 have hx:X=true->(aS s).2=(true,r):=λ q=>by
  rw [h.2 q];show (aW true (uv n++r) 1073741824).2=_
  rw [fZ (by omega) hn]
 obtain ⟨ok,l⟩:=s
 cases ok with
 |false=>
  have e:aS (false,l)=(0,false,l):=rp rfl
  rw [e] at hx⊢;exact ⟨⟨λ q=>(by cases q),hx⟩,λ q=>(by cases q)⟩
 |true=>
  obtain ⟨hb,ha⟩:=h.1 rfl
  exact ⟨⟨λ q=>⟨λ y hy=>hb y (dK _ _ _ y hy),(vC hb hn ha q).2⟩,hx⟩,λ q=>⟨rfl,(vC hb hn ha q).1⟩⟩
theorem gy (a:ByteArray):strOf (bF a)=a:=by
 apply yb
 unfold bF strOf
 simp only [Sf,toList_toArray]
 rw [show (λ b:UInt8=>b.toNat)∘(λ n=>UInt8.ofNat n)∘(λ b:UInt8=>b.toNat)=λ b=>b.toNat from by
  funext b;show (UInt8.ofNat b.toNat).toNat=b.toNat;rw [UInt8.ofNat_toNat]]
theorem Ly {m r:List Nat} (hn:m.length<=1073741824):jB true (ke m++r)=(m,true,r):=by
 unfold ke jB
 rw [LW,fZ (by omega) hn,M2 (show ¬ (true=false\/(m++r).length<m.length) from λ q=>by rcases q with q|q;cases q;rw [sp] at q;omega)]
 simp
theorem vE {X:Bool} {s:RS} {r m:List Nat} (h:At X s (ke m++r)) (hn:m.length<=1073741824):At X (jB s.1 s.2).2 r/\((jB s.1 s.2).2.1=true->s.1=true/\(jB s.1 s.2).1=m):=by
 have hx:X=true->(jB s.1 s.2).2=(true,r):=λ q=>by
  rw [h.2 q];show (jB true (ke m++r)).2=_
  rw [Ly hn]
 obtain ⟨ok,l⟩:=s
 cases ok with
 |false=>
  have e:jB false l=([],false,l):=Bw rfl
  show At X (jB false l).2 r/\((jB false l).2.1=true->false=true/\(jB false l).1=m)
  replace hx:X=true->(jB false l).2=(true,r):=hx
  rw [e] at hx⊢;exact ⟨⟨λ q=>(by cases q),hx⟩,λ q=>(by cases q)⟩
 |true=>
  obtain ⟨hb,ha⟩:=h.1 rfl
  exact ⟨⟨λ q=>⟨λ y hy=>hb y ((By _ _).1 y hy),(FI hb hn ha q).2⟩,hx⟩,λ q=>⟨rfl,(FI hb hn ha q).1⟩⟩
theorem ru {X:Bool} {s:RS} {r:List Nat} {a:ByteArray} (h:At X s (cr a++r)) (hn:a.size<=1073741824):At X (aP s).2 r/\((aP s).2.1=true->s.1=true/\(aP s).1=a):=by
 have e:cr a=ke (bF a):=by unfold cr ke;rw [ay]
 rw [e] at h
 obtain ⟨h1,h2⟩:=vE h (by rw [ay];exact hn)
 refine ⟨h1,λ q=> ?_⟩
 obtain ⟨a1,a2⟩:=h2 q
 refine ⟨a1,?_⟩
 show strOf (jB s.1 s.2).1=a
 rw [a2,gy]
theorem oB {S α β:Type} {ok:S->Bool} {f:S->α×S} {val:α->β} {okb:β->Prop} {G:List β->S->Prop} (h0:∀ s l,ok s=false->G l s->G [] s) (hf:∀ s x l,okb x->G (x::l) s->G l (f s).2/\(ok (f s).2=true->ok s=true/\val (f s).1=x)):∀ (xs:List β) (s:S),(∀ x∈xs,okb x)->G xs s->G [] (iN ok f xs.length s).2/\(ok (iN ok f xs.length s).2=true->ok s=true/\(iN ok f xs.length s).1.map val=xs)
 |[],s,_,h=>⟨h,λ q=>⟨q,rfl⟩⟩
 |x::xs,s,hx,h=>by
  rw [KP]
  cases ho:ok s with
  |false=>rw [Bz ho];exact ⟨h0 s _ ho h,λ q=>(by rw [ho] at q;cases q)⟩
  |true=>
   rw [y3 ho]
   obtain ⟨g1,g2⟩:=hf s x xs (hx x (by simp)) h
   obtain ⟨k1,k2⟩:=oB h0 hf xs (f s).2 (λ y hy=>hx y (by simp [hy])) g1
   refine ⟨k1,λ q=>⟨rfl,?_⟩⟩
   obtain ⟨q1,q2⟩:=k2 q
   show ((f s).1::(iN ok f xs.length (f s).2).1).map val=_
   rw [Qm,(g2 q1).2,q2]
theorem ry {S α β:Type} {ok:S->Bool} {f:S->α×S} {val:α->β} {G:List β->S->Prop} (h0:∀ s l,ok s=false->G l s->G [] s) {xs:List β} {m:Nat} {s:S} (hm:ok s=true->m=xs.length) (hG:G xs s) (h:G [] (iN ok f xs.length s).2/\(ok (iN ok f xs.length s).2=true->ok s=true/\(iN ok f xs.length s).1.map val=xs)):G [] (iN ok f m s).2/\(ok (iN ok f m s).2=true->ok s=true/\(iN ok f m s).1.map val=xs):=by
 cases ho:ok s with
 |false=>rw [Bz ho];exact ⟨h0 s _ ho hG,λ q=>(by rw [ho] at q;cases q)⟩
 |true=>rw [hm ho];exact ⟨h.1,λ q=>⟨rfl,(h.2 q).2⟩⟩
def OT (p:Pr):Prop:=p.1.size<=1073741824/\p.2.size<=1073741824
theorem Kp {X:Bool} {s:RS} {r:List Nat} {ps:List Pr} (h:At X s (pw ps++r)) (hl:ps.length<=1073741824) (hs:∀ p∈ps,OT p):At X (pq s).2 r/\((pq s).2.1=true->s.1=true/\(pq s).1=ps):=by
 unfold pw at h
 rw [LW] at h
 obtain ⟨h1,h2⟩:=ig h hl
 let G:List Pr->RS->Prop:=λ l s=>At X s ((l.flatMap λ p:Pr=>cr p.1++cr p.2)++r)
 have h0:∀ (s:RS) (l:List Pr),s.1=false->G l s->G [] s:=λ s l q g=>At.off g q
 have key:=ry (f:=rq) (val:=id) (G:=G) h0 (m:=(aS s).1) (λ q=>(h2 q).2) h1 (oB (ok:=Prod.fst) (f:=rq) (val:=id) (okb:=OT) h0 (λ s x l hx g=>by
  have g':At X s (cr x.1++(cr x.2++((l.flatMap λ p:Pr=>cr p.1++cr p.2)++r))):=by
   have e:((x::l).flatMap λ p:Pr=>cr p.1++cr p.2)++r=cr x.1++(cr x.2++((l.flatMap λ p:Pr=>cr p.1++cr p.2)++r)):=by rw [Rz];simp only [LW]
   rw [<-e];exact g
  obtain ⟨a1,a2⟩:=ru g' hx.1
  obtain ⟨b1,b2⟩:=ru a1 hx.2
  refine ⟨b1,λ q=> ?_⟩
  obtain ⟨c1,c2⟩:=b2 q
  obtain ⟨d1,d2⟩:=a2 c1
  exact ⟨d1,Sd d2 c2⟩) ps (aS s).2 hs h1)
 refine ⟨key.1,λ q=> ?_⟩
 obtain ⟨k1,k2⟩:=key.2 q
 exact ⟨(h2 k1).1,by rw [map_id] at k2;exact k2⟩
theorem v4 {x y:Iv} (h:x.v=y.v):x.nm=y.nm/\x.b=y.b/\x.e=y.e/\x.ps=y.ps:=
 ⟨If (λ q:lC=>q.1) h,If (λ q:lC=>q.2.1) h,If (λ q:lC=>q.2.2.1) h,If (λ q:lC=>q.2.2.2) h⟩
theorem nu {l m:List Iv} (h:l.map Iv.v=m.map Iv.v) {i:Nat} {x:Iv} (hx:m[i]? =some x):∃ y,l[i]? =some y/\y.v=x.v:=by
 have e:=If (·[i]?) h
 simp only [PX,hx,Rh] at e
 cases hy:l[i]? with
 |none=>rw [hy] at e;cases e
 |some y=>rw [hy] at e;exact ⟨y,rfl,Qz e⟩
theorem tU {l m:List Iv} (h:l.map Iv.v=m.map Iv.v) {x:Iv} (hx:x∈m):∃ y,y∈l/\y.v=x.v:=by
 obtain ⟨i,hi⟩:=Qh hx
 obtain ⟨y,hy,e⟩:=nu h hi
 exact ⟨y,PO hy,e⟩
theorem BB {l m:List Iv} (h:l.map Iv.v=m.map Iv.v):l.length=m.length:=by simpa using If List.length h
theorem Lz {x y p q:Iv} (h:x.v=p.v) (k:y.v=q.v):ep x y=ep p q:=by
 obtain ⟨h1,h2,h3,h4⟩:=v4 h
 obtain ⟨k1,k2,k3,k4⟩:=v4 k
 unfold ep
 rw [h1,h2,h3,h4,k1,k2,k3,k4]
theorem Kq {l m:List Iv} (h:l.map Iv.v=m.map Iv.v) {b e:Int} (hi:inT l b e):inT m b e:=by
 obtain ⟨t,ht,h1⟩:=hi
 obtain ⟨y,hy,e1⟩:=tU h.symm ht
 obtain ⟨_,e2,e3,_⟩:=v4 e1
 exact ⟨y,hy,by rw [e2,e3];exact h1⟩
theorem LA {n:Int} {l m:List Iv} (h:l.map Iv.v=m.map Iv.v) (k:okTx n l):okTx n m where
 nm x hx:=by
  obtain ⟨y,hy,e⟩:=tU h hx
  obtain ⟨e1,e2,e3,e4⟩:=v4 e
  have:=k.nm y hy
  rwa [e1,e2,e3,e4] at this
 nd i j x y hx hy hij:=by
  obtain ⟨x',hx',ex⟩:=nu h hx
  obtain ⟨y',hy',ey⟩:=nu h hy
  rw [<-(v4 ex).1,<-(v4 ey).1]
  exact k.nd i j x' y' hx' hy' hij
 first x hx:=by
  obtain ⟨x',hx',ex⟩:=nu h hx
  rw [<-(v4 ex).2.1];exact k.first x' hx'
 next i x y hx hy:=by
  obtain ⟨x',hx',ex⟩:=nu h hx
  obtain ⟨y',hy',ey⟩:=nu h hy
  rw [<-(v4 ex).2.2.1,<-(v4 ey).2.1]
  exact k.next i x' y' hx' hy'
 last i x hx hi:=by
  obtain ⟨x',hx',ex⟩:=nu h hx
  rw [<-(v4 ex).2.2.1];exact k.last i x' hx' (by rw [BB h];exact hi)
 none_:=by
  rw [<-k.none_,<-length_eq_zero_iff,<-length_eq_zero_iff,BB h]
theorem Np {x y p q:Iv} (h:x.v=p.v) (k:y.v=q.v) (hn:noX x y):noX p q:=by
 obtain ⟨h1,h2,h3,_⟩:=v4 h
 obtain ⟨k1,k2,k3,_⟩:=v4 k
 unfold noX at hn⊢
 rw [h1,h2,h3,k1,k2,k3] at hn
 exact hn
theorem OkC.Pb {k:Nat} {c d:Co} (h:OkC k c) (e:c.v=d.v):OkC k d:=by
 have eA:c.at_=d.at_:=If px.at_ e
 have eT:c.tk.map (·.ns)=d.tk.map (·.ns):=If px.tk e
 have eX:c.tx.map Iv.v=d.tx.map Iv.v:=If px.tx e
 have eR:c.rg.map Iv.v=d.rg.map Iv.v:=If px.rg e
 have eN:c.nd=d.nd:=If px.nd e
 have eH:c.hd=d.hd:=If px.hd e
 have eL:c.rl=d.rl:=If px.rl e
 have eTl:c.tk.length=d.tk.length:=by simpa using If List.length eT
 refine ⟨eA▸h.at_,λ t ht=> ?_,λ t ht=> ?_,eTl▸LA eX h.tx,⟨λ x hx=> ?_,λ i x y hx hy=> ?_,λ x hx y hy=> ?_⟩,⟨λ x hx=> ?_,eN▸h.nd.par,eN▸h.nd.sib⟩,?_,by rw [<-eTl];exact h.ntk,by rw [<-BB eX];exact h.ntx,by rw [<-BB eR];exact h.nrg,by rw [<-eN];exact h.nnd⟩
 ·have hm:t.ns∈c.tk.map (·.ns):=by rw [eT];exact Qv ht
  obtain ⟨u,hu,e1⟩:=Qn.1 hm
  exact e1▸h.voc u hu
 ·have hm:t.ns∈c.tk.map (·.ns):=by rw [eT];exact Qv ht
  obtain ⟨u,hu,e1⟩:=Qn.1 hm
  have:=h.tk u hu
  rw [e1] at this
  rw [<-eA];exact this
 ·obtain ⟨y,hy,e1⟩:=tU eR hx
  obtain ⟨a1,a2,a3,a4⟩:=v4 e1
  obtain ⟨b1,b2,b3⟩:=h.rg.el y hy
  rw [a1] at b1;rw [a4] at b3;rw [a2,a3] at b2
  exact ⟨b1,Kq eX b2,b3⟩
 ·obtain ⟨x',hx',ex⟩:=nu eR hx
  obtain ⟨y',hy',ey⟩:=nu eR hy
  rw [<-Lz ex ey]
  exact h.rg.asc i x' y' hx' hy'
 ·obtain ⟨x',hx',ex⟩:=tU eR hx
  obtain ⟨y',hy',ey⟩:=tU eR hy
  exact Np ex ey (h.rg.nox x' hx' y' hy')
 ·have:=h.nd.el x (by rw [eN];exact hx)
  exact ⟨this.1,Kq eX this.2⟩
 ·rcases h.hd with ⟨a,b⟩|a
  ·exact .inl ⟨eH▸a,eL▸b⟩
  ·refine .inr ⟨by rw [<-eTl,<-eH,<-eL];exact a.len,eH▸eL▸a.bare,λ i x hx=> ?_,eL▸a.nm,eH▸a.rk⟩
   rcases a.el i x (by rw [eH];exact hx) with q|⟨t,ht,q⟩
   ·exact .inl q
   ·obtain ⟨y,hy,e1⟩:=tU eX.symm ht
    obtain ⟨_,a2,a3,_⟩:=v4 e1
    exact .inr ⟨y,hy,by rw [a2,a3];exact q⟩
theorem gE {l:List Nat} (h:∀ x∈l,x<256):bF (strOf l)=l:=by
 unfold bF strOf
 simp only [Sf,toList_toArray]
 rw [Rs (g:=id) (λ x hx=>by
  show (UInt8.ofNat x).toNat=x
  rw [UInt8.toNat_ofNat'];exact Q5 (h x hx)),map_id]
theorem gr {l:List Nat} (h:∀ x∈l,x<256):cr (strOf l)=ke l:=by
 unfold cr ke
 rw [gE h,bX]
theorem ij {α:Type} {f:α->List Nat} {l:List α} {k:Nat} {x:α} (hx:l[k]? =some x):(l.take (k+1)).flatMap f=(l.take k).flatMap f++f x:=by rw [ak hx,T3];simp
theorem rz {α:Type} {f:α->List Nat} {B:Nat}:∀ (l:List α),(∀ x∈l,(f x).length<=B)->(l.flatMap f).length<=B*l.length
 |[],_=>by simp
 |x::l,h=>by
  have h1:=h x (by simp)
  have h2:=rz l λ y hy=>h y (by simp [hy])
  rw [Rz,sp,KP,Nat.mul_succ];omega
theorem vF {f:Nat->List Nat} (k:Nat):(List.range (k+1)).flatMap f=(List.range k).flatMap f++f k:=by rw [Ru,T3];simp
theorem bK (s:ByteArray):(cr s).length<=s.size+10:=by unfold cr;have:=aD s.size;rw [sp,ay];omega
theorem BC {ps:List Pr} (h:okPs ps) {k:Nat} {p:Pr} (hp:ps[k]? =some p):p.1.size<=32/\p.2.size<=120:=by
 have h1:=h.2.1 p (PO hp)
 exact ⟨bk h1.1,ik h1.2⟩
theorem kW {ps:List Pr} (h:okPs ps):(pw ps).length<=1600:=by
 have h1:=rz (f:=λ p:Pr=>cr p.1++cr p.2) (B:=172) ps λ p hp=>by
  have h2:=h.2.1 p hp
  have h3:=bk h2.1;have h4:=ik h2.2
  have h5:=bK p.1;have h6:=bK p.2
  rw [sp];omega
 have h7:=aD ps.length
 have h8:=h.1
 unfold pw
 rw [sp]
 have h9:172*ps.length<=172*8:=SL _ h8
 omega
theorem OkC.HE {n:Nat} {c:Co} (h:OkC n c) (hn:n<=3):c.hd.length=c.rl.length/\c.hd.length<=36:=by
 rcases h.hd with ⟨a,b⟩|a
 ·rw [a,b];exact ⟨rfl,KD _⟩
 ·have:=a.len;have:=h.ntk;omega
theorem OkC.OI {n:Nat} {c:Co} (h:OkC n c) (hn:n<=3) {k:Nat} {x:Int} {s:ByteArray} (hx:c.hd[k]? =some x) (hs:c.rl[k]? =some s): -1<=x/\x<=36/\s.size<=32:=by
 have hk:=h.ntk
 rcases h.hd with ⟨a,b⟩|a
 ·rw [a] at hx;simp at hx
 ·have q2:=a.nm s (PO hs)
  have q3:s.size<=32:=by
   rcases q2 with e|e
   ·rw [e];exact KD _
   ·exact bk e
  rcases a.el k x hx with e|⟨t,ht,e⟩
  ·exact ⟨by omega,by omega,q3⟩
  ·have:=h.tx.nm t ht
   exact ⟨by omega,by omega,q3⟩
theorem BD {α β:Type} {l:List α} {m:List β} {k:Nat} {x:α} {y:β} (hx:l[k]? =some x) (hy:m[k]? =some y):(l.zip m)[k]? =some (x,y):=by rw [SQ];exact ⟨hx,hy⟩
def E1 (nd:List Nd) (hd:List Int) (rl:List ByteArray):List Nat:=uv nd.length++(nd.flatMap rH++(uv hd.length++(hd.zip rl).flatMap sM))
def eK (c:Co) (a:Nat):List ByteArray:=c.tk.map λ t=>t.ns.getD a ByteArray.empty
theorem FK:∀ {vs:List ByteArray},(∀ v∈vs,v.size<=120/\dw v=true)->eu vs=0
 |[],_=>rfl
 |v::r,h=>by
  have h1:=h v (by simp)
  unfold eu
  rw [M2 (by omega),M2 (by rw [h1.2];simp),FK λ x hx=>h x (by simp [hx])]
theorem Am {s:ByteArray} (h:jf s=true):dw s=true:=by
 unfold jf at h
 simp only [PY] at h
 exact h.2.1
theorem y5 {n:Nat} {c:Co} (h:OkC n c) {a:Nat} (ha:a<c.at_.length) {v:ByteArray} (hv:v∈eK c a):v.size<=120/\dw v=true:=by
 obtain ⟨t,ht,rfl⟩:=Qn.1 hv
 have q:=h.tk t ht
 rw [KW,py (by omega:a<t.ns.length)]
 have:=(q.2 a _ _ (py (by omega:a<t.ns.length)) (py ha)).val
 exact ⟨ik this,Am this⟩
theorem k9 (c:Co) (a:Nat):(eK c a).length=c.tk.length:=by unfold eK;rw [No]
theorem pZ {n:Nat} {c:Co} (h:OkC n c) (hn:n<=3) {a:Nat} (ha:a<c.at_.length):dn (eK c a)=0/\Ns (eK c a):=by
 have h1:=h.ntk
 have h2:=k9 c a
 have h3:=bI (eK c a)
 refine ⟨?_,⟨by omega,h.Oc a⟩,λ v hv=>(y5 h ha hv).1⟩
 unfold dn
 rw [M2 (by omega),FK λ v hv=>y5 h ha hv,M2 (by simp),M2 (by omega)]
theorem iO {c:Co} {a k:Nat} {t:Tk} {v:ByteArray} (ht:c.tk[k]? =some t) (hv:t.ns[a]? =some v):(c.tk.take (k+1)).map (λ t=>t.ns.getD a ByteArray.empty)=(c.tk.take k).map (λ t=>t.ns.getD a ByteArray.empty)++[v]:=by
 rw [ak ht,Ql,Th,KW,hv,Rb]
theorem An (c:Co) (a:Nat):(c.v.tk.map λ t=>t.getD a ByteArray.empty)=eK c a:=by
 show (c.tk.map (·.ns)).map (λ t=>t.getD a ByteArray.empty)=_
 rw [Sf];rfl
theorem y6 {ns:List Nat} {S:List (SV×List Nat)} {m k x:Nat} {p:SV×List Nat} {sv:SV} (hx:ns[k]? =some x) (hS:S.map Prod.snd=(List.range m).map (eo (ns.take k))) (hp:S[x]? =some p):(S.set x (sv,p.2++[k])).map Prod.snd=(List.range m).map (eo (ns.take (k+1))):=by
 have hk:k<ns.length:=(AT.1 hx).1
 have hl:S.length=m:=by simpa using If List.length hS
 have hxm:x<m:=by have:=(AT.1 hp).1;omega
 have e:∀ j,j<m->(S.map Prod.snd)[j]? =some (eo (ns.take k) j):=λ j hj=>by rw [hS];simp [hj]
 have e0:p.2=eo (ns.take k) x:=by have:=e x hxm;rw [PX,hp] at this;exact Qz this
 apply RM
 intro j
 rw [map_set,R7]
 have hsn:ns.take (k+1)=ns.take k++[x]:=ak hx
 have hlt:(ns.take k).length=k:=by rw [KV];omega
 by_cases hj:j<m
 ·rw [show ((List.range m).map (eo (ns.take (k+1))))[j]? =some (eo (ns.take (k+1)) j) by simp [hj],hsn,Dv,hlt]
  by_cases hxj:x=j
  ·subst hxj;rw [PI rfl,PI (by rw [No];omega),PI rfl,e0]
  ·rw [M2 hxj,M2 hxj];exact e j hj
 ·have e2:((List.range m).map (eo (ns.take (k+1))))[j]? =none:=Q3 (by simp;omega)
  have e3:(S.map Prod.snd)[j]? =none:=Q3 (by rw [No];omega)
  rw [e2,M2 (show ¬ x=j by omega)]
  exact e3
theorem qc {ns:List Nat} {S:List (SV×List Nat)} {m k:Nat} {p:SV×List Nat} (hS:S.map Prod.snd=(List.range m).map (eo ns)) (hp:S[k]? =some p):p.2=eo ns k/\k<m:=by
 have hl:S.length=m:=by simpa using If List.length hS
 have hk:k<m:=by have:=(AT.1 hp).1;omega
 have h1:(S.map Prod.snd)[k]? =some (eo ns k):=by rw [hS];simp [hk]
 rw [PX,hp] at h1
 exact ⟨Qz h1,hk⟩
theorem qd {l:List Iv} {k:Nat} {x:Iv} (hx:l[k]? =some x):fw 0 ((l.take (k+1)).map Iv.v)=fw 0 ((l.take k).map Iv.v)++Kv (Kx 0 ((l.take k).map Iv.v)) x.v/\Kx 0 ((l.take (k+1)).map Iv.v)=x.b:=by
 rw [ak hx,Ql,Th,tY]
 exact ⟨rfl,by unfold Kx;rw [foldl_append];rfl⟩
def FL (l:List Nat) (n W:Nat):List Nat:=(List.range' n (W-n)).flatMap λ n=>ke (aM (mH (eo l n)))
theorem FM {l:List Nat} {n W:Nat} (h:n<W):FL l n W=ke (aM (mH (eo l n)))++FL l (n+1) W:=by
 unfold FL
 rw [show W-n=(W-(n+1))+1 by omega,range'_succ,Rz]
theorem Ja {l:List Nat} {n W:Nat} (h:W<=n):FL l n W=[]:=by unfold FL;rw [show W-n=0 by omega];rfl
theorem FN (l:List Nat) (W:Nat):FL l 0 W=sV l W:=by unfold FL sV;rw [range_eq_range'];rfl
def iP (c:Co) (k i:Nat):List (List ByteArray):=((c.tk.take i).map λ t=>t.ns.take (k+1))++((c.tk.drop i).map λ t=>t.ns.take k)
theorem Ao (c:Co) (k:Nat):iP c k 0=c.tk.map λ t=>t.ns.take k:=by simp [iP]
theorem tV (c:Co) (k i:Nat):(iP c k i).length=c.tk.length:=by unfold iP;simp;omega
theorem Ds {n:Nat} {c:Co} (h:OkC n c) {k i j:Nat} {x:List ByteArray} (hx:(iP c k i)[j]? =some x):x.length<=100:=by
 have h1:=h.at_.2
 have hm:=PO hx
 unfold iP at hm
 rcases PT.1 hm with q|q
 ·obtain ⟨t,ht,rfl⟩:=Qn.1 q
  have:=(h.tk t (Q8 ht)).1
  rw [KV];omega
 ·obtain ⟨t,ht,rfl⟩:=Qn.1 q
  have:=(h.tk t (Qi ht)).1
  rw [KV];omega
theorem Dt {c:Co} {k i:Nat} (h:c.tk.length<=i):iP c k i=c.tk.map λ t=>t.ns.take (k+1):=by
 unfold iP;rw [PV h,QB h];simp
theorem Nq {c:Co} {m k:Nat} (hm:m=c.tk.length) (hk:k=0):(List.replicate m ((⟨none,0,0⟩:SV),([]:List ByteArray))).map Prod.snd=c.tk.map λ t=>t.ns.take k:=by
 subst hm;subst hk
 simp only [map_replicate,TW]
 rw [map_const']
theorem FO {c:Co} {S:List (SV×List ByteArray)} {k i:Nat} {p:SV×List ByteArray} {sv:SV} {v:ByteArray} (hS:S.map Prod.snd=iP c k i) (hp:S[i]? =some p) (hv:(eK c k)[i]? =some v) (hk:∀ t∈c.tk,k<t.ns.length):(S.set i (sv,p.2++[v])).map Prod.snd=iP c k (i+1):=by
 have hl:S.length=c.tk.length:=by have:=If List.length hS;rwa [No,tV] at this
 have hi:i<c.tk.length:=by have:=(AT.1 hp).1;omega
 obtain ⟨t,ht⟩:∃ t,c.tk[i]? =some t:=⟨_,py hi⟩
 have hkt:=hk t (PO ht)
 have hvt:t.ns[k]? =some v:=by
  unfold eK at hv
  rw [PX,ht] at hv
  have h9:t.ns.getD k ByteArray.empty=v:=Qz hv
  rw [KW,py hkt,Rb] at h9
  rw [py hkt,h9]
 have h1:(S.map Prod.snd)[i]? =some (t.ns.take k):=by
  rw [hS];unfold iP
  rw [Qb (by simp;omega)]
  simp only [No,KV]
  rw [show i-min i c.tk.length=0 by omega,PX,QZ,R8,ht];rfl
 have h2:p.2=t.ns.take k:=by rw [PX,hp] at h1;exact Qz h1
 rw [map_set,h2,hS]
 unfold iP
 have e1:c.tk.drop i=t::c.tk.drop (i+1):=by
  rw [QL hi];congr 1
  exact (AT.1 ht).2
 have hln:((c.tk.take i).map λ t=>t.ns.take (k+1)).length=i:=by simp;omega
 rw [e1,ak ht,Qm,Ql,Th,LW,Qq _ _ (by omega),hln,Qp,ak hvt]
 rfl
def B8 (l:List Nat):Prop:=∀ x∈l,x<256
theorem B8.app {l m:List Nat} (h:B8 l) (k:B8 m):B8 (l++m):=λ x hx=>(PT.1 hx).elim (h x) (k x)
theorem B8.fm {α:Type} {f:α->List Nat} {l:List α} (h:∀ x∈l,B8 (f x)):B8 (l.flatMap f):=λ y hy=>by
 obtain ⟨x,hx,hy⟩:=Re.1 hy
 exact h x hx y hy
theorem fO (n:Nat):B8 (uv n):=dd n
theorem rA (s:ByteArray):B8 (cr s):=(fO _).app (kP s)
theorem FP {l:List Nat} (h:B8 l):B8 (ke l):=(fO _).app h
theorem Kr (ps:List Pr):B8 (pw ps):=(fO _).app (B8.fm λ p _=>(rA _).app (rA _))
theorem nw {l:List Nat} (h:B8 l):B8 (aM l):=h.app (nA _)
theorem FQ:∀ (l:List lC) (z:Int),B8 (fw z l)
 |[],_=>λ x hx=>by cases hx
 |x::l,z=>((rA _).app ((fO _).app ((fO _).app (Kr _)))).app (FQ l _)
theorem LB {X:List ByteArray->List Nat} {T:List Nat->List Nat} (hX:∀ u,B8 (X u)) (hT:∀ l,B8 (T l)) (a:ByteArray×Bool) (vs:List ByteArray):B8 (jJ X T a vs):=
 (rA _).app ((fO _).app ((FP (hX _)).app ((FP (hT _)).app (B8.fm λ n _=>FP (nw (iA _))))))
theorem Ap {X:List ByteArray->List Nat} {T:List Nat->List Nat} (hX:∀ u,B8 (X u)) (hT:∀ l,B8 (T l)) (c:px):B8 (iR X T c):=by
 refine B8.app (λ x hx=> ?_) ((fO _).app ((B8.fm λ i _=>LB hX hT _ _).app ((fO _).app ((B8.fm λ x _=>(rA _).app ((fO _).app (Kr _))).app ((fO _).app ((FQ _ _).app ((fO _).app ((B8.fm λ x _=>(rA _).app ((fO _).app ((fO _).app (fO _)))).app ((fO _).app (B8.fm λ x _=>(fO _).app (rA _)))))))))))
 simp only [PR,PU,Q9] at hx
 omega
theorem Jb {ns:List Nat} (h:ns.length<=4096) (k:Nat):(sV ns k).length<=40020*k:=by
 have:=rz (f:=λ n=>ke (aM (mH (eo ns n)))) (B:=40020) (List.range k) λ n _=>by
  have h1:=je (kY n h)
  have h2:=aD (aM (mH (eo ns n))).length
  unfold ke
  rw [sp,bL] at*
  omega
 rwa [SZ] at this
theorem FR:∀ {l:List lC} {z:Int} {k:Nat} {x:lC},N4 z l->l[k]? =some x->Kx z (l.take k)<=x.2.1
 |[],_,_,_,_,h=>by simp at h
 |y::l,z,0,x,h,hx=>by
  have e:y=x:=by simpa using hx
  subst e;exact h.1
 |y::l,z,k+1,x,h,hx=>FR (l:=l) (z:=y.2.1) (k:=k) h.2 (by simpa using hx)
theorem tW {X:List ByteArray->List Nat} {T:List Nat->List Nat} {c:Co} {k:Nat} {x:ByteArray×Bool} (hx:c.at_[k]? =some x):eM X T c.v.at_ c.v.tk (k+1)=eM X T c.v.at_ c.v.tk k++jJ X T x (eK c k):=by
 unfold eM
 rw [vF,An,show c.v.at_.getD k (ByteArray.empty,false)=x by rw [KW,show c.v.at_=c.at_ from rfl,hx];rfl]
theorem ny (X:List ByteArray->List Nat) (T:List Nat->List Nat) (c:Co):iR X T c.v=[67,83,49]++(uv c.at_.length++(eM X T c.v.at_ c.v.tk c.at_.length++(uv c.tx.length++(c.tx.flatMap (λ x=>gS x.v)++(uv c.rg.length++(fw 0 (c.rg.map Iv.v)++E1 c.nd c.hd c.rl)))))):=by
 have e1:c.v.tx.length=c.tx.length:=No ..
 have e2:c.v.rg.length=c.rg.length:=No ..
 have e3:c.v.tx.flatMap gS=c.tx.flatMap λ x=>gS x.v:=TX ..
 unfold iR E1
 rw [e1,e2,e3];rfl
theorem vG {bf:Int} {x:lC} (h:x.1.size<=32) (hp:okPs x.2.2.2):(Kv bf x).length<=2000:=by
 have h1:=bK x.1;have h2:=kW hp;have h3:=aD (x.2.1-bf).toNat;have h4:=aD (x.2.2.1-x.2.1).toNat
 unfold Kv;simp only [sp];omega
theorem vH {x:lC} (h:x.1.size<=32) (hp:okPs x.2.2.2):(gS x).length<=2000:=by
 have h1:=bK x.1;have h2:=kW hp;have h4:=aD (x.2.2.1-x.2.1).toNat
 unfold gS;simp only [sp];omega
theorem BE {n:Nat} {c:Co} (h:OkC n c) (hn:n<=3):(E1 c.nd c.hd c.rl).length<=100000:=by
 have h1:=rz (f:=rH) (B:=80) c.nd λ x hx=>by
  have h2:=bk (h.nd.el x hx).1;have h3:=bK x.nm
  have h4:=aD (x.p+1).toNat;have h5:=aD x.b.toNat;have h6:=aD (x.e-x.b).toNat
  unfold rH;simp only [sp];omega
 have h2:=rz (f:=sM) (B:=80) (c.hd.zip c.rl) λ x hx=>by
  obtain ⟨i,hi⟩:=Qh hx
  rw [SQ] at hi
  have h3:=(h.OI hn hi.1 hi.2).2.2
  have h4:=bK x.2;have h5:=aD (x.1+1).toNat
  unfold sM;simp only [sp];omega
 have h3:=h.nnd;have h4:=h.HE hn;have h5:=aD c.nd.length;have h6:=aD c.hd.length
 rw [length_zip] at h2
 unfold E1;simp only [sp]
 omega
end Go.Kw
