/-
 M02V:what is read as a number with no error is the number's encoding. No program in sight.
-/
import Derived.Test.YthffkcnbdehceaaGreatM14d
import Derived.Test.YthffkcnbdehceaaGreatKd
open List
set_option linter.unusedVariables false
set_option linter.unusedSimpArgs false
set_option linter.unusedSectionVars false
namespace Go.Kw
theorem Mf:∀ c,c<128->∀ b,b<2->((c+128*b)|||128)=c+128:=by decide+kernel
theorem Cq:∀ (l:List Nat) (i v x k:Nat),(∀ y∈l,y<256)->i<=9->Al i v l=(x,k,0)->∃ y rest,l=nP (9-i) y++rest/\x=v+y*2^(7*i)/\k=i+(nP (9-i) y).length/\(0<i->0<y)/\(y<2^(64-7*i))
 |[],i,v,x,k,_,_,h=>by simp [Al] at h
 |c::r,i,v,x,k,hb,hi,h=>by
  have hc:c<256:=hb c (mem_cons_self ..)
  rw [Al] at h
  split at h
  ·simp at h
  ·rename_i h9
   split at h
   ·rename_i h128
    split at h
    ·simp at h
    ·rename_i h0
     simp only [Prod.mk.injEq,and_true] at h
     have hm:c%2^7=c:=Nat.mod_eq_of_lt (by omega)
     have hf:∀ f,nP f c=[c%2^8]:=λ f=>by unfold nP;cases f<;>simp [h128]
     have h8:c%2^8=c:=Nat.mod_eq_of_lt (by omega)
     refine ⟨c,r,by rw [hf,h8];rfl,by rw [<-h.1,hm],by rw [hf,<-h.2];rfl,λ hp=>by omega,?_⟩
     by_cases e:i=9
     ·have:c=1:=Classical.byContradiction λ hne=>h9 ⟨e,hne⟩
      subst e;subst this;decide
     ·have h2:2^7<=2^(64-7*i):=Nat.pow_le_pow_right (by decide) (by omega)
      omega
   ·rename_i h128
    have hi9:i<9:=by
     rcases Nat.lt_or_ge i 9 with h'|h'
     ·exact h'
     ·exact absurd ⟨by omega,by omega⟩ h9
    obtain ⟨y,rest,e1,e2,e3,e4,e5⟩:=Cq r (i+1) _ x k (λ y hy=>hb y (mem_cons_of_mem _ hy)) (by omega) h
    have hy0:=e4 (by omega)
    have hcm:c%2^7=c-128:=by omega
    have hbig:¬ (c-128+128*y)<128:=by omega
    have hfu:nP (9-i) (c-128+128*y)=c::nP (9-(i+1)) y:=by
     rw [show 9-i=(9-(i+1))+1 by omega,nP,if_neg hbig]
     have hd:(c-128+128*y)/2^7=y:=by omega
     have hmo:(c-128+128*y)%2^8=(c-128)+128*(y%2):=by omega
     rw [hd,hmo,Mf (c-128) (by omega) (y%2) (by omega),Nat.sub_add_cancel (by omega)]
    refine ⟨c-128+128*y,rest,by rw [hfu,e1];rfl,?_,by rw [hfu,e3,length_cons];omega,λ _=>by omega,?_⟩
    ·rw [e2,hcm,Nat.add_mul,Nat.add_assoc]
     congr 2
     rw [show 7*(i+1)=7+7*i by omega,Nat.pow_add,Nat.mul_comm 128 y,Nat.mul_assoc]
    ·have hp:2^(64-7*i)=2^7*2^(64-7*(i+1)):=by rw [<-Nat.pow_add];congr 1;omega
     omega
theorem Jx {l:List Nat} (hb:∀ y∈l,y<256) (h:(ga l).2.2=0):l=uv (ga l).1++l.drop (ga l).2.1/\(ga l).1<2^64:=by
 obtain ⟨y,rest,e1,e2,e3,_,e5⟩:=Cq l 0 0 (ga l).1 (ga l).2.1 hb (by decide) (Prod.ext rfl (Prod.ext rfl h))
 have hx:(ga l).1=y:=by rw [e2];simp
 have hk:(ga l).2.1=(uv y).length:=by rw [e3,Nat.zero_add];rfl
 refine ⟨?_,by rw [hx];exact e5⟩
 rw [hx,hk]
 have e6:l=uv y++rest:=e1
 conv=>lhs;rw [e6]
 rw [e6,drop_left]
def Agr (l s:List Nat):Prop:=(∃ t,s=l++t)\/∃ t,l=s++t
theorem Agr.refl (l:List Nat):Agr l l:= .inl ⟨[],by simp⟩
theorem Agr.cut {x l s:List Nat} (h:Agr l (x++s)):(∃ r,l=x++r/\Agr r s)\/∃ t,x=l++t/\t≠[]:=by
 rcases h with ⟨t,h⟩|⟨t,h⟩
 ·rcases append_eq_append_iff.1 h with ⟨a,h1,h2⟩|⟨a,h1,h2⟩
  ·exact .inl ⟨a,h1,.inl ⟨t,h2⟩⟩
  ·by_cases e:a=[]
   ·subst e
    exact .inl ⟨[],by simpa using h1.symm,.inl ⟨s,rfl⟩⟩
   ·exact .inr ⟨a,h1,e⟩
 ·exact .inl ⟨s++t,by rw [h,append_assoc],.inr ⟨t,rfl⟩⟩
theorem xf {l s:List Nat} {n:Nat} (hb:∀ y∈l,y<256) (hn:n<=1073741824) (h:Agr l (uv n++s)) (hk:(aU true l 1073741824).2.1=true):(aU true l 1073741824).1=n/\Agr (aU true l 1073741824).2.2 s:=by
 rcases h.cut with ⟨r,rfl,hr⟩|⟨t,ht,hne⟩
 ·rw [gd (by omega) hn];exact ⟨rfl,hr⟩
 ·exfalso
  unfold aU at hk
  split at hk
  ·cases hk
  ·rename_i hq
   have h0:(ga l).2.2=0:=Classical.byContradiction λ q=>hq (.inr (.inl q))
   obtain ⟨e1,e2⟩:=Jx hb h0
   have e3:uv n++[]=uv (ga l).1++(l.drop (ga l).2.1++t):=by rw [<-append_assoc,<-e1,append_nil];exact ht
   have e4:=(cC (by omega) e2 e3).2
   exact hne (append_eq_nil_iff.1 e4.symm).2
def jl (ok:Bool) (l:List Nat):List Nat×Bool×List Nat:=
 if (aU ok l 1073741824).2.1=false\/(aU ok l 1073741824).2.2.length<(aU ok l 1073741824).1 then ([],false,(aU ok l 1073741824).2.2)
 else ((aU ok l 1073741824).2.2.take (aU ok l 1073741824).1,true,(aU ok l 1073741824).2.2.drop (aU ok l 1073741824).1)
theorem tE {ok:Bool} {l:List Nat} {lim:Nat} (h:ok=false):aU ok l lim=(0,false,l):=by unfold aU;rw [if_pos (.inl h)]
theorem Cr {ok:Bool} {l:List Nat} (h:ok=false):jl ok l=([],false,l):=by
 have e:=tE (l:=l) (lim:=1073741824) h
 unfold jl;rw [e,if_pos (.inl rfl)]
theorem Cs (ok:Bool) (l:List Nat):(jl ok l).2.2.length<=l.length/\(jl ok l).1.length<=l.length:=by
 have h:=gG ok l 1073741824
 unfold jl;split
 ·exact ⟨h,Nat.zero_le _⟩
 ·simp only [length_drop,length_take];omega
theorem Ct (ok:Bool) (l:List Nat):(∀ x∈(jl ok l).2.2,x∈l)/\∀ x∈(jl ok l).1,x∈l:=by
 have h:=dK ok l 1073741824
 unfold jl;split
 ·exact ⟨h,λ x hx=>by cases hx⟩
 ·exact ⟨λ x hx=>h x (mem_of_mem_drop hx),λ x hx=>h x (mem_of_mem_take hx)⟩
theorem Gn {l s m:List Nat} (hb:∀ y∈l,y<256) (hn:m.length<=1073741824) (h:Agr l (mq m++s)) (hk:(jl true l).2.1=true):(jl true l).1=m/\Agr (jl true l).2.2 s:=by
 unfold jl at hk⊢
 split at hk
 ·cases hk
 ·rename_i hq
  have h1:(aU true l 1073741824).2.1=true:=by
   cases hc:(aU true l 1073741824).2.1 with
   |false=>exact absurd (.inl hc) hq
   |true=>rfl
  have h2:(aU true l 1073741824).1<=(aU true l 1073741824).2.2.length:=Nat.le_of_not_lt λ q=>hq (.inr q)
  unfold mq at h
  rw [append_assoc] at h
  obtain ⟨e1,e2⟩:=xf hb hn h h1
  rw [if_neg hq]
  simp only
  rw [e1] at h2⊢
  rcases e2.cut with ⟨r,hr,hs⟩|⟨t,ht,hne⟩
  ·rw [hr]
   exact ⟨by simp,by simpa using hs⟩
  ·exfalso
   have:=congrArg List.length ht
   rw [length_append] at this
   have h3:0<t.length:=length_pos_iff.2 hne
   omega
def iD {S α:Type} (ok:S->Bool) (f:S->α×S):Nat->S->List α×S
 |0,s=>([],s)
 |n+1,s=>if ok s=true then ((f s).1::(iD ok f n (f s).2).1,(iD ok f n (f s).2).2) else ([],s)
section
variable {S α:Type} {ok:S->Bool} {f:S->α×S}
theorem Cu {n:Nat} {s:S} (h:ok s=false):iD ok f n s=([],s):=by
 cases n with
 |zero=>rfl
 |succ n=>rw [iD,if_neg (by rw [h];simp)]
theorem yY {n:Nat} {s:S} (h:ok s=true):iD ok f (n+1) s=((f s).1::(iD ok f n (f s).2).1,(iD ok f n (f s).2).2):=by rw [iD,if_pos h]
end
abbrev RS:=Bool×List Nat
def aT (s:RS):Nat×RS:=aU s.1 s.2 1073741824
def aS (s:RS):ByteArray×RS:=(strOf (jl s.1 s.2).1,(jl s.1 s.2).2)
def tF (s:RS):Pr×RS:=(((aS s).1,(aS (aS s).2).1),(aS (aS s).2).2)
def qk (s:RS):List Pr×RS:=iD Prod.fst tF (aT s).1 (aT s).2
def Bm (s:RS×Nat):kU×(RS×Nat):=
 let a:=aS s.1;let n:=aT a.2;let p:=qk n.2
 ((a.1,(s.2:Int),((s.2+n.1:Nat):Int),p.1),(p.2,s.2+n.1))
def yZ (s:RS×Nat):kU×(RS×Nat):=
 let a:=aS s.1;let n:=aT a.2;let e:=aT n.2;let p:=qk e.2
 ((a.1,((s.2+n.1:Nat):Int),((s.2+n.1+e.1:Nat):Int),p.1),(p.2,s.2+n.1))
def Gp (s:RS):Nd×RS:=
 let a:=aS s;let p:=aT a.2;let b:=aT p.2;let e:=aT b.2
 (⟨a.1,(b.1:Int),((b.1+e.1:Nat):Int),(p.1:Int)-1⟩,e.2)
def Cv (s:RS):(Int×ByteArray)×RS:=((((aT s).1:Int)-1,(aS (aT s).2).1),(aS (aT s).2).2)
def xZ (p:RS×Nat):Bool:=p.1.1
def dI (s:RS) (a:Nat):List kU×(RS×Nat):=iD xZ Bm (aT s).1 ((aT s).2,a)
def dV (s:RS) (a:Nat):List kU×(RS×Nat):=iD xZ yZ (aT s).1 ((aT s).2,a)
def eE (s:RS):List Nd×RS:=iD Prod.fst Gp (aT s).1 (aT s).2
def fH (s:RS):List (Int×ByteArray)×RS:=iD Prod.fst Cv (aT s).1 (aT s).2
structure RB (s:RS):Prop where
 lt:∀ x∈s.2,x<256
 len:s.2.length<=1000000000
theorem RB.nm {s:RS} (h:RB s):RB (aT s).2:=⟨λ x hx=>h.lt x (dK _ _ _ x hx),Nat.le_trans (gG _ _ _) h.len⟩
theorem RB.tx {s:RS} (h:RB s):RB (aS s).2:=⟨λ x hx=>h.lt x ((Ct _ _).1 x hx),Nat.le_trans (Cs _ _).1 h.len⟩
theorem nI {S α:Type} {ok:S->Bool} {f:S->α×S} {Q:S->Prop} (hf:∀ s,Q s->Q (f s).2):∀ (n:Nat) (s:S),Q s->Q (iD ok f n s).2
 |0,s,h=>h
 |n+1,s,h=>by
  rw [iD];split
  ·exact nI hf n _ (hf s h)
  ·exact h
theorem RB.PZ {s:RS} (h:RB s):RB (tF s).2:=h.tx.tx
theorem RB.pr {s:RS} (h:RB s):RB (qk s).2:=nI (Q:=RB) (λ _ h=>h.PZ) _ _ h.nm
theorem RB.dc {s:RS} (h:RB s) (a:Nat):RB (Bm (s,a)).2.1:=h.tx.nm.pr
theorem RB.rg {s:RS} (h:RB s) (a:Nat):RB (yZ (s,a)).2.1:=h.tx.nm.nm.pr
theorem RB.nd {s:RS} (h:RB s):RB (Gp s).2:=h.tx.nm.nm.nm
theorem RB.he {s:RS} (h:RB s):RB (Cv s).2:=h.nm.tx
theorem RB.PD {s:RS} (h:RB s) (a:Nat):RB (dI s a).2.1:=nI (Q:=λ p:RS×Nat=>RB p.1) (λ p h=>h.dc p.2) _ _ h.nm
theorem RB.Q1 {s:RS} (h:RB s) (a:Nat):RB (dV s a).2.1:=nI (Q:=λ p:RS×Nat=>RB p.1) (λ p h=>h.rg p.2) _ _ h.nm
theorem RB.Q3 {s:RS} (h:RB s):RB (eE s).2:=nI (Q:=RB) (λ _ h=>h.nd) _ _ h.nm
theorem ek (s:RS):(aT s).1<=1073741824:=kT _ _ _
theorem nJ {S α:Type} {ok:S->Bool} {f:S->α×S} {n:Nat} {s:S} (h:ok s=true) (hn:0<n):iD ok f n s=((f s).1::(iD ok f (n-1) (f s).2).1,(iD ok f (n-1) (f s).2).2):=by
 obtain ⟨m,rfl⟩:∃ m,n=m+1:=⟨n-1,by omega⟩
 exact yY h
theorem nK {S α:Type} {ok:S->Bool} {f:S->α×S} {n:Nat} {s:S} (h:¬ (0<n/\ok s=true)):iD ok f n s=([],s):=by
 cases n with
 |zero=>rfl
 |succ n=>rw [iD,if_neg λ q=>h ⟨by omega,q⟩]
theorem xg {s:RS} (h:(aS s).2.1=false):aV (aS s).1=[]:=by
 have e:(jl s.1 s.2).1=[]:=by
  have h1:(jl s.1 s.2).2.1=false:=h
  unfold jl at h1⊢
  split
  ·rfl
  ·rename_i hq;rw [if_neg hq] at h1;cases h1
 show aV (strOf (jl s.1 s.2).1)=[]
 rw [e];rfl
theorem Bn (s:RS):(aS s).1.size<=s.2.length:=by
 show (strOf (jl s.1 s.2).1).size<=_
 rw [bX];exact (Cs _ _).2
theorem Jy {s:RS} (h:s.1=false):(aS s).2.1=false:=by
 have e:=Cr (l:=s.2) h
 show (jl s.1 s.2).2.1=false
 rw [e]
def At (X:Bool) (s:RS) (r:List Nat):Prop:=(s.1=true->(∀ y∈s.2,y<256)/\Agr s.2 r)/\(X=true->s=(true,r))
theorem At.off {X:Bool} {s:RS} {r r':List Nat} (h:At X s r) (h0:s.1=false):At X s r':=
 ⟨λ q=>(by rw [h0] at q;cases q),λ q=>(by have:=h.2 q;rw [this] at h0;cases h0)⟩
theorem gU {X:Bool} {s:RS} {r:List Nat} {n:Nat} (h:At X s (uv n++r)) (hn:n<=1073741824):At X (aT s).2 r/\((aT s).2.1=true->s.1=true/\(aT s).1=n):=by
 have hx:X=true->(aT s).2=(true,r):=λ q=>by
  rw [h.2 q];show (aU true (uv n++r) 1073741824).2=_
  rw [gd (by omega) hn]
 obtain ⟨ok,l⟩:=s
 cases ok with
 |false=>
  have e:aT (false,l)=(0,false,l):=tE rfl
  rw [e] at hx⊢;exact ⟨⟨λ q=>(by cases q),hx⟩,λ q=>(by cases q)⟩
 |true=>
  obtain ⟨hb,ha⟩:=h.1 rfl
  exact ⟨⟨λ q=>⟨λ y hy=>hb y (dK _ _ _ y hy),(xf hb hn ha q).2⟩,hx⟩,λ q=>⟨rfl,(xf hb hn ha q).1⟩⟩
theorem gq (a:ByteArray):strOf (aV a)=a:=by
 apply uf
 unfold aV strOf
 simp only [map_map,toList_toArray]
 rw [show (λ b:UInt8=>b.toNat)∘(λ n=>UInt8.ofNat n)∘(λ b:UInt8=>b.toNat)=λ b=>b.toNat from by
  funext b;show (UInt8.ofNat b.toNat).toNat=b.toNat;rw [UInt8.ofNat_toNat]]
theorem Mg {m r:List Nat} (hn:m.length<=1073741824):jl true (mq m++r)=(m,true,r):=by
 unfold mq jl
 rw [append_assoc,gd (by omega) hn,if_neg (show ¬ (true=false\/(m++r).length<m.length) from λ q=>by rcases q with q|q;cases q;rw [length_append] at q;omega)]
 simp
theorem xh {X:Bool} {s:RS} {r m:List Nat} (h:At X s (mq m++r)) (hn:m.length<=1073741824):At X (jl s.1 s.2).2 r/\((jl s.1 s.2).2.1=true->s.1=true/\(jl s.1 s.2).1=m):=by
 have hx:X=true->(jl s.1 s.2).2=(true,r):=λ q=>by
  rw [h.2 q];show (jl true (mq m++r)).2=_
  rw [Mg hn]
 obtain ⟨ok,l⟩:=s
 cases ok with
 |false=>
  have e:jl false l=([],false,l):=Cr rfl
  show At X (jl false l).2 r/\((jl false l).2.1=true->false=true/\(jl false l).1=m)
  replace hx:X=true->(jl false l).2=(true,r):=hx
  rw [e] at hx⊢;exact ⟨⟨λ q=>(by cases q),hx⟩,λ q=>(by cases q)⟩
 |true=>
  obtain ⟨hb,ha⟩:=h.1 rfl
  exact ⟨⟨λ q=>⟨λ y hy=>hb y ((Ct _ _).1 y hy),(Gn hb hn ha q).2⟩,hx⟩,λ q=>⟨rfl,(Gn hb hn ha q).1⟩⟩
theorem tG {X:Bool} {s:RS} {r:List Nat} {a:ByteArray} (h:At X s (dq a++r)) (hn:a.size<=1073741824):At X (aS s).2 r/\((aS s).2.1=true->s.1=true/\(aS s).1=a):=by
 have e:dq a=mq (aV a):=by unfold dq mq;rw [az]
 rw [e] at h
 obtain ⟨h1,h2⟩:=xh h (by rw [az];exact hn)
 refine ⟨h1,λ q=> ?_⟩
 obtain ⟨a1,a2⟩:=h2 q
 refine ⟨a1,?_⟩
 show strOf (jl s.1 s.2).1=a
 rw [a2,gq]
theorem pn {S α β:Type} {ok:S->Bool} {f:S->α×S} {val:α->β} {okb:β->Prop} {G:List β->S->Prop} (h0:∀ s l,ok s=false->G l s->G [] s) (hf:∀ s x l,okb x->G (x::l) s->G l (f s).2/\(ok (f s).2=true->ok s=true/\val (f s).1=x)):∀ (xs:List β) (s:S),(∀ x∈xs,okb x)->G xs s->G [] (iD ok f xs.length s).2/\(ok (iD ok f xs.length s).2=true->ok s=true/\(iD ok f xs.length s).1.map val=xs)
 |[],s,_,h=>⟨h,λ q=>⟨q,rfl⟩⟩
 |x::xs,s,hx,h=>by
  rw [length_cons]
  cases ho:ok s with
  |false=>rw [Cu ho];exact ⟨h0 s _ ho h,λ q=>(by rw [ho] at q;cases q)⟩
  |true=>
   rw [yY ho]
   obtain ⟨g1,g2⟩:=hf s x xs (hx x (by simp)) h
   obtain ⟨k1,k2⟩:=pn h0 hf xs (f s).2 (λ y hy=>hx y (by simp [hy])) g1
   refine ⟨k1,λ q=>⟨rfl,?_⟩⟩
   obtain ⟨q1,q2⟩:=k2 q
   show ((f s).1::(iD ok f xs.length (f s).2).1).map val=_
   rw [map_cons,(g2 q1).2,q2]
theorem tH {S α β:Type} {ok:S->Bool} {f:S->α×S} {val:α->β} {G:List β->S->Prop} (h0:∀ s l,ok s=false->G l s->G [] s) {xs:List β} {m:Nat} {s:S} (hm:ok s=true->m=xs.length) (hG:G xs s) (h:G [] (iD ok f xs.length s).2/\(ok (iD ok f xs.length s).2=true->ok s=true/\(iD ok f xs.length s).1.map val=xs)):G [] (iD ok f m s).2/\(ok (iD ok f m s).2=true->ok s=true/\(iD ok f m s).1.map val=xs):=by
 cases ho:ok s with
 |false=>rw [Cu ho];exact ⟨h0 s _ ho hG,λ q=>(by rw [ho] at q;cases q)⟩
 |true=>rw [hm ho];exact ⟨h.1,λ q=>⟨rfl,(h.2 q).2⟩⟩
def Pq (p:Pr):Prop:=p.1.size<=1073741824/\p.2.size<=1073741824
theorem L9 {X:Bool} {s:RS} {r:List Nat} {ps:List Pr} (h:At X s (rU ps++r)) (hl:ps.length<=1073741824) (hs:∀ p∈ps,Pq p):At X (qk s).2 r/\((qk s).2.1=true->s.1=true/\(qk s).1=ps):=by
 unfold rU at h
 rw [append_assoc] at h
 obtain ⟨h1,h2⟩:=gU h hl
 let G:List Pr->RS->Prop:=λ l s=>At X s ((l.flatMap λ p:Pr=>dq p.1++dq p.2)++r)
 have h0:∀ (s:RS) (l:List Pr),s.1=false->G l s->G [] s:=λ s l q g=>At.off g q
 have key:=tH (f:=tF) (val:=id) (G:=G) h0 (m:=(aT s).1) (λ q=>(h2 q).2) h1 (pn (ok:=Prod.fst) (f:=tF) (val:=id) (okb:=Pq) h0 (λ s x l hx g=>by
  have g':At X s (dq x.1++(dq x.2++((l.flatMap λ p:Pr=>dq p.1++dq p.2)++r))):=by
   have e:((x::l).flatMap λ p:Pr=>dq p.1++dq p.2)++r=dq x.1++(dq x.2++((l.flatMap λ p:Pr=>dq p.1++dq p.2)++r)):=by rw [flatMap_cons];simp only [append_assoc]
   rw [<-e];exact g
  obtain ⟨a1,a2⟩:=tG g' hx.1
  obtain ⟨b1,b2⟩:=tG a1 hx.2
  refine ⟨b1,λ q=> ?_⟩
  obtain ⟨c1,c2⟩:=b2 q
  obtain ⟨d1,d2⟩:=a2 c1
  exact ⟨d1,Prod.ext d2 c2⟩) ps (aT s).2 hs h1)
 refine ⟨key.1,λ q=> ?_⟩
 obtain ⟨k1,k2⟩:=key.2 q
 exact ⟨(h2 k1).1,by rw [map_id] at k2;exact k2⟩
theorem v4 {x y:Iv} (h:x.v=y.v):x.nm=y.nm/\x.b=y.b/\x.e=y.e/\x.ps=y.ps:=
 ⟨congrArg (λ q:kU=>q.1) h,congrArg (λ q:kU=>q.2.1) h,congrArg (λ q:kU=>q.2.2.1) h,congrArg (λ q:kU=>q.2.2.2) h⟩
theorem nL {l m:List Iv} (h:l.map Iv.v=m.map Iv.v) {i:Nat} {x:Iv} (hx:m[i]? =some x):∃ y,l[i]? =some y/\y.v=x.v:=by
 have e:=congrArg (·[i]?) h
 simp only [getElem?_map,hx,Option.map_some] at e
 cases hy:l[i]? with
 |none=>rw [hy] at e;cases e
 |some y=>rw [hy] at e;exact ⟨y,rfl,Option.some.inj e⟩
theorem vT {l m:List Iv} (h:l.map Iv.v=m.map Iv.v) {x:Iv} (hx:x∈m):∃ y,y∈l/\y.v=x.v:=by
 obtain ⟨i,hi⟩:=getElem?_of_mem hx
 obtain ⟨y,hy,e⟩:=nL h hi
 exact ⟨y,mem_of_getElem? hy,e⟩
theorem Cw {l m:List Iv} (h:l.map Iv.v=m.map Iv.v):l.length=m.length:=by simpa using congrArg List.length h
theorem Mh {x y p q:Iv} (h:x.v=p.v) (k:y.v=q.v):ea x y=ea p q:=by
 obtain ⟨h1,h2,h3,h4⟩:=v4 h
 obtain ⟨k1,k2,k3,k4⟩:=v4 k
 unfold ea
 rw [h1,h2,h3,h4,k1,k2,k3,k4]
theorem La {l m:List Iv} (h:l.map Iv.v=m.map Iv.v) {b e:Int} (hi:inT l b e):inT m b e:=by
 obtain ⟨t,ht,h1⟩:=hi
 obtain ⟨y,hy,e1⟩:=vT h.symm ht
 obtain ⟨_,e2,e3,_⟩:=v4 e1
 exact ⟨y,hy,by rw [e2,e3];exact h1⟩
theorem Mi {n:Int} {l m:List Iv} (h:l.map Iv.v=m.map Iv.v) (k:okTx n l):okTx n m where
 nm x hx:=by
  obtain ⟨y,hy,e⟩:=vT h hx
  obtain ⟨e1,e2,e3,e4⟩:=v4 e
  have:=k.nm y hy
  rwa [e1,e2,e3,e4] at this
 nd i j x y hx hy hij:=by
  obtain ⟨x',hx',ex⟩:=nL h hx
  obtain ⟨y',hy',ey⟩:=nL h hy
  rw [<-(v4 ex).1,<-(v4 ey).1]
  exact k.nd i j x' y' hx' hy' hij
 first x hx:=by
  obtain ⟨x',hx',ex⟩:=nL h hx
  rw [<-(v4 ex).2.1];exact k.first x' hx'
 next i x y hx hy:=by
  obtain ⟨x',hx',ex⟩:=nL h hx
  obtain ⟨y',hy',ey⟩:=nL h hy
  rw [<-(v4 ex).2.2.1,<-(v4 ey).2.1]
  exact k.next i x' y' hx' hy'
 last i x hx hi:=by
  obtain ⟨x',hx',ex⟩:=nL h hx
  rw [<-(v4 ex).2.2.1];exact k.last i x' hx' (by rw [Cw h];exact hi)
 none_:=by
  rw [<-k.none_,<-length_eq_zero_iff,<-length_eq_zero_iff,Cw h]
theorem O0 {x y p q:Iv} (h:x.v=p.v) (k:y.v=q.v) (hn:noX x y):noX p q:=by
 obtain ⟨h1,h2,h3,_⟩:=v4 h
 obtain ⟨k1,k2,k3,_⟩:=v4 k
 unfold noX at hn⊢
 rw [h1,h2,h3,k1,k2,k3] at hn
 exact hn
theorem OkC.KO {k:Nat} {c d:Co} (h:OkC k c) (e:c.v=d.v):OkC k d:=by
 have eA:c.at_=d.at_:=congrArg mu.at_ e
 have eT:c.tk.map (·.ns)=d.tk.map (·.ns):=congrArg mu.tk e
 have eX:c.tx.map Iv.v=d.tx.map Iv.v:=congrArg mu.tx e
 have eR:c.rg.map Iv.v=d.rg.map Iv.v:=congrArg mu.rg e
 have eN:c.nd=d.nd:=congrArg mu.nd e
 have eH:c.hd=d.hd:=congrArg mu.hd e
 have eL:c.rl=d.rl:=congrArg mu.rl e
 have eTl:c.tk.length=d.tk.length:=by simpa using congrArg List.length eT
 refine ⟨eA▸h.at_,λ t ht=> ?_,eTl▸Mi eX h.tx,⟨λ x hx=> ?_,λ i x y hx hy=> ?_,λ x hx y hy=> ?_⟩,⟨λ x hx=> ?_,eN▸h.nd.par,eN▸h.nd.sib⟩,?_,by rw [<-eTl];exact h.ntk,by rw [<-Cw eX];exact h.ntx,by rw [<-Cw eR];exact h.nrg,by rw [<-eN];exact h.nnd⟩
 ·have hm:t.ns∈c.tk.map (·.ns):=by rw [eT];exact mem_map_of_mem ht
  obtain ⟨u,hu,e1⟩:=mem_map.1 hm
  have:=h.tk u hu
  rw [e1] at this
  rw [<-eA];exact this
 ·obtain ⟨y,hy,e1⟩:=vT eR hx
  obtain ⟨a1,a2,a3,a4⟩:=v4 e1
  obtain ⟨b1,b2,b3⟩:=h.rg.el y hy
  rw [a1] at b1;rw [a4] at b3;rw [a2,a3] at b2
  exact ⟨b1,La eX b2,b3⟩
 ·obtain ⟨x',hx',ex⟩:=nL eR hx
  obtain ⟨y',hy',ey⟩:=nL eR hy
  rw [<-Mh ex ey]
  exact h.rg.asc i x' y' hx' hy'
 ·obtain ⟨x',hx',ex⟩:=vT eR hx
  obtain ⟨y',hy',ey⟩:=vT eR hy
  exact O0 ex ey (h.rg.nox x' hx' y' hy')
 ·have:=h.nd.el x (by rw [eN];exact hx)
  exact ⟨this.1,La eX this.2⟩
 ·rcases h.hd with ⟨a,b⟩|a
  ·exact .inl ⟨eH▸a,eL▸b⟩
  ·refine .inr ⟨by rw [<-eTl,<-eH,<-eL];exact a.len,eH▸eL▸a.bare,λ i x hx=> ?_,eL▸a.nm,eH▸a.rk⟩
   rcases a.el i x (by rw [eH];exact hx) with q|⟨t,ht,q⟩
   ·exact .inl q
   ·obtain ⟨y,hy,e1⟩:=vT eX.symm ht
    obtain ⟨_,a2,a3,_⟩:=v4 e1
    exact .inr ⟨y,hy,by rw [a2,a3];exact q⟩
theorem dd {l:List Nat} (h:∀ x∈l,x<256):aV (strOf l)=l:=by
 unfold aV strOf
 simp only [map_map,toList_toArray]
 rw [map_congr_left (g:=id) (λ x hx=>by
  show (UInt8.ofNat x).toNat=x
  rw [UInt8.toNat_ofNat'];exact Nat.mod_eq_of_lt (h x hx)),map_id]
theorem po {l:List Nat} (h:∀ x∈l,x<256):dq (strOf l)=mq l:=by
 unfold dq mq
 rw [dd h,bX]
theorem rG {α:Type} {f:α->List Nat} {l:List α} {k:Nat} {x:α} (hx:l[k]? =some x):(l.take (k+1)).flatMap f=(l.take k).flatMap f++f x:=by rw [au hx,flatMap_append];simp
theorem tI {α:Type} {f:α->List Nat} {B:Nat}:∀ (l:List α),(∀ x∈l,(f x).length<=B)->(l.flatMap f).length<=B*l.length
 |[],_=>by simp
 |x::l,h=>by
  have h1:=h x (by simp)
  have h2:=tI l λ y hy=>h y (by simp [hy])
  rw [flatMap_cons,length_append,length_cons,Nat.mul_succ];omega
theorem Cx {f:Nat->List Nat} (k:Nat):(List.range (k+1)).flatMap f=(List.range k).flatMap f++f k:=by rw [range_succ,flatMap_append];simp
theorem cR (s:ByteArray):(dq s).length<=s.size+10:=by unfold dq;have:=aN s.size;rw [length_append,az];omega
theorem Jz {ps:List Pr} (h:okPs ps) {k:Nat} {p:Pr} (hp:ps[k]? =some p):p.1.size<=32/\p.2.size<=120:=by
 have h1:=h.2.1 p (mem_of_getElem? hp)
 exact ⟨bJ h1.1,ie h1.2⟩
theorem rH {ps:List Pr} (h:okPs ps):(rU ps).length<=1600:=by
 have h1:=tI (f:=λ p:Pr=>dq p.1++dq p.2) (B:=172) ps λ p hp=>by
  have h2:=h.2.1 p hp
  have h3:=bJ h2.1;have h4:=ie h2.2
  have h5:=cR p.1;have h6:=cR p.2
  rw [length_append];omega
 have h7:=aN ps.length
 have h8:=h.1
 unfold rU
 rw [length_append]
 have h9:172*ps.length<=172*8:=Nat.mul_le_mul_left _ h8
 omega
theorem OkC.I5 {n:Nat} {c:Co} (h:OkC n c) (hn:n<=3):c.hd.length=c.rl.length/\c.hd.length<=36:=by
 rcases h.hd with ⟨a,b⟩|a
 ·rw [a,b];exact ⟨rfl,Nat.zero_le _⟩
 ·have:=a.len;have:=h.ntk;omega
theorem OkC.PC {n:Nat} {c:Co} (h:OkC n c) (hn:n<=3) {k:Nat} {x:Int} {s:ByteArray} (hx:c.hd[k]? =some x) (hs:c.rl[k]? =some s): -1<=x/\x<=36/\s.size<=32:=by
 have hk:=h.ntk
 rcases h.hd with ⟨a,b⟩|a
 ·rw [a] at hx;simp at hx
 ·have q2:=a.nm s (mem_of_getElem? hs)
  have q3:s.size<=32:=by
   rcases q2 with e|e
   ·rw [e];exact Nat.zero_le _
   ·exact bJ e
  rcases a.el k x hx with e|⟨t,ht,e⟩
  ·exact ⟨by omega,by omega,q3⟩
  ·have:=h.tx.nm t ht
   exact ⟨by omega,by omega,q3⟩
theorem JA {α β:Type} {l:List α} {m:List β} {k:Nat} {x:α} {y:β} (hx:l[k]? =some x) (hy:m[k]? =some y):(l.zip m)[k]? =some (x,y):=by rw [getElem?_zip_eq_some];exact ⟨hx,hy⟩
def Gq (nd:List Nd) (hd:List Int) (rl:List ByteArray):List Nat:=uv nd.length++(nd.flatMap uh++(uv hd.length++(hd.zip rl).flatMap pO))
def fU (c:Co) (a:Nat):List ByteArray:=c.tk.map λ t=>t.ns.getD a ByteArray.empty
theorem Gr:∀ {vs:List ByteArray},(∀ v∈vs,v.size<=120/\db v=true)->jt vs=0
 |[],_=>rfl
 |v::r,h=>by
  have h1:=h v (by simp)
  unfold jt
  rw [if_neg (by omega),if_neg (by rw [h1.2];simp),Gr λ x hx=>h x (by simp [hx])]
theorem Bo {s:ByteArray} (h:j5 s=true):db s=true:=by
 unfold j5 at h
 simp only [Bool.and_eq_true] at h
 exact h.2.1
theorem z8 {n:Nat} {c:Co} (h:OkC n c) {a:Nat} (ha:a<c.at_.length) {v:ByteArray} (hv:v∈fU c a):v.size<=120/\db v=true:=by
 obtain ⟨t,ht,rfl⟩:=mem_map.1 hv
 have q:=h.tk t ht
 rw [getD_eq_getElem?_getD,getElem?_eq_getElem (by omega:a<t.ns.length)]
 have:=(q.2 a _ _ (getElem?_eq_getElem (by omega:a<t.ns.length)) (getElem?_eq_getElem ha)).val
 exact ⟨ie this,Bo this⟩
theorem nM (c:Co) (a:Nat):(fU c a).length=c.tk.length:=by unfold fU;rw [length_map]
theorem xj {n:Nat} {c:Co} (h:OkC n c) (hn:n<=3) {a:Nat} (ha:a<c.at_.length):j2 (fU c a)=0/\xI (fU c a):=by
 have h1:=h.ntk
 have h2:=nM c a
 have h3:=bZ (fU c a)
 refine ⟨?_,by omega,λ v hv=>(z8 h ha hv).1⟩
 unfold j2
 rw [if_neg (by omega),Gr λ v hv=>z8 h ha hv,if_neg (by simp),if_neg (by omega)]
theorem Ed {c:Co} {a k:Nat} {t:Tk} {v:ByteArray} (ht:c.tk[k]? =some t) (hv:t.ns[a]? =some v):(c.tk.take (k+1)).map (λ t=>t.ns.getD a ByteArray.empty)=(c.tk.take k).map (λ t=>t.ns.getD a ByteArray.empty)++[v]:=by
 rw [au ht,map_append,map_singleton,getD_eq_getElem?_getD,hv,Option.getD_some]
theorem Bp (c:Co) (a:Nat):(c.v.tk.map λ t=>t.getD a ByteArray.empty)=fU c a:=by
 show (c.tk.map (·.ns)).map (λ t=>t.getD a ByteArray.empty)=_
 rw [map_map];rfl
theorem Gs {ns:List Nat} {S:List (SV×List Nat)} {m k x:Nat} {p:SV×List Nat} {sv:SV} (hx:ns[k]? =some x) (hS:S.map Prod.snd=(List.range m).map (dy (ns.take k))) (hp:S[x]? =some p):(S.set x (sv,p.2++[k])).map Prod.snd=(List.range m).map (dy (ns.take (k+1))):=by
 have hk:k<ns.length:=(List.getElem?_eq_some_iff.1 hx).1
 have hl:S.length=m:=by simpa using congrArg List.length hS
 have hxm:x<m:=by have:=(List.getElem?_eq_some_iff.1 hp).1;omega
 have e:∀ j,j<m->(S.map Prod.snd)[j]? =some (dy (ns.take k) j):=λ j hj=>by rw [hS];simp [hj]
 have e0:p.2=dy (ns.take k) x:=by have:=e x hxm;rw [getElem?_map,hp] at this;exact Option.some.inj this
 apply ext_getElem?
 intro j
 rw [map_set,getElem?_set]
 have hsn:ns.take (k+1)=ns.take k++[x]:=au hx
 have hlt:(ns.take k).length=k:=by rw [length_take];omega
 by_cases hj:j<m
 ·rw [show ((List.range m).map (dy (ns.take (k+1))))[j]? =some (dy (ns.take (k+1)) j) by simp [hj],hsn,EF,hlt]
  by_cases hxj:x=j
  ·subst hxj;rw [if_pos rfl,if_pos (by rw [length_map];omega),if_pos rfl,e0]
  ·rw [if_neg hxj,if_neg hxj];exact e j hj
 ·have e2:((List.range m).map (dy (ns.take (k+1))))[j]? =none:=getElem?_eq_none (by simp;omega)
  have e3:(S.map Prod.snd)[j]? =none:=getElem?_eq_none (by rw [length_map];omega)
  rw [e2,if_neg (show ¬ x=j by omega)]
  exact e3
theorem Cy {ns:List Nat} {S:List (SV×List Nat)} {m k:Nat} {p:SV×List Nat} (hS:S.map Prod.snd=(List.range m).map (dy ns)) (hp:S[k]? =some p):p.2=dy ns k/\k<m:=by
 have hl:S.length=m:=by simpa using congrArg List.length hS
 have hk:k<m:=by have:=(List.getElem?_eq_some_iff.1 hp).1;omega
 have h1:(S.map Prod.snd)[k]? =some (dy ns k):=by rw [hS];simp [hk]
 rw [getElem?_map,hp] at h1
 exact ⟨Option.some.inj h1,hk⟩
theorem Cz {l:List Iv} {k:Nat} {x:Iv} (hx:l[k]? =some x):fD 0 ((l.take (k+1)).map Iv.v)=fD 0 ((l.take k).map Iv.v)++Ll (MB 0 ((l.take k).map Iv.v)) x.v/\MB 0 ((l.take (k+1)).map Iv.v)=x.b:=by
 rw [au hx,map_append,map_singleton,wx]
 exact ⟨rfl,by unfold MB;rw [foldl_append];rfl⟩
def Gu (l:List Nat) (n W:Nat):List Nat:=(List.range' n (W-n)).flatMap λ n=>mq (aE (oy (dy l n)))
theorem Gv {l:List Nat} {n W:Nat} (h:n<W):Gu l n W=mq (aE (oy (dy l n)))++Gu l (n+1) W:=by
 unfold Gu
 rw [show W-n=(W-(n+1))+1 by omega,range'_succ,flatMap_cons]
theorem JB {l:List Nat} {n W:Nat} (h:W<=n):Gu l n W=[]:=by unfold Gu;rw [show W-n=0 by omega];rfl
theorem Gw (l:List Nat) (W:Nat):Gu l 0 W=xG l W:=by unfold Gu xG;rw [range_eq_range'];rfl
def iE (c:Co) (k i:Nat):List (List ByteArray):=((c.tk.take i).map λ t=>t.ns.take (k+1))++((c.tk.drop i).map λ t=>t.ns.take k)
theorem Bq (c:Co) (k:Nat):iE c k 0=c.tk.map λ t=>t.ns.take k:=by simp [iE]
theorem vU (c:Co) (k i:Nat):(iE c k i).length=c.tk.length:=by unfold iE;simp;omega
theorem Ee {n:Nat} {c:Co} (h:OkC n c) {k i j:Nat} {x:List ByteArray} (hx:(iE c k i)[j]? =some x):x.length<=100:=by
 have h1:=h.at_.2
 have hm:=mem_of_getElem? hx
 unfold iE at hm
 rcases mem_append.1 hm with q|q
 ·obtain ⟨t,ht,rfl⟩:=mem_map.1 q
  have:=(h.tk t (mem_of_mem_take ht)).1
  rw [length_take];omega
 ·obtain ⟨t,ht,rfl⟩:=mem_map.1 q
  have:=(h.tk t (mem_of_mem_drop ht)).1
  rw [length_take];omega
theorem Ef {c:Co} {k i:Nat} (h:c.tk.length<=i):iE c k i=c.tk.map λ t=>t.ns.take (k+1):=by
 unfold iE;rw [take_of_length_le h,drop_of_length_le h];simp
theorem O1 {c:Co} {m k:Nat} (hm:m=c.tk.length) (hk:k=0):(List.replicate m ((⟨none,0,0⟩:SV),([]:List ByteArray))).map Prod.snd=c.tk.map λ t=>t.ns.take k:=by
 subst hm;subst hk
 simp only [map_replicate,take_zero]
 rw [map_const']
theorem Gx {c:Co} {S:List (SV×List ByteArray)} {k i:Nat} {p:SV×List ByteArray} {sv:SV} {v:ByteArray} (hS:S.map Prod.snd=iE c k i) (hp:S[i]? =some p) (hv:(fU c k)[i]? =some v) (hk:∀ t∈c.tk,k<t.ns.length):(S.set i (sv,p.2++[v])).map Prod.snd=iE c k (i+1):=by
 have hl:S.length=c.tk.length:=by have:=congrArg List.length hS;rwa [length_map,vU] at this
 have hi:i<c.tk.length:=by have:=(List.getElem?_eq_some_iff.1 hp).1;omega
 obtain ⟨t,ht⟩:∃ t,c.tk[i]? =some t:=⟨_,getElem?_eq_getElem hi⟩
 have hkt:=hk t (mem_of_getElem? ht)
 have hvt:t.ns[k]? =some v:=by
  unfold fU at hv
  rw [getElem?_map,ht] at hv
  have h9:t.ns.getD k ByteArray.empty=v:=Option.some.inj hv
  rw [getD_eq_getElem?_getD,getElem?_eq_getElem hkt,Option.getD_some] at h9
  rw [getElem?_eq_getElem hkt,h9]
 have h1:(S.map Prod.snd)[i]? =some (t.ns.take k):=by
  rw [hS];unfold iE
  rw [getElem?_append_right (by simp;omega)]
  simp only [length_map,length_take]
  rw [show i-min i c.tk.length=0 by omega,getElem?_map,getElem?_drop,Nat.add_zero,ht];rfl
 have h2:p.2=t.ns.take k:=by rw [getElem?_map,hp] at h1;exact Option.some.inj h1
 rw [map_set,h2,hS]
 unfold iE
 have e1:c.tk.drop i=t::c.tk.drop (i+1):=by
  rw [drop_eq_getElem_cons hi];congr 1
  exact (List.getElem?_eq_some_iff.1 ht).2
 have hln:((c.tk.take i).map λ t=>t.ns.take (k+1)).length=i:=by simp;omega
 rw [e1,au ht,map_cons,map_append,map_singleton,append_assoc,set_append_right _ _ (by omega),hln,Nat.sub_self,au hvt]
 rfl
def B8 (l:List Nat):Prop:=∀ x∈l,x<256
theorem B8.app {l m:List Nat} (h:B8 l) (k:B8 m):B8 (l++m):=λ x hx=>(mem_append.1 hx).elim (h x) (k x)
theorem B8.fm {α:Type} {f:α->List Nat} {l:List α} (h:∀ x∈l,B8 (f x)):B8 (l.flatMap f):=λ y hy=>by
 obtain ⟨x,hx,hy⟩:=mem_flatMap.1 hy
 exact h x hx y hy
theorem fM (n:Nat):B8 (uv n):=cN n
theorem tJ (s:ByteArray):B8 (dq s):=(fM _).app (fQ s)
theorem Gy {l:List Nat} (h:B8 l):B8 (mq l):=(fM _).app h
theorem Lb (ps:List Pr):B8 (rU ps):=(fM _).app (B8.fm λ p _=>(tJ _).app (tJ _))
theorem gV {l:List Nat} (h:B8 l):B8 (aE l):=h.app (ot _)
theorem Gz:∀ (l:List kU) (z:Int),B8 (fD z l)
 |[],_=>λ x hx=>by cases hx
 |x::l,z=>((tJ _).app ((fM _).app ((fM _).app (Lb _)))).app (Gz l _)
theorem Mj {X:List ByteArray->List Nat} {T:List Nat->List Nat} (hX:∀ u,B8 (X u)) (hT:∀ l,B8 (T l)) (a:ByteArray×Bool) (vs:List ByteArray):B8 (kd X T a vs):=
 (tJ _).app ((fM _).app ((Gy (hX _)).app ((Gy (hT _)).app (B8.fm λ n _=>Gy (gV (kc _))))))
theorem tK {X:List ByteArray->List Nat} {T:List Nat->List Nat} (hX:∀ u,B8 (X u)) (hT:∀ l,B8 (T l)) (c:mu):B8 (di X T c):=by
 refine B8.app (λ x hx=> ?_) ((fM _).app ((B8.fm λ i _=>Mj hX hT _ _).app ((fM _).app ((B8.fm λ x _=>(tJ _).app ((fM _).app (Lb _))).app ((fM _).app ((Gz _ _).app ((fM _).app ((B8.fm λ x _=>(tJ _).app ((fM _).app ((fM _).app (fM _)))).app ((fM _).app (B8.fm λ x _=>(fM _).app (tJ _)))))))))))
 simp only [mem_cons,not_mem_nil,or_false] at hx
 omega
theorem JC {ns:List Nat} (h:ns.length<=4096) (k:Nat):(xG ns k).length<=40020*k:=by
 have:=tI (f:=λ n=>mq (aE (oy (dy ns n)))) (B:=40020) (List.range k) λ n _=>by
  have h1:=jh (ia n h)
  have h2:=aN (aE (oy (dy ns n))).length
  unfold mq
  rw [length_append,aY] at*
  omega
 rwa [length_range] at this
theorem Lc:∀ {l:List kU} {z:Int} {k:Nat} {x:kU},Lm z l->l[k]? =some x->MB z (l.take k)<=x.2.1
 |[],_,_,_,_,h=>by simp at h
 |y::l,z,0,x,h,hx=>by
  have e:y=x:=by simpa using hx
  subst e;exact h.1
 |y::l,z,k+1,x,h,hx=>Lc (l:=l) (z:=y.2.1) (k:=k) h.2 (by simpa using hx)
theorem Eg {X:List ByteArray->List Nat} {T:List Nat->List Nat} {c:Co} {k:Nat} {x:ByteArray×Bool} (hx:c.at_[k]? =some x):ib X T c.v.at_ c.v.tk (k+1)=ib X T c.v.at_ c.v.tk k++kd X T x (fU c k):=by
 unfold ib
 rw [Cx,Bp,show c.v.at_.getD k (ByteArray.empty,false)=x by rw [getD_eq_getElem?_getD,show c.v.at_=c.at_ from rfl,hx];rfl]
theorem rI (X:List ByteArray->List Nat) (T:List Nat->List Nat) (c:Co):di X T c.v=[67,83,49]++(uv c.at_.length++(ib X T c.v.at_ c.v.tk c.at_.length++(uv c.tx.length++(c.tx.flatMap (λ x=>ic x.v)++(uv c.rg.length++(fD 0 (c.rg.map Iv.v)++Gq c.nd c.hd c.rl)))))):=by
 have e1:c.v.tx.length=c.tx.length:=length_map ..
 have e2:c.v.rg.length=c.rg.length:=length_map ..
 have e3:c.v.tx.flatMap ic=c.tx.flatMap λ x=>ic x.v:=flatMap_map ..
 unfold di Gq
 rw [e1,e2,e3];rfl
theorem CA {bf:Int} {x:kU} (h:x.1.size<=32) (hp:okPs x.2.2.2):(Ll bf x).length<=2000:=by
 have h1:=cR x.1;have h2:=rH hp;have h3:=aN (x.2.1-bf).toNat;have h4:=aN (x.2.2.1-x.2.1).toNat
 unfold Ll;simp only [length_append];omega
theorem CC {x:kU} (h:x.1.size<=32) (hp:okPs x.2.2.2):(ic x).length<=2000:=by
 have h1:=cR x.1;have h2:=rH hp;have h4:=aN (x.2.2.1-x.2.1).toNat
 unfold ic;simp only [length_append];omega
theorem CD {n:Nat} {c:Co} (h:OkC n c) (hn:n<=3):(Gq c.nd c.hd c.rl).length<=100000:=by
 have h1:=tI (f:=uh) (B:=80) c.nd λ x hx=>by
  have h2:=bJ (h.nd.el x hx).1;have h3:=cR x.nm
  have h4:=aN (x.p+1).toNat;have h5:=aN x.b.toNat;have h6:=aN (x.e-x.b).toNat
  unfold uh;simp only [length_append];omega
 have h2:=tI (f:=pO) (B:=80) (c.hd.zip c.rl) λ x hx=>by
  obtain ⟨i,hi⟩:=getElem?_of_mem hx
  rw [getElem?_zip_eq_some] at hi
  have h3:=(h.PC hn hi.1 hi.2).2.2
  have h4:=cR x.2;have h5:=aN (x.1+1).toNat
  unfold pO;simp only [length_append];omega
 have h3:=h.nnd;have h4:=h.I5 hn;have h5:=aN c.nd.length;have h6:=aN c.hd.length
 rw [length_zip] at h2
 unfold Gq;simp only [length_append]
 omega
end Go.Kw
