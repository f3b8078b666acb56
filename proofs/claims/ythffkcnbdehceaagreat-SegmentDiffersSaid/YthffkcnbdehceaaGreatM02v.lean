/-
 M02V:what is read as a number with no error is the number's encoding. No program in sight.
-/
import Derived.Test.YthffkcnbdehceaaGreatM14d
import Derived.Test.YthffkcnbdehceaaGreatKm
import Derived.Test.YthffkcnbdehceaaGreatKd
set_option linter.unusedVariables false
set_option linter.unusedSimpArgs false
set_option linter.unusedSectionVars false
namespace Go.Kw
theorem JQ:∀ c,c<128->∀ b,b<2->((c+128*b)|||128)=c+128:=by decide+kernel
theorem Aq:∀ (l:List Nat) (i v x k:Nat),(∀ y∈l,y<256)->i<=9->y8 i v l=(x,k,0)->∃ y rest,l=mL (9-i) y++rest/\x=v+y*2^(7*i)/\k=i+(mL (9-i) y).length/\(0<i->0<y)/\(y<2^(64-7*i))
 |[],i,v,x,k,_,_,h=>by simp [y8] at h
 |c::r,i,v,x,k,hb,hi,h=>by
  have hc:c<256:=hb c (List.mem_cons_self ..)
  rw [y8] at h
  split at h
  ·simp at h
  ·rename_i h9
   split at h
   ·rename_i h128
    split at h
    ·simp at h
    ·rename_i h0
     simp only [Prod.mk.injEq,and_true] at h
     have hm:c%2^7=c:=Nat.mod_eq_of_lt (by omega)
     have hf:∀ f,mL f c=[c%2^8]:=λ f=>by unfold mL;cases f<;>simp [h128]
     have h8:c%2^8=c:=Nat.mod_eq_of_lt (by omega)
     refine ⟨c,r,by rw [hf,h8];rfl,by rw [<-h.1,hm],by rw [hf,<-h.2];rfl,λ hp=>by omega,?_⟩
     by_cases e:i=9
     ·have:c=1:=Classical.byContradiction λ hne=>h9 ⟨e,hne⟩
      subst e;subst this;decide
     ·have h2:2^7<=2^(64-7*i):=Nat.pow_le_pow_right (by decide) (by omega)
      omega
   ·rename_i h128
    have hi9:i<9:=by
     rcases Nat.lt_or_ge i 9 with h'|h'
     ·exact h'
     ·exact absurd ⟨by omega,by omega⟩ h9
    obtain ⟨y,rest,e1,e2,e3,e4,e5⟩:=Aq r (i+1) _ x k (λ y hy=>hb y (List.mem_cons_of_mem _ hy)) (by omega) h
    have hy0:=e4 (by omega)
    have hcm:c%2^7=c-128:=by omega
    have hbig:¬ (c-128+128*y)<128:=by omega
    have hfu:mL (9-i) (c-128+128*y)=c::mL (9-(i+1)) y:=by
     rw [show 9-i=(9-(i+1))+1 by omega,mL,if_neg hbig]
     have hd:(c-128+128*y)/2^7=y:=by omega
     have hmo:(c-128+128*y)%2^8=(c-128)+128*(y%2):=by omega
     rw [hd,hmo,JQ (c-128) (by omega) (y%2) (by omega),Nat.sub_add_cancel (by omega)]
    refine ⟨c-128+128*y,rest,by rw [hfu,e1];rfl,?_,by rw [hfu,e3,List.length_cons];omega,λ _=>by omega,?_⟩
    ·rw [e2,hcm,Nat.add_mul,Nat.add_assoc]
     congr 2
     rw [show 7*(i+1)=7+7*i by omega,Nat.pow_add,Nat.mul_comm 128 y,Nat.mul_assoc]
    ·have hp:2^(64-7*i)=2^7*2^(64-7*(i+1)):=by rw [<-Nat.pow_add];congr 1;omega
     omega
theorem Hp {l:List Nat} (hb:∀ y∈l,y<256) (h:(fJ l).2.2=0):l=uv (fJ l).1++l.drop (fJ l).2.1/\(fJ l).1<2^64:=by
 obtain ⟨y,rest,e1,e2,e3,_,e5⟩:=Aq l 0 0 (fJ l).1 (fJ l).2.1 hb (by decide) (Prod.ext rfl (Prod.ext rfl h))
 have hx:(fJ l).1=y:=by rw [e2];simp
 have hk:(fJ l).2.1=(uv y).length:=by rw [e3,Nat.zero_add];rfl
 refine ⟨?_,by rw [hx];exact e5⟩
 rw [hx,hk]
 have e6:l=uv y++rest:=e1
 conv=>lhs;rw [e6]
 rw [e6,List.drop_left]
end Go.Kw
namespace Go.Kw
def Agr (l s:List Nat):Prop:=(∃ t,s=l++t)\/∃ t,l=s++t
theorem Agr.refl (l:List Nat):Agr l l:= .inl ⟨[],by simp⟩
theorem Agr.cut {x l s:List Nat} (h:Agr l (x++s)):(∃ r,l=x++r/\Agr r s)\/∃ t,x=l++t/\t≠[]:=by
 rcases h with ⟨t,h⟩|⟨t,h⟩
 ·rcases List.append_eq_append_iff.1 h with ⟨a,h1,h2⟩|⟨a,h1,h2⟩
  ·exact .inl ⟨a,h1,.inl ⟨t,h2⟩⟩
  ·by_cases e:a=[]
   ·subst e
    exact .inl ⟨[],by simpa using h1.symm,.inl ⟨s,rfl⟩⟩
   ·exact .inr ⟨a,h1,e⟩
 ·exact .inl ⟨s++t,by rw [h,List.append_assoc],.inr ⟨t,rfl⟩⟩
theorem ui {l s:List Nat} {n:Nat} (hb:∀ y∈l,y<256) (hn:n<=1073741824) (h:Agr l (uv n++s)) (hk:(aR true l 1073741824).2.1=true):(aR true l 1073741824).1=n/\Agr (aR true l 1073741824).2.2 s:=by
 rcases h.cut with ⟨r,rfl,hr⟩|⟨t,ht,hne⟩
 ·rw [fK (by omega) hn];exact ⟨rfl,hr⟩
 ·exfalso
  unfold aR at hk
  split at hk
  ·cases hk
  ·rename_i hq
   have h0:(fJ l).2.2=0:=Classical.byContradiction λ q=>hq (.inr (.inl q))
   obtain ⟨e1,e2⟩:=Hp hb h0
   have e3:uv n++[]=uv (fJ l).1++(l.drop (fJ l).2.1++t):=by rw [<-List.append_assoc,<-e1,List.append_nil];exact ht
   have e4:=(cr (by omega) e2 e3).2
   exact hne (List.append_eq_nil_iff.1 e4.symm).2
def j1 (ok:Bool) (l:List Nat):List Nat×Bool×List Nat:=
 if (aR ok l 1073741824).2.1=false\/(aR ok l 1073741824).2.2.length<(aR ok l 1073741824).1 then ([],false,(aR ok l 1073741824).2.2)
 else ((aR ok l 1073741824).2.2.take (aR ok l 1073741824).1,true,(aR ok l 1073741824).2.2.drop (aR ok l 1073741824).1)
theorem qH {ok:Bool} {l:List Nat} {lim:Nat} (h:ok=false):aR ok l lim=(0,false,l):=by unfold aR;rw [if_pos (.inl h)]
theorem Ar {ok:Bool} {l:List Nat} (h:ok=false):j1 ok l=([],false,l):=by
 have e:=qH (l:=l) (lim:=1073741824) h
 unfold j1;rw [e,if_pos (.inl rfl)]
theorem As (ok:Bool) (l:List Nat):(j1 ok l).2.2.length<=l.length/\(j1 ok l).1.length<=l.length:=by
 have h:=gk ok l 1073741824
 unfold j1;split
 ·exact ⟨h,Nat.zero_le _⟩
 ·simp only [List.length_drop,List.length_take];omega
theorem Au (ok:Bool) (l:List Nat):(∀ x∈(j1 ok l).2.2,x∈l)/\∀ x∈(j1 ok l).1,x∈l:=by
 have h:=dz ok l 1073741824
 unfold j1;split
 ·exact ⟨h,λ x hx=>by cases hx⟩
 ·exact ⟨λ x hx=>h x (List.mem_of_mem_drop hx),λ x hx=>h x (List.mem_of_mem_take hx)⟩
theorem Eh {l s m:List Nat} (hb:∀ y∈l,y<256) (hn:m.length<=1073741824) (h:Agr l (lI m++s)) (hk:(j1 true l).2.1=true):(j1 true l).1=m/\Agr (j1 true l).2.2 s:=by
 unfold j1 at hk⊢
 split at hk
 ·cases hk
 ·rename_i hq
  have h1:(aR true l 1073741824).2.1=true:=by
   cases hc:(aR true l 1073741824).2.1 with
   |false=>exact absurd (.inl hc) hq
   |true=>rfl
  have h2:(aR true l 1073741824).1<=(aR true l 1073741824).2.2.length:=Nat.le_of_not_lt λ q=>hq (.inr q)
  unfold lI at h
  rw [List.append_assoc] at h
  obtain ⟨e1,e2⟩:=ui hb hn h h1
  rw [if_neg hq]
  simp only
  rw [e1] at h2⊢
  rcases e2.cut with ⟨r,hr,hs⟩|⟨t,ht,hne⟩
  ·rw [hr]
   exact ⟨by simp,by simpa using hs⟩
  ·exfalso
   have:=congrArg List.length ht
   rw [List.length_append] at this
   have h3:0<t.length:=List.length_pos_iff.2 hne
   omega
def gZ {S α:Type} (ok:S->Bool) (f:S->α×S):Nat->S->List α×S
 |0,s=>([],s)
 |n+1,s=>if ok s=true then ((f s).1::(gZ ok f n (f s).2).1,(gZ ok f n (f s).2).2) else ([],s)
section
variable {S α:Type} {ok:S->Bool} {f:S->α×S}
theorem Av {n:Nat} {s:S} (h:ok s=false):gZ ok f n s=([],s):=by
 cases n with
 |zero=>rfl
 |succ n=>rw [gZ,if_neg (by rw [h];simp)]
theorem wN {n:Nat} {s:S} (h:ok s=true):gZ ok f (n+1) s=((f s).1::(gZ ok f n (f s).2).1,(gZ ok f n (f s).2).2):=by rw [gZ,if_pos h]
end
abbrev RS:=Bool×List Nat
def aP (s:RS):Nat×RS:=aR s.1 s.2 1073741824
def aO (s:RS):ByteArray×RS:=(strOf (j1 s.1 s.2).1,(j1 s.1 s.2).2)
def qI (s:RS):Pr×RS:=(((aO s).1,(aO (aO s).2).1),(aO (aO s).2).2)
def oE (s:RS):List Pr×RS:=gZ Prod.fst qI (aP s).1 (aP s).2
def ze (s:RS×Nat):ky×(RS×Nat):=
 let a:=aO s.1;let n:=aP a.2;let p:=oE n.2
 ((a.1,(s.2:Int),((s.2+n.1:Nat):Int),p.1),(p.2,s.2+n.1))
def wO (s:RS×Nat):ky×(RS×Nat):=
 let a:=aO s.1;let n:=aP a.2;let e:=aP n.2;let p:=oE e.2
 ((a.1,((s.2+n.1:Nat):Int),((s.2+n.1+e.1:Nat):Int),p.1),(p.2,s.2+n.1))
def Ei (s:RS):Nd×RS:=
 let a:=aO s;let p:=aP a.2;let b:=aP p.2;let e:=aP b.2
 (⟨a.1,(b.1:Int),((b.1+e.1:Nat):Int),(p.1:Int)-1⟩,e.2)
def Aw (s:RS):(Int×ByteArray)×RS:=((((aP s).1:Int)-1,(aO (aP s).2).1),(aO (aP s).2).2)
def vB (p:RS×Nat):Bool:=p.1.1
def dx (s:RS) (a:Nat):List ky×(RS×Nat):=gZ vB ze (aP s).1 ((aP s).2,a)
def dL (s:RS) (a:Nat):List ky×(RS×Nat):=gZ vB wO (aP s).1 ((aP s).2,a)
def ep (s:RS):List Nd×RS:=gZ Prod.fst Ei (aP s).1 (aP s).2
def fk (s:RS):List (Int×ByteArray)×RS:=gZ Prod.fst Aw (aP s).1 (aP s).2
structure RB (s:RS):Prop where
 lt:∀ x∈s.2,x<256
 len:s.2.length<=1000000000
theorem RB.nm {s:RS} (h:RB s):RB (aP s).2:=⟨λ x hx=>h.lt x (dz _ _ _ x hx),Nat.le_trans (gk _ _ _) h.len⟩
theorem RB.tx {s:RS} (h:RB s):RB (aO s).2:=⟨λ x hx=>h.lt x ((Au _ _).1 x hx),Nat.le_trans (As _ _).1 h.len⟩
theorem mE {S α:Type} {ok:S->Bool} {f:S->α×S} {Q:S->Prop} (hf:∀ s,Q s->Q (f s).2):∀ (n:Nat) (s:S),Q s->Q (gZ ok f n s).2
 |0,s,h=>h
 |n+1,s,h=>by
  rw [gZ];split
  ·exact mE hf n _ (hf s h)
  ·exact h
theorem RB.NL {s:RS} (h:RB s):RB (qI s).2:=h.tx.tx
theorem RB.pr {s:RS} (h:RB s):RB (oE s).2:=mE (Q:=RB) (λ _ h=>h.NL) _ _ h.nm
theorem RB.dc {s:RS} (h:RB s) (a:Nat):RB (ze (s,a)).2.1:=h.tx.nm.pr
theorem RB.rg {s:RS} (h:RB s) (a:Nat):RB (wO (s,a)).2.1:=h.tx.nm.nm.pr
theorem RB.nd {s:RS} (h:RB s):RB (Ei s).2:=h.tx.nm.nm.nm
theorem RB.he {s:RS} (h:RB s):RB (Aw s).2:=h.nm.tx
theorem RB.Ni {s:RS} (h:RB s) (a:Nat):RB (dx s a).2.1:=mE (Q:=λ p:RS×Nat=>RB p.1) (λ p h=>h.dc p.2) _ _ h.nm
theorem RB.NJ {s:RS} (h:RB s) (a:Nat):RB (dL s a).2.1:=mE (Q:=λ p:RS×Nat=>RB p.1) (λ p h=>h.rg p.2) _ _ h.nm
theorem RB.NN {s:RS} (h:RB s):RB (ep s).2:=mE (Q:=RB) (λ _ h=>h.nd) _ _ h.nm
theorem e9 (s:RS):(aP s).1<=1073741824:=ku _ _ _
theorem mF {S α:Type} {ok:S->Bool} {f:S->α×S} {n:Nat} {s:S} (h:ok s=true) (hn:0<n):gZ ok f n s=((f s).1::(gZ ok f (n-1) (f s).2).1,(gZ ok f (n-1) (f s).2).2):=by
 obtain ⟨m,rfl⟩:∃ m,n=m+1:=⟨n-1,by omega⟩
 exact wN h
theorem mG {S α:Type} {ok:S->Bool} {f:S->α×S} {n:Nat} {s:S} (h:¬ (0<n/\ok s=true)):gZ ok f n s=([],s):=by
 cases n with
 |zero=>rfl
 |succ n=>rw [gZ,if_neg λ q=>h ⟨by omega,q⟩]
theorem uj {s:RS} (h:(aO s).2.1=false):bD (aO s).1=[]:=by
 have e:(j1 s.1 s.2).1=[]:=by
  have h1:(j1 s.1 s.2).2.1=false:=h
  unfold j1 at h1⊢
  split
  ·rfl
  ·rename_i hq;rw [if_neg hq] at h1;cases h1
 show bD (strOf (j1 s.1 s.2).1)=[]
 rw [e];rfl
theorem zf (s:RS):(aO s).1.size<=s.2.length:=by
 show (strOf (j1 s.1 s.2).1).size<=_
 rw [cU];exact (As _ _).2
theorem Hq {s:RS} (h:s.1=false):(aO s).2.1=false:=by
 have e:=Ar (l:=s.2) h
 show (j1 s.1 s.2).2.1=false
 rw [e]
def At (X:Bool) (s:RS) (r:List Nat):Prop:=(s.1=true->(∀ y∈s.2,y<256)/\Agr s.2 r)/\(X=true->s=(true,r))
theorem At.off {X:Bool} {s:RS} {r r':List Nat} (h:At X s r) (h0:s.1=false):At X s r':=
 ⟨λ q=>(by rw [h0] at q;cases q),λ q=>(by have:=h.2 q;rw [this] at h0;cases h0)⟩
theorem gA {X:Bool} {s:RS} {r:List Nat} {n:Nat} (h:At X s (uv n++r)) (hn:n<=1073741824):At X (aP s).2 r/\((aP s).2.1=true->s.1=true/\(aP s).1=n):=by
 have hx:X=true->(aP s).2=(true,r):=λ q=>by
  rw [h.2 q];show (aR true (uv n++r) 1073741824).2=_
  rw [fK (by omega) hn]
 obtain ⟨ok,l⟩:=s
 cases ok with
 |false=>
  have e:aP (false,l)=(0,false,l):=qH rfl
  rw [e] at hx⊢;exact ⟨⟨λ q=>(by cases q),hx⟩,λ q=>(by cases q)⟩
 |true=>
  obtain ⟨hb,ha⟩:=h.1 rfl
  exact ⟨⟨λ q=>⟨λ y hy=>hb y (dz _ _ _ y hy),(ui hb hn ha q).2⟩,hx⟩,λ q=>⟨rfl,(ui hb hn ha q).1⟩⟩
theorem fS (a:ByteArray):strOf (bD a)=a:=by
 apply rC
 unfold bD strOf
 simp only [List.map_map,List.toList_toArray]
 rw [show (λ b:UInt8=>b.toNat)∘(λ n=>UInt8.ofNat n)∘(λ b:UInt8=>b.toNat)=λ b=>b.toNat from by
  funext b;show (UInt8.ofNat b.toNat).toNat=b.toNat;rw [UInt8.ofNat_toNat]]
theorem JR {m r:List Nat} (hn:m.length<=1073741824):j1 true (lI m++r)=(m,true,r):=by
 unfold lI j1
 rw [List.append_assoc,fK (by omega) hn,if_neg (show ¬ (true=false\/(m++r).length<m.length) from λ q=>by rcases q with q|q;cases q;rw [List.length_append] at q;omega)]
 simp
theorem uk {X:Bool} {s:RS} {r m:List Nat} (h:At X s (lI m++r)) (hn:m.length<=1073741824):At X (j1 s.1 s.2).2 r/\((j1 s.1 s.2).2.1=true->s.1=true/\(j1 s.1 s.2).1=m):=by
 have hx:X=true->(j1 s.1 s.2).2=(true,r):=λ q=>by
  rw [h.2 q];show (j1 true (lI m++r)).2=_
  rw [JR hn]
 obtain ⟨ok,l⟩:=s
 cases ok with
 |false=>
  have e:j1 false l=([],false,l):=Ar rfl
  show At X (j1 false l).2 r/\((j1 false l).2.1=true->false=true/\(j1 false l).1=m)
  replace hx:X=true->(j1 false l).2=(true,r):=hx
  rw [e] at hx⊢;exact ⟨⟨λ q=>(by cases q),hx⟩,λ q=>(by cases q)⟩
 |true=>
  obtain ⟨hb,ha⟩:=h.1 rfl
  exact ⟨⟨λ q=>⟨λ y hy=>hb y ((Au _ _).1 y hy),(Eh hb hn ha q).2⟩,hx⟩,λ q=>⟨rfl,(Eh hb hn ha q).1⟩⟩
theorem qJ {X:Bool} {s:RS} {r:List Nat} {a:ByteArray} (h:At X s (db a++r)) (hn:a.size<=1073741824):At X (aO s).2 r/\((aO s).2.1=true->s.1=true/\(aO s).1=a):=by
 have e:db a=lI (bD a):=by unfold db lI;rw [aH]
 rw [e] at h
 obtain ⟨h1,h2⟩:=uk h (by rw [aH];exact hn)
 refine ⟨h1,λ q=> ?_⟩
 obtain ⟨a1,a2⟩:=h2 q
 refine ⟨a1,?_⟩
 show strOf (j1 s.1 s.2).1=a
 rw [a2,fS]
theorem nM {S α β:Type} {ok:S->Bool} {f:S->α×S} {val:α->β} {okb:β->Prop} {G:List β->S->Prop} (h0:∀ s l,ok s=false->G l s->G [] s) (hf:∀ s x l,okb x->G (x::l) s->G l (f s).2/\(ok (f s).2=true->ok s=true/\val (f s).1=x)):∀ (xs:List β) (s:S),(∀ x∈xs,okb x)->G xs s->G [] (gZ ok f xs.length s).2/\(ok (gZ ok f xs.length s).2=true->ok s=true/\(gZ ok f xs.length s).1.map val=xs)
 |[],s,_,h=>⟨h,λ q=>⟨q,rfl⟩⟩
 |x::xs,s,hx,h=>by
  rw [List.length_cons]
  cases ho:ok s with
  |false=>rw [Av ho];exact ⟨h0 s _ ho h,λ q=>(by rw [ho] at q;cases q)⟩
  |true=>
   rw [wN ho]
   obtain ⟨g1,g2⟩:=hf s x xs (hx x (by simp)) h
   obtain ⟨k1,k2⟩:=nM h0 hf xs (f s).2 (λ y hy=>hx y (by simp [hy])) g1
   refine ⟨k1,λ q=>⟨rfl,?_⟩⟩
   obtain ⟨q1,q2⟩:=k2 q
   show ((f s).1::(gZ ok f xs.length (f s).2).1).map val=_
   rw [List.map_cons,(g2 q1).2,q2]
theorem qK {S α β:Type} {ok:S->Bool} {f:S->α×S} {val:α->β} {G:List β->S->Prop} (h0:∀ s l,ok s=false->G l s->G [] s) {xs:List β} {m:Nat} {s:S} (hm:ok s=true->m=xs.length) (hG:G xs s) (h:G [] (gZ ok f xs.length s).2/\(ok (gZ ok f xs.length s).2=true->ok s=true/\(gZ ok f xs.length s).1.map val=xs)):G [] (gZ ok f m s).2/\(ok (gZ ok f m s).2=true->ok s=true/\(gZ ok f m s).1.map val=xs):=by
 cases ho:ok s with
 |false=>rw [Av ho];exact ⟨h0 s _ ho hG,λ q=>(by rw [ho] at q;cases q)⟩
 |true=>rw [hm ho];exact ⟨h.1,λ q=>⟨rfl,(h.2 q).2⟩⟩
def N5 (p:Pr):Prop:=p.1.size<=1073741824/\p.2.size<=1073741824
theorem IS {X:Bool} {s:RS} {r:List Nat} {ps:List Pr} (h:At X s (pN ps++r)) (hl:ps.length<=1073741824) (hs:∀ p∈ps,N5 p):At X (oE s).2 r/\((oE s).2.1=true->s.1=true/\(oE s).1=ps):=by
 unfold pN at h
 rw [List.append_assoc] at h
 obtain ⟨h1,h2⟩:=gA h hl
 let G:List Pr->RS->Prop:=λ l s=>At X s ((l.flatMap λ p:Pr=>db p.1++db p.2)++r)
 have h0:∀ (s:RS) (l:List Pr),s.1=false->G l s->G [] s:=λ s l q g=>At.off g q
 have key:=qK (f:=qI) (val:=id) (G:=G) h0 (m:=(aP s).1) (λ q=>(h2 q).2) h1 (nM (ok:=Prod.fst) (f:=qI) (val:=id) (okb:=N5) h0 (λ s x l hx g=>by
  have g':At X s (db x.1++(db x.2++((l.flatMap λ p:Pr=>db p.1++db p.2)++r))):=by
   have e:((x::l).flatMap λ p:Pr=>db p.1++db p.2)++r=db x.1++(db x.2++((l.flatMap λ p:Pr=>db p.1++db p.2)++r)):=by rw [List.flatMap_cons];simp only [List.append_assoc]
   rw [<-e];exact g
  obtain ⟨a1,a2⟩:=qJ g' hx.1
  obtain ⟨b1,b2⟩:=qJ a1 hx.2
  refine ⟨b1,λ q=> ?_⟩
  obtain ⟨c1,c2⟩:=b2 q
  obtain ⟨d1,d2⟩:=a2 c1
  exact ⟨d1,Prod.ext d2 c2⟩) ps (aP s).2 hs h1)
 refine ⟨key.1,λ q=> ?_⟩
 obtain ⟨k1,k2⟩:=key.2 q
 exact ⟨(h2 k1).1,by rw [List.map_id] at k2;exact k2⟩
end Go.Kw
namespace Go.Kw
theorem v4 {x y:Iv} (h:x.v=y.v):x.nm=y.nm/\x.b=y.b/\x.e=y.e/\x.ps=y.ps:=
 ⟨congrArg (λ q:ky=>q.1) h,congrArg (λ q:ky=>q.2.1) h,congrArg (λ q:ky=>q.2.2.1) h,congrArg (λ q:ky=>q.2.2.2) h⟩
theorem mH {l m:List Iv} (h:l.map Iv.v=m.map Iv.v) {i:Nat} {x:Iv} (hx:m[i]? =some x):∃ y,l[i]? =some y/\y.v=x.v:=by
 have e:=congrArg (·[i]?) h
 simp only [List.getElem?_map,hx,Option.map_some] at e
 cases hy:l[i]? with
 |none=>rw [hy] at e;cases e
 |some y=>rw [hy] at e;exact ⟨y,rfl,Option.some.inj e⟩
theorem th {l m:List Iv} (h:l.map Iv.v=m.map Iv.v) {x:Iv} (hx:x∈m):∃ y,y∈l/\y.v=x.v:=by
 obtain ⟨i,hi⟩:=List.getElem?_of_mem hx
 obtain ⟨y,hy,e⟩:=mH h hi
 exact ⟨y,List.mem_of_getElem? hy,e⟩
theorem Ax {l m:List Iv} (h:l.map Iv.v=m.map Iv.v):l.length=m.length:=by simpa using congrArg List.length h
theorem JS {x y p q:Iv} (h:x.v=p.v) (k:y.v=q.v):dR x y=dR p q:=by
 obtain ⟨h1,h2,h3,h4⟩:=v4 h
 obtain ⟨k1,k2,k3,k4⟩:=v4 k
 unfold dR
 rw [h1,h2,h3,h4,k1,k2,k3,k4]
theorem IT {l m:List Iv} (h:l.map Iv.v=m.map Iv.v) {b e:Int} (hi:inT l b e):inT m b e:=by
 obtain ⟨t,ht,h1⟩:=hi
 obtain ⟨y,hy,e1⟩:=th h.symm ht
 obtain ⟨_,e2,e3,_⟩:=v4 e1
 exact ⟨y,hy,by rw [e2,e3];exact h1⟩
theorem JT {n:Int} {l m:List Iv} (h:l.map Iv.v=m.map Iv.v) (k:okTx n l):okTx n m where
 nm x hx:=by
  obtain ⟨y,hy,e⟩:=th h hx
  obtain ⟨e1,e2,e3,e4⟩:=v4 e
  have:=k.nm y hy
  rwa [e1,e2,e3,e4] at this
 nd i j x y hx hy hij:=by
  obtain ⟨x',hx',ex⟩:=mH h hx
  obtain ⟨y',hy',ey⟩:=mH h hy
  rw [<-(v4 ex).1,<-(v4 ey).1]
  exact k.nd i j x' y' hx' hy' hij
 first x hx:=by
  obtain ⟨x',hx',ex⟩:=mH h hx
  rw [<-(v4 ex).2.1];exact k.first x' hx'
 next i x y hx hy:=by
  obtain ⟨x',hx',ex⟩:=mH h hx
  obtain ⟨y',hy',ey⟩:=mH h hy
  rw [<-(v4 ex).2.2.1,<-(v4 ey).2.1]
  exact k.next i x' y' hx' hy'
 last i x hx hi:=by
  obtain ⟨x',hx',ex⟩:=mH h hx
  rw [<-(v4 ex).2.2.1];exact k.last i x' hx' (by rw [Ax h];exact hi)
 none_:=by
  rw [<-k.none_,<-List.length_eq_zero_iff,<-List.length_eq_zero_iff,Ax h]
theorem LF {x y p q:Iv} (h:x.v=p.v) (k:y.v=q.v) (hn:noX x y):noX p q:=by
 obtain ⟨h1,h2,h3,_⟩:=v4 h
 obtain ⟨k1,k2,k3,_⟩:=v4 k
 unfold noX at hn⊢
 rw [h1,h2,h3,k1,k2,k3] at hn
 exact hn
theorem OkC.Nf {k:Nat} {c d:Co} (h:OkC k c) (e:c.v=d.v):OkC k d:=by
 have eA:c.at_=d.at_:=congrArg lN.at_ e
 have eT:c.tk.map (·.ns)=d.tk.map (·.ns):=congrArg lN.tk e
 have eX:c.tx.map Iv.v=d.tx.map Iv.v:=congrArg lN.tx e
 have eR:c.rg.map Iv.v=d.rg.map Iv.v:=congrArg lN.rg e
 have eN:c.nd=d.nd:=congrArg lN.nd e
 have eH:c.hd=d.hd:=congrArg lN.hd e
 have eL:c.rl=d.rl:=congrArg lN.rl e
 have eTl:c.tk.length=d.tk.length:=by simpa using congrArg List.length eT
 refine ⟨eA▸h.at_,λ t ht=> ?_,eTl▸JT eX h.tx,⟨λ x hx=> ?_,λ i x y hx hy=> ?_,λ x hx y hy=> ?_⟩,⟨λ x hx=> ?_,eN▸h.nd.par,eN▸h.nd.sib⟩,?_,by rw [<-eTl];exact h.ntk,by rw [<-Ax eX];exact h.ntx,by rw [<-Ax eR];exact h.nrg,by rw [<-eN];exact h.nnd⟩
 ·have hm:t.ns∈c.tk.map (·.ns):=by rw [eT];exact List.mem_map_of_mem ht
  obtain ⟨u,hu,e1⟩:=List.mem_map.1 hm
  have:=h.tk u hu
  rw [e1] at this
  rw [<-eA];exact this
 ·obtain ⟨y,hy,e1⟩:=th eR hx
  obtain ⟨a1,a2,a3,a4⟩:=v4 e1
  obtain ⟨b1,b2,b3⟩:=h.rg.el y hy
  rw [a1] at b1;rw [a4] at b3;rw [a2,a3] at b2
  exact ⟨b1,IT eX b2,b3⟩
 ·obtain ⟨x',hx',ex⟩:=mH eR hx
  obtain ⟨y',hy',ey⟩:=mH eR hy
  rw [<-JS ex ey]
  exact h.rg.asc i x' y' hx' hy'
 ·obtain ⟨x',hx',ex⟩:=th eR hx
  obtain ⟨y',hy',ey⟩:=th eR hy
  exact LF ex ey (h.rg.nox x' hx' y' hy')
 ·have:=h.nd.el x (by rw [eN];exact hx)
  exact ⟨this.1,IT eX this.2⟩
 ·rcases h.hd with ⟨a,b⟩|a
  ·exact .inl ⟨eH▸a,eL▸b⟩
  ·refine .inr ⟨by rw [<-eTl,<-eH,<-eL];exact a.len,eH▸eL▸a.bare,λ i x hx=> ?_,eL▸a.nm,eH▸a.rk⟩
   rcases a.el i x (by rw [eH];exact hx) with q|⟨t,ht,q⟩
   ·exact .inl q
   ·obtain ⟨y,hy,e1⟩:=th eX.symm ht
    obtain ⟨_,a2,a3,_⟩:=v4 e1
    exact .inr ⟨y,hy,by rw [a2,a3];exact q⟩
end Go.Kw
namespace Go.Kw
theorem fZ {l:List Nat} (h:∀ x∈l,x<256):bD (strOf l)=l:=by
 unfold bD strOf
 simp only [List.map_map,List.toList_toArray]
 rw [List.map_congr_left (g:=id) (λ x hx=>by
  show (UInt8.ofNat x).toNat=x
  rw [UInt8.toNat_ofNat'];exact Nat.mod_eq_of_lt (h x hx)),List.map_id]
theorem nN {l:List Nat} (h:∀ x∈l,x<256):db (strOf l)=lI l:=by
 unfold db lI
 rw [fZ h,cU]
theorem pw {α:Type} {f:α->List Nat} {l:List α} {k:Nat} {x:α} (hx:l[k]? =some x):(l.take (k+1)).flatMap f=(l.take k).flatMap f++f x:=by rw [ar hx,List.flatMap_append];simp
theorem qL {α:Type} {f:α->List Nat} {B:Nat}:∀ (l:List α),(∀ x∈l,(f x).length<=B)->(l.flatMap f).length<=B*l.length
 |[],_=>by simp
 |x::l,h=>by
  have h1:=h x (by simp)
  have h2:=qL l λ y hy=>h y (by simp [hy])
  rw [List.flatMap_cons,List.length_append,List.length_cons,Nat.mul_succ];omega
theorem Ay {f:Nat->List Nat} (k:Nat):(List.range (k+1)).flatMap f=(List.range k).flatMap f++f k:=by rw [List.range_succ,List.flatMap_append];simp
theorem cJ (s:ByteArray):(db s).length<=s.size+10:=by unfold db;have:=aK s.size;rw [List.length_append,aH];omega
theorem Hr {ps:List Pr} (h:okPs ps) {k:Nat} {p:Pr} (hp:ps[k]? =some p):p.1.size<=32/\p.2.size<=120:=by
 have h1:=h.2.1 p (List.mem_of_getElem? hp)
 exact ⟨bA h1.1,gK h1.2⟩
theorem px {ps:List Pr} (h:okPs ps):(pN ps).length<=1600:=by
 have h1:=qL (f:=λ p:Pr=>db p.1++db p.2) (B:=172) ps λ p hp=>by
  have h2:=h.2.1 p hp
  have h3:=bA h2.1;have h4:=gK h2.2
  have h5:=cJ p.1;have h6:=cJ p.2
  rw [List.length_append];omega
 have h7:=aK ps.length
 have h8:=h.1
 unfold pN
 rw [List.length_append]
 have h9:172*ps.length<=172*8:=Nat.mul_le_mul_left _ h8
 omega
theorem OkC.Iu {n:Nat} {c:Co} (h:OkC n c) (hn:n<=3):c.hd.length=c.rl.length/\c.hd.length<=36:=by
 rcases h.hd with ⟨a,b⟩|a
 ·rw [a,b];exact ⟨rfl,Nat.zero_le _⟩
 ·have:=a.len;have:=h.ntk;omega
theorem OkC.Ny {n:Nat} {c:Co} (h:OkC n c) (hn:n<=3) {k:Nat} {x:Int} {s:ByteArray} (hx:c.hd[k]? =some x) (hs:c.rl[k]? =some s): -1<=x/\x<=36/\s.size<=32:=by
 have hk:=h.ntk
 rcases h.hd with ⟨a,b⟩|a
 ·rw [a] at hx;simp at hx
 ·have q2:=a.nm s (List.mem_of_getElem? hs)
  have q3:s.size<=32:=by
   rcases q2 with e|e
   ·rw [e];exact Nat.zero_le _
   ·exact bA e
  rcases a.el k x hx with e|⟨t,ht,e⟩
  ·exact ⟨by omega,by omega,q3⟩
  ·have:=h.tx.nm t ht
   exact ⟨by omega,by omega,q3⟩
theorem Ht {α β:Type} {l:List α} {m:List β} {k:Nat} {x:α} {y:β} (hx:l[k]? =some x) (hy:m[k]? =some y):(l.zip m)[k]? =some (x,y):=by rw [List.getElem?_zip_eq_some];exact ⟨hx,hy⟩
def Ej (nd:List Nd) (hd:List Int) (rl:List ByteArray):List Nat:=uv nd.length++(nd.flatMap rE++(uv hd.length++(hd.zip rl).flatMap rF))
def fC (c:Co) (a:Nat):List ByteArray:=c.tk.map λ t=>t.ns.getD a ByteArray.empty
theorem Ek:∀ {vs:List ByteArray},(∀ v∈vs,v.size<=120/\cV v=true)->j6 vs=0
 |[],_=>rfl
 |v::r,h=>by
  have h1:=h v (by simp)
  unfold j6
  rw [if_neg (by omega),if_neg (by rw [h1.2];simp),Ek λ x hx=>h x (by simp [hx])]
theorem zg {s:ByteArray} (h:iN s=true):cV s=true:=by
 unfold iN at h
 simp only [Bool.and_eq_true] at h
 exact h.2.1
theorem wP {n:Nat} {c:Co} (h:OkC n c) {a:Nat} (ha:a<c.at_.length) {v:ByteArray} (hv:v∈fC c a):v.size<=120/\cV v=true:=by
 obtain ⟨t,ht,rfl⟩:=List.mem_map.1 hv
 have q:=h.tk t ht
 rw [List.getD_eq_getElem?_getD,List.getElem?_eq_getElem (by omega:a<t.ns.length)]
 have:=(q.2 a _ _ (List.getElem?_eq_getElem (by omega:a<t.ns.length)) (List.getElem?_eq_getElem ha)).val
 exact ⟨gK this,zg this⟩
theorem mI (c:Co) (a:Nat):(fC c a).length=c.tk.length:=by unfold fC;rw [List.length_map]
theorem um {n:Nat} {c:Co} (h:OkC n c) (hn:n<=3) {a:Nat} (ha:a<c.at_.length):iJ (fC c a)=0/\uP (fC c a):=by
 have h1:=h.ntk
 have h2:=mI c a
 have h3:=bQ (fC c a)
 refine ⟨?_,by omega,λ v hv=>(wP h ha hv).1⟩
 unfold iJ
 rw [if_neg (by omega),Ek λ v hv=>wP h ha hv,if_neg (by simp),if_neg (by omega)]
theorem Ce {c:Co} {a k:Nat} {t:Tk} {v:ByteArray} (ht:c.tk[k]? =some t) (hv:t.ns[a]? =some v):(c.tk.take (k+1)).map (λ t=>t.ns.getD a ByteArray.empty)=(c.tk.take k).map (λ t=>t.ns.getD a ByteArray.empty)++[v]:=by
 rw [ar ht,List.map_append,List.map_singleton,List.getD_eq_getElem?_getD,hv,Option.getD_some]
theorem zh (c:Co) (a:Nat):(c.v.tk.map λ t=>t.getD a ByteArray.empty)=fC c a:=by
 show (c.tk.map (·.ns)).map (λ t=>t.getD a ByteArray.empty)=_
 rw [List.map_map];rfl
theorem El {ns:List Nat} {S:List (SV×List Nat)} {m k x:Nat} {p:SV×List Nat} {sv:SV} (hx:ns[k]? =some x) (hS:S.map Prod.snd=(List.range m).map (dh (ns.take k))) (hp:S[x]? =some p):(S.set x (sv,p.2++[k])).map Prod.snd=(List.range m).map (dh (ns.take (k+1))):=by
 have hk:k<ns.length:=(List.getElem?_eq_some_iff.1 hx).1
 have hl:S.length=m:=by simpa using congrArg List.length hS
 have hxm:x<m:=by have:=(List.getElem?_eq_some_iff.1 hp).1;omega
 have e:∀ j,j<m->(S.map Prod.snd)[j]? =some (dh (ns.take k) j):=λ j hj=>by rw [hS];simp [hj]
 have e0:p.2=dh (ns.take k) x:=by have:=e x hxm;rw [List.getElem?_map,hp] at this;exact Option.some.inj this
 apply List.ext_getElem?
 intro j
 rw [List.map_set,List.getElem?_set]
 have hsn:ns.take (k+1)=ns.take k++[x]:=ar hx
 have hlt:(ns.take k).length=k:=by rw [List.length_take];omega
 by_cases hj:j<m
 ·rw [show ((List.range m).map (dh (ns.take (k+1))))[j]? =some (dh (ns.take (k+1)) j) by simp [hj],hsn,CG,hlt]
  by_cases hxj:x=j
  ·subst hxj;rw [if_pos rfl,if_pos (by rw [List.length_map];omega),if_pos rfl,e0]
  ·rw [if_neg hxj,if_neg hxj];exact e j hj
 ·have e2:((List.range m).map (dh (ns.take (k+1))))[j]? =none:=List.getElem?_eq_none (by simp;omega)
  have e3:(S.map Prod.snd)[j]? =none:=List.getElem?_eq_none (by rw [List.length_map];omega)
  rw [e2,if_neg (show ¬ x=j by omega)]
  exact e3
theorem Az {ns:List Nat} {S:List (SV×List Nat)} {m k:Nat} {p:SV×List Nat} (hS:S.map Prod.snd=(List.range m).map (dh ns)) (hp:S[k]? =some p):p.2=dh ns k/\k<m:=by
 have hl:S.length=m:=by simpa using congrArg List.length hS
 have hk:k<m:=by have:=(List.getElem?_eq_some_iff.1 hp).1;omega
 have h1:(S.map Prod.snd)[k]? =some (dh ns k):=by rw [hS];simp [hk]
 rw [List.getElem?_map,hp] at h1
 exact ⟨Option.some.inj h1,hk⟩
theorem AA {l:List Iv} {k:Nat} {x:Iv} (hx:l[k]? =some x):fg 0 ((l.take (k+1)).map Iv.v)=fg 0 ((l.take k).map Iv.v)++J4 (Kb 0 ((l.take k).map Iv.v)) x.v/\Kb 0 ((l.take (k+1)).map Iv.v)=x.b:=by
 rw [ar hx,List.map_append,List.map_singleton,tK]
 exact ⟨rfl,by unfold Kb;rw [List.foldl_append];rfl⟩
def Em (l:List Nat) (n W:Nat):List Nat:=(List.range' n (W-n)).flatMap λ n=>lI (aN (nj (dh l n)))
theorem En {l:List Nat} {n W:Nat} (h:n<W):Em l n W=lI (aN (nj (dh l n)))++Em l (n+1) W:=by
 unfold Em
 rw [show W-n=(W-(n+1))+1 by omega,List.range'_succ,List.flatMap_cons]
theorem Hu {l:List Nat} {n W:Nat} (h:W<=n):Em l n W=[]:=by unfold Em;rw [show W-n=0 by omega];rfl
theorem Eo (l:List Nat) (W:Nat):Em l 0 W=uN l W:=by unfold Em uN;rw [List.range_eq_range'];rfl
def ia (c:Co) (k i:Nat):List (List ByteArray):=((c.tk.take i).map λ t=>t.ns.take (k+1))++((c.tk.drop i).map λ t=>t.ns.take k)
theorem zi (c:Co) (k:Nat):ia c k 0=c.tk.map λ t=>t.ns.take k:=by simp [ia]
theorem ti (c:Co) (k i:Nat):(ia c k i).length=c.tk.length:=by unfold ia;simp;omega
theorem Cf {n:Nat} {c:Co} (h:OkC n c) {k i j:Nat} {x:List ByteArray} (hx:(ia c k i)[j]? =some x):x.length<=100:=by
 have h1:=h.at_.2
 have hm:=List.mem_of_getElem? hx
 unfold ia at hm
 rcases List.mem_append.1 hm with q|q
 ·obtain ⟨t,ht,rfl⟩:=List.mem_map.1 q
  have:=(h.tk t (List.mem_of_mem_take ht)).1
  rw [List.length_take];omega
 ·obtain ⟨t,ht,rfl⟩:=List.mem_map.1 q
  have:=(h.tk t (List.mem_of_mem_drop ht)).1
  rw [List.length_take];omega
theorem Cg {c:Co} {k i:Nat} (h:c.tk.length<=i):ia c k i=c.tk.map λ t=>t.ns.take (k+1):=by
 unfold ia;rw [List.take_of_length_le h,List.drop_of_length_le h];simp
theorem LG {c:Co} {m k:Nat} (hm:m=c.tk.length) (hk:k=0):(List.replicate m ((⟨none,0,0⟩:SV),([]:List ByteArray))).map Prod.snd=c.tk.map λ t=>t.ns.take k:=by
 subst hm;subst hk
 simp only [List.map_replicate,List.take_zero]
 rw [List.map_const']
theorem Ep {c:Co} {S:List (SV×List ByteArray)} {k i:Nat} {p:SV×List ByteArray} {sv:SV} {v:ByteArray} (hS:S.map Prod.snd=ia c k i) (hp:S[i]? =some p) (hv:(fC c k)[i]? =some v) (hk:∀ t∈c.tk,k<t.ns.length):(S.set i (sv,p.2++[v])).map Prod.snd=ia c k (i+1):=by
 have hl:S.length=c.tk.length:=by have:=congrArg List.length hS;rwa [List.length_map,ti] at this
 have hi:i<c.tk.length:=by have:=(List.getElem?_eq_some_iff.1 hp).1;omega
 obtain ⟨t,ht⟩:∃ t,c.tk[i]? =some t:=⟨_,List.getElem?_eq_getElem hi⟩
 have hkt:=hk t (List.mem_of_getElem? ht)
 have hvt:t.ns[k]? =some v:=by
  unfold fC at hv
  rw [List.getElem?_map,ht] at hv
  have h9:t.ns.getD k ByteArray.empty=v:=Option.some.inj hv
  rw [List.getD_eq_getElem?_getD,List.getElem?_eq_getElem hkt,Option.getD_some] at h9
  rw [List.getElem?_eq_getElem hkt,h9]
 have h1:(S.map Prod.snd)[i]? =some (t.ns.take k):=by
  rw [hS];unfold ia
  rw [List.getElem?_append_right (by simp;omega)]
  simp only [List.length_map,List.length_take]
  rw [show i-min i c.tk.length=0 by omega,List.getElem?_map,List.getElem?_drop,Nat.add_zero,ht];rfl
 have h2:p.2=t.ns.take k:=by rw [List.getElem?_map,hp] at h1;exact Option.some.inj h1
 rw [List.map_set,h2,hS]
 unfold ia
 have e1:c.tk.drop i=t::c.tk.drop (i+1):=by
  rw [List.drop_eq_getElem_cons hi];congr 1
  exact (List.getElem?_eq_some_iff.1 ht).2
 have hln:((c.tk.take i).map λ t=>t.ns.take (k+1)).length=i:=by simp;omega
 rw [e1,ar ht,List.map_cons,List.map_append,List.map_singleton,List.append_assoc,List.set_append_right _ _ (by omega),hln,Nat.sub_self,ar hvt]
 rfl
def B8 (l:List Nat):Prop:=∀ x∈l,x<256
theorem B8.app {l m:List Nat} (h:B8 l) (k:B8 m):B8 (l++m):=λ x hx=>(List.mem_append.1 hx).elim (h x) (k x)
theorem B8.fm {α:Type} {f:α->List Nat} {l:List α} (h:∀ x∈l,B8 (f x)):B8 (l.flatMap f):=λ y hy=>by
 obtain ⟨x,hx,hy⟩:=List.mem_flatMap.1 hy
 exact h x hx y hy
theorem fx (n:Nat):B8 (uv n):=cF n
theorem qM (s:ByteArray):B8 (db s):=(fx _).app (k7 s)
theorem Er {l:List Nat} (h:B8 l):B8 (lI l):=(fx _).app h
theorem IU (ps:List Pr):B8 (pN ps):=(fx _).app (B8.fm λ p _=>(qM _).app (qM _))
theorem iM {l:List Nat} (h:B8 l):B8 (aN l):=h.app (nc _)
theorem Es:∀ (l:List ky) (z:Int),B8 (fg z l)
 |[],_=>λ x hx=>by cases hx
 |x::l,z=>((qM _).app ((fx _).app ((fx _).app (IU _)))).app (Es l _)
theorem JU {X:List ByteArray->List Nat} {T:List Nat->List Nat} (hX:∀ u,B8 (X u)) (hT:∀ l,B8 (T l)) (a:ByteArray×Bool) (vs:List ByteArray):B8 (jK X T a vs):=
 (qM _).app ((fx _).app ((Er (hX _)).app ((Er (hT _)).app (B8.fm λ n _=>Er (iM (jJ _))))))
theorem uq {X:List ByteArray->List Nat} {T:List Nat->List Nat} (hX:∀ u,B8 (X u)) (hT:∀ l,B8 (T l)) (c:lN):B8 (fo X T c):=by
 refine B8.app (λ x hx=> ?_) ((fx _).app ((B8.fm λ i _=>JU hX hT _ _).app ((fx _).app ((B8.fm λ x _=>(qM _).app ((fx _).app (IU _))).app ((fx _).app ((Es _ _).app ((fx _).app ((B8.fm λ x _=>(qM _).app ((fx _).app ((fx _).app (fx _)))).app ((fx _).app (B8.fm λ x _=>(fx _).app (qM _)))))))))))
 simp only [List.mem_cons,List.not_mem_nil,or_false] at hx
 omega
theorem Hv {ns:List Nat} (h:ns.length<=4096) (k:Nat):(uN ns k).length<=40020*k:=by
 have:=qL (f:=λ n=>lI (aN (nj (dh ns n)))) (B:=40020) (List.range k) λ n _=>by
  have h1:=iY (gH n h)
  have h2:=aK (aN (nj (dh ns n))).length
  unfold lI
  rw [List.length_append,bJ] at*
  omega
 rwa [List.length_range] at this
theorem IV:∀ {l:List ky} {z:Int} {k:Nat} {x:ky},J5 z l->l[k]? =some x->Kb z (l.take k)<=x.2.1
 |[],_,_,_,_,h=>by simp at h
 |y::l,z,0,x,h,hx=>by
  have e:y=x:=by simpa using hx
  subst e;exact h.1
 |y::l,z,k+1,x,h,hx=>IV (l:=l) (z:=y.2.1) (k:=k) h.2 (by simpa using hx)
theorem Ch {X:List ByteArray->List Nat} {T:List Nat->List Nat} {c:Co} {k:Nat} {x:ByteArray×Bool} (hx:c.at_[k]? =some x):gI X T c.v.at_ c.v.tk (k+1)=gI X T c.v.at_ c.v.tk k++jK X T x (fC c k):=by
 unfold gI
 rw [Ay,zh,show c.v.at_.getD k (ByteArray.empty,false)=x by rw [List.getD_eq_getElem?_getD,show c.v.at_=c.at_ from rfl,hx];rfl]
theorem pz (X:List ByteArray->List Nat) (T:List Nat->List Nat) (c:Co):fo X T c.v=[67,83,49]++(uv c.at_.length++(gI X T c.v.at_ c.v.tk c.at_.length++(uv c.tx.length++(c.tx.flatMap (λ x=>gJ x.v)++(uv c.rg.length++(fg 0 (c.rg.map Iv.v)++Ej c.nd c.hd c.rl)))))):=by
 have e1:c.v.tx.length=c.tx.length:=List.length_map ..
 have e2:c.v.rg.length=c.rg.length:=List.length_map ..
 have e3:c.v.tx.flatMap gJ=c.tx.flatMap λ x=>gJ x.v:=List.flatMap_map ..
 unfold fo Ej
 rw [e1,e2,e3];rfl
theorem AB {bf:Int} {x:ky} (h:x.1.size<=32) (hp:okPs x.2.2.2):(J4 bf x).length<=2000:=by
 have h1:=cJ x.1;have h2:=px hp;have h3:=aK (x.2.1-bf).toNat;have h4:=aK (x.2.2.1-x.2.1).toNat
 unfold J4;simp only [List.length_append];omega
theorem AD {x:ky} (h:x.1.size<=32) (hp:okPs x.2.2.2):(gJ x).length<=2000:=by
 have h1:=cJ x.1;have h2:=px hp;have h4:=aK (x.2.2.1-x.2.1).toNat
 unfold gJ;simp only [List.length_append];omega
theorem AE {n:Nat} {c:Co} (h:OkC n c) (hn:n<=3):(Ej c.nd c.hd c.rl).length<=100000:=by
 have h1:=qL (f:=rE) (B:=80) c.nd λ x hx=>by
  have h2:=bA (h.nd.el x hx).1;have h3:=cJ x.nm
  have h4:=aK (x.p+1).toNat;have h5:=aK x.b.toNat;have h6:=aK (x.e-x.b).toNat
  unfold rE;simp only [List.length_append];omega
 have h2:=qL (f:=rF) (B:=80) (c.hd.zip c.rl) λ x hx=>by
  obtain ⟨i,hi⟩:=List.getElem?_of_mem hx
  rw [List.getElem?_zip_eq_some] at hi
  have h3:=(h.Ny hn hi.1 hi.2).2.2
  have h4:=cJ x.2;have h5:=aK (x.1+1).toNat
  unfold rF;simp only [List.length_append];omega
 have h3:=h.nnd;have h4:=h.Iu hn;have h5:=aK c.nd.length;have h6:=aK c.hd.length
 rw [List.length_zip] at h2
 unfold Ej;simp only [List.length_append]
 omega
end Go.Kw
