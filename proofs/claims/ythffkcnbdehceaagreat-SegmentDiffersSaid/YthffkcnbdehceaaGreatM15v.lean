/-
 M15v:the reading of a block,step by step. No program in sight.
-/
import Derived.Test.YthffkcnbdehceaaGreatM15u
import Derived.Test.YthffkcnbdehceaaGreatM14d
set_option linter.unusedVariables false
set_option linter.unusedSimpArgs false
set_option linter.unusedSectionVars false
namespace Go.Kw
def uX (b:List Nat):Nat×Bool×List Nat:=aR true b 128
def uY (b:List Nat):Nat×Bool×List Nat:=aR (uX b).2.1 (uX b).2.2 31
def uZ (b:List Nat):Nat×Bool×List Nat:=aR (uY b).2.1 (uY b).2.2 128
def uS (b:List Nat):Nat:=((uX b).1*(uY b).1+7)/8
def uE (b:List Nat):Option (List Nat):=Gg (uY b).1 (uX b).1 (uZ b).1 (uZ b).2.1 ((uZ b).2.2.drop (uS b)) 0 (j4 ((uZ b).2.2.take (uS b)) (uX b).1 (uY b).1)
theorem uR (b:List Nat):sr b=if (uZ b).2.1=false\/(uZ b).2.2.length<uS b then none else match uE b with|none=>none|some vs=>if bI vs=b then some vs else none:=rfl
theorem Fo {b:List Nat} (h:(uZ b).2.1=false\/(uZ b).2.2.length<uS b):sr b=none:=by rw [uR,if_pos h]
theorem Fp {b:List Nat} (h:uE b=none):sr b=none:=by rw [uR,h];split<;>rfl
theorem xL {b vs:List Nat} (h1:¬ ((uZ b).2.1=false\/(uZ b).2.2.length<uS b)) (h:uE b=some vs):sr b=if bI vs=b then some vs else none:=by rw [uR,if_neg h1,h]
theorem J9 (b:List Nat):(uX b).1<=128:=ku _ _ _
theorem Ja (b:List Nat):(uY b).1<=31:=ku _ _ _
theorem LN (b:List Nat):(uZ b).1<=128:=ku _ _ _
theorem Kd (b:List Nat):(uX b).1*(uY b).1<=128*31:=Nat.mul_le_mul (J9 b) (Ja b)
theorem Fq (b:List Nat):∀ x∈(uZ b).2.2,x∈b:=λ x hx=>dz _ _ _ x (dz _ _ _ x (dz _ _ _ x hx))
theorem Fs (b:List Nat):∀ x∈(uX b).2.2,x∈b:=λ x hx=>dz _ _ _ x hx
theorem Ke (b:List Nat):∀ x∈(uY b).2.2,x∈b:=λ x hx=>Fs b x (dz _ _ _ x hx)
theorem Ft (b:List Nat):(uX b).2.2.length<=b.length:=gk _ _ _
theorem Fu (b:List Nat):(uY b).2.2.length<=b.length:=Nat.le_trans (gk _ _ _) (Ft b)
theorem Kf (b:List Nat):(uZ b).2.2.length<=b.length:=Nat.le_trans (gk _ _ _) (Fu b)
def lK (l:List Nat) (n w k:Nat):List Nat:=(List.range k).map (λ i=>ng l (w*i) w)++List.replicate (n-k) 0
theorem CH (l:List Nat) (n w:Nat):lK l n w 0=List.replicate n 0:=by simp [lK]
theorem oQ {l:List Nat} {n w k:Nat} (h:k<=n):(lK l n w k).length=n:=by simp [lK];omega
theorem Fv (l:List Nat) (n w:Nat):lK l n w n=j4 l n w:=by simp [lK,j4]
theorem Fw {l:List Nat} {n w k:Nat} (h:k<n):(lK l n w k).set k (ng l (w*k) w)=lK l n w (k+1):=by
 unfold lK
 rw [List.set_append_right _ _ (by simp),show n-k=(n-(k+1))+1 by omega,List.replicate_succ,List.range_succ]
 simp
theorem Fx (l:List Nat) (n w:Nat) (hw:w<=31):∀ x∈j4 l n w,x<=2147483647:=λ x hx=>by
 obtain ⟨i,_,rfl⟩:=List.mem_map.1 hx
 have h1:=rz l (w*i) w
 have h2:2^w<=2^31:=Nat.pow_le_pow_right (by decide) hw
 omega
theorem uU (l:List Nat) (n w:Nat):(j4 l n w).length=n:=by simp [j4]
theorem I0 {a b:Nat} (ha:a<=2147483647) (hb:b<=2147483647):a|||b<=2147483647:=by
 have:=Nat.or_lt_two_pow (n:=31) (x:=a) (y:=b) (by omega) (by omega);omega
theorem I1 {h w:Nat} (hh:h<=2147483647/2^w):h*2^w<=2147483647:=Nat.le_trans (Nat.mul_le_mul_right _ hh) (Nat.div_mul_le_self _ _)
end Go.Kw
namespace Go.Kw
def np (l:List Nat) (s:List Nat×List (List Nat)×Nat) (x:Nat):List Nat×List (List Nat)×Nat:=
 (if (s.2.1.getD (ai l x) []).length=0 then s.1.set (ai l x) (bX l x) else s.1,s.2.1.set (ai l x) (s.2.1.getD (ai l x) []++[x]),ai l x)
def tabN (l ord:List Nat):List Nat×List (List Nat)×Nat:=ord.foldl (np l) (List.replicate 16 0,List.replicate 16 [],0)
theorem ek (l ord:List Nat) (x:Nat):tabN l (ord++[x])=np l (tabN l ord) x:=by simp [tabN]
theorem Fy {α:Type} {l:List α} {d v:α} {i j:Nat} (h:i<l.length):(l.set i v).getD j d=if i=j then v else l.getD j d:=by
 simp only [List.getD_eq_getElem?_getD,List.getElem?_set]
 by_cases hij:i=j
 ·simp [hij,hij▸h]
 ·simp [hij]
def rH (l:List Nat):List Nat->Nat
 |[]=>0
 |x::_=>bX l x
theorem su (l:List Nat) {a:List Nat} (b:List Nat) (h:a≠[]):rH l (a++b)=rH l a:=by
 cases a with
 |nil=>exact absurd rfl h
 |cons y r=>rfl
theorem eo (l:List Nat) (h:∀ i,ai l i<=15):∀ ord:List Nat,(tabN l ord).1.length=16/\(tabN l ord).2.1.length=16/\
  (∀ n,n<16->(tabN l ord).2.1.getD n []=ord.filter (λ x=>ai l x==n)/\(tabN l ord).1.getD n 0=rH l (ord.filter λ x=>ai l x==n))/\(tabN l ord).2.2<=15:=by
 refine ko ⟨by simp [tabN],by simp [tabN],λ n hn=> ?_,by simp [tabN]⟩ λ ord x ih=> ?_
 ·have e1:(tabN l []).2.1.getD n []=[]:=by simp only [tabN,List.foldl_nil,List.getD_eq_getElem?_getD,List.getElem?_replicate];rw [if_pos hn];rfl
  have e2:(tabN l []).1.getD n 0=0:=by simp only [tabN,List.foldl_nil];exact bS ..
  exact ⟨e1,e2⟩
 ·obtain ⟨h1,h2,h3,h4⟩:=ih
  have hx:=h x
  rw [ek]
  unfold np
  refine ⟨by simp only;split<;>simp [h1],by simp [h2],λ n hn=> ?_,h x⟩
  obtain ⟨g1,g2⟩:=h3 n hn
  obtain ⟨k1,k2⟩:=h3 (ai l x) (by omega)
  simp only
  rw [Fy (by omega),List.filter_append]
  by_cases he:ai l x=n
  ·subst he
   have e3:[x].filter (λ z=>ai l z==ai l x)=[x]:=by simp
   rw [if_pos rfl,e3,k1]
   refine ⟨rfl,?_⟩
   by_cases h0:(ord.filter λ z=>ai l z==ai l x)=[]
   ·rw [h0,if_pos (by rfl),ef (by omega)];rfl
   ·have hl0:¬ (ord.filter λ z=>ai l z==ai l x).length=0:=λ h'=>h0 (List.eq_nil_of_length_eq_zero h')
    rw [if_neg hl0,k2,su l _ h0]
  ·have e3:[x].filter (λ z=>ai l z==n)=[]:=by simp [he]
   rw [if_neg he,e3,List.append_nil]
   refine ⟨g1,?_⟩
   split
   ·rw [cY he];exact g2
   ·exact g2
theorem CI (l:List Nat):∀ ord:List Nat,Srt (ai l) ord->∀ x∈ord,ai l x<=(tabN l ord).2.2:=by
 refine ko (λ _ x h=>by cases h) λ ord y _ hs x hx=> ?_
 rw [ek]
 show ai l x<=ai l y
 rcases List.mem_append.1 hx with hx|hx
 ·exact (Srt.append.1 hs).2.2 x hx y (by simp)
 ·simp at hx;subst hx;exact Nat.le_refl _
def eG (l:List Nat):List Nat×List (List Nat)×Nat:=tabN l (aT l)
theorem Fz {l:List Nat} (h:GoodLens l) {n:Nat} (hn:n<16):(eG l).2.1.getD n []=n3 l n:=((eo l h.le (aT l)).2.2.1 n hn).1
theorem FA {l:List Nat} (h:GoodLens l) {n:Nat} (hn:n<16):(eG l).1.getD n 0=sq l n:=by
 rw [eG,((eo l h.le (aT l)).2.2.1 n hn).2]
 show rH l (n3 l n)=sq l n
 unfold sq rH
 cases n3 l n<;>rfl
theorem FB {l:List Nat} {x:Nat} (hx:0<ai l x):ai l x<=(eG l).2.2:=CI l _ (cN _) x (kL l x hx)
theorem Kg {l:List Nat} (h:GoodLens l):(eG l).2.2<=15:=(eo l h.le (aT l)).2.2.2
def zD (F:List Nat) (S:List (List Nat)) (v n k:Nat):Bool:=
 decide (0<(S.getD k []).length)&&decide (v<=(F.getD k 0+(S.getD k []).length-1)/2^(k-n))&&decide (F.getD k 0/2^(k-n)<=v)
def sx (F:List Nat) (S:List (List Nat)) (lo v n:Nat):Bool:=(List.range' n (lo+1-n)).any (zD F S v n)
theorem tN {F:List Nat} {S:List (List Nat)} {lo v n k:Nat} (h1:n<=k) (h2:k<=lo) (h:zD F S v n k=true):sx F S lo v n=true:=by
 unfold sx
 rw [List.any_eq_true]
 exact ⟨k,by rw [List.mem_range'_1];omega,h⟩
theorem zE {F:List Nat} {S:List (List Nat)} {lo v n:Nat} (h:∀ k,n<=k->k<=lo->zD F S v n k=false):sx F S lo v n=false:=by
 unfold sx
 rw [List.any_eq_false]
 intro k hk
 rw [List.mem_range'_1] at hk
 simp [h k (by omega) (by omega)]
theorem I2 {F:List Nat} {S:List (List Nat)} {lo v n:Nat} (h:sx F S lo v n=true):n<=lo:=by
 unfold sx at h
 rw [List.any_eq_true] at h
 obtain ⟨k,hk,_⟩:=h
 rw [List.mem_range'_1] at hk;omega
def gr (F:List Nat) (S:List (List Nat)) (lo:Nat) (l:List Nat) (N:Nat):Nat->Nat->Nat->Nat->Nat×Nat×Nat
 |0,_,_,pos=>(0,9,pos)
 |f+1,n,v,pos=>
  if N<pos+1 then (0,10,pos)
  else if sx F S lo (2*v+rb l pos) n=false then (0,9,pos+1)
  else if F.getD n 0<=2*v+rb l pos/\2*v+rb l pos-F.getD n 0<(S.getD n []).length then ((S.getD n []).getD (2*v+rb l pos-F.getD n 0) 0,0,pos+1)
  else gr F S lo l N f (n+1) (2*v+rb l pos) (pos+1)
theorem AW {l:List Nat} (h:GoodLens l) {x:Nat} (hx:0<ai l x) (A B:List Bool):∀ (f n:Nat),f+n=17->1<=n->n<=ai l x->
  gr (eG l).1 (eG l).2.1 (eG l).2.2 (aB (A++aU (bX l x) (ai l x)++B)) (A++aU (bX l x) (ai l x)++B).length f n (ng (aB (A++aU (bX l x) (ai l x)++B)) A.length (n-1)) (A.length+(n-1))=(x,0,A.length+ai l x)
 |0,n,hf,h1,hn=>by have:=h.le x;omega
 |f+1,n,hf,h1,hn=>by
  have hL:=h.le x
  obtain ⟨_,hcode⟩:=pH h hx
  obtain ⟨m,hm⟩:=zv hx
  have hml:=(List.getElem?_eq_some_iff.1 hm).1
  have hfst:=rj h hm
  have hlen:(A++aU (bX l x) (ai l x)++B).length=A.length+ai l x+B.length:=by simp [aS,Nat.add_assoc]
  have hv:2*ng (aB (A++aU (bX l x) (ai l x)++B)) A.length (n-1)+rb (aB (A++aU (bX l x) (ai l x)++B)) (A.length+(n-1))=bX l x/2^(ai l x-n):=by
   have e:=o8 A B (bX l x) (ai l x) hcode n hn
   rw [<-e]
   conv=>rhs;rw [show n=(n-1)+1 by omega,ng]
  have hbvn:ng (aB (A++aU (bX l x) (ai l x)++B)) A.length n=bX l x/2^(ai l x-n):=o8 A B (bX l x) (ai l x) hcode n hn
  rw [gr,hv,if_neg (by omega)]
  have hbeg:sx (eG l).1 (eG l).2.1 (eG l).2.2 (bX l x/2^(ai l x-n)) n=true:=by
   refine tN hn (FB hx) ?_
   unfold zD
   rw [Fz h (by omega),FA h (by omega)]
   simp only [Bool.and_eq_true,decide_eq_true_eq]
   exact ⟨⟨by omega,Nat.div_le_div_right (by omega)⟩,Nat.div_le_div_right (by omega)⟩
  rw [if_neg (by rw [hbeg];simp),Fz h (by omega),FA h (by omega)]
  rcases Nat.lt_or_ge n (ai l x) with hlt|hge
  ·rw [if_neg]
   ·have ih:=AW h hx A B f (n+1) (by omega) (by omega) (by omega)
    rw [Nat.add_sub_cancel,hbvn] at ih
    rw [show A.length+(n-1)+1=A.length+n by omega]
    exact ih
   ·rintro ⟨ha,hb⟩
    have hy:(n3 l n)[bX l x/2^(ai l x-n)-sq l n]? =some (n3 l n)[bX l x/2^(ai l x-n)-sq l n]:=List.getElem?_eq_getElem hb
    have h5:=rj h hy
    exact Cy h hx hlt hy (by omega)
  ·have hne:n=ai l x:=by omega
   have e0:bX l x/2^(ai l x-n)=bX l x:=by rw [hne,Nat.sub_self];simp
   rw [e0,hne] at*
   rw [if_pos ⟨by omega,by omega⟩]
   have e1:bX l x-sq l (ai l x)=m:=by omega
   have e2:(n3 l (ai l x)).getD m 0=x:=getD_some hm
   rw [e1,e2]
   simp only [Prod.mk.injEq,true_and]
   omega
def sy (F:List Nat) (S:List (List Nat)) (lo:Nat) (l:List Nat) (N:Nat):Nat->Nat->List Nat->Option (List Nat×Nat)
 |0,pos,acc=>some (acc,pos)
 |c+1,pos,acc=>if (gr F S lo l N 16 1 0 pos).2.1≠0 then none else sy F S lo l N c (gr F S lo l N 16 1 0 pos).2.2 (acc++[(gr F S lo l N 16 1 0 pos).1])
theorem AX {l:List Nat} (h:GoodLens l):∀ (s:List Nat) (A:List Bool) (acc:List Nat) (bits:List Bool),(∀ x∈s,0<ai l x)->bits=A++ch l s->
  sy (eG l).1 (eG l).2.1 (eG l).2.2 (aB bits) bits.length s.length A.length acc=some (acc++s,bits.length)
 |[],A,acc,bits,_,hb=>by subst hb;simp [sy,ch]
 |x::r,A,acc,bits,hs,hb=>by
  have hx:=hs x (by simp)
  have hb2:bits=A++aU (bX l x) (ai l x)++ch l r:=by rw [hb];simp [ch]
  have h1:=AW h hx A (ch l r) 16 1 rfl (Nat.le_refl _) hx
  rw [<-hb2,Nat.sub_self,ng,Nat.add_zero] at h1
  have ih:=AX h r (A++aU (bX l x) (ai l x)) (acc++[x]) bits (λ y hy=>hs y (List.mem_cons_of_mem _ hy)) hb2
  rw [List.length_cons,sy,h1]
  simp only [ne_eq,not_true,if_false]
  rw [List.length_append,aS] at ih
  rw [ih];simp
def sA (l b:List Nat) (bits count:Nat):Option (List Nat):=
 match sy (eG l).1 (eG l).2.1 (eG l).2.2 (b.take ((bits+7)/8)) bits count 0 [] with
 |none=>none
 |some p=>if p.2=bits then some p.1 else none
theorem AY {l:List Nat} (h:GoodLens l) (s:List Nat) (hs:∀ x∈s,0<ai l x):sA l (aB (ch l s)) (ch l s).length s.length=some s:=by
 have:=AX h s [] [] (ch l s) hs (by simp)
 unfold sA
 rw [List.take_of_length_le (by rw [aM];exact Nat.le_refl _)]
 rw [List.length_nil,List.nil_append] at this
 rw [this];simp
theorem xM (F:List Nat) (S:List (List Nat)) (lo:Nat) (l:List Nat) (N:Nat):∀ f n v pos,pos<=N->(gr F S lo l N f n v pos).2.2<=N
 |0,_,_,_,h=>h
 |f+1,n,v,pos,h=>by
  rw [gr]
  split
  ·exact h
  ·split
   ·show pos+1<=N;omega
   ·split
    ·show pos+1<=N;omega
    ·exact xM F S lo l N f _ _ _ (by omega)
theorem xN {α:Type} {l:List α} {x d:α} (h:x∈l):∃ n,n<l.length/\l.getD n d=x:=by
 obtain ⟨n,hn,rfl⟩:=List.mem_iff_getElem.1 h
 exact ⟨n,hn,by simp [List.getD_eq_getElem?_getD,hn]⟩
theorem Kh {l:List Nat} (h:GoodLens l):∀ x∈(eG l).1,x<2^15:=λ x hx=>by
 have hs:=eo l h.le (aT l)
 obtain ⟨n,hn,rfl⟩:=xN (d:=0) hx
 have hn16:n<16:=by have:=hs.1;unfold eG at hn;omega
 rw [FA h hn16]
 cases hg:n3 l n with
 |nil=>unfold sq;rw [hg];exact Nat.two_pow_pos 15
 |cons y r=>
  have hy:(n3 l n)[0]? =some y:=by rw [hg];rfl
  have h1:=rj h hy
  obtain ⟨_,_,h3⟩:=im h hy
  have h4:2^n<=2^15:=Nat.pow_le_pow_right (by decide) (by omega)
  omega
theorem Ki {l:List Nat} (h:GoodLens l):∀ q∈(eG l).2.1,q.length<=l.length:=λ q hq=>by
 have hs:=eo l h.le (aT l)
 obtain ⟨n,hn,rfl⟩:=xN (d:=[]) hq
 have hn16:n<16:=by have:=hs.2.1;unfold eG at hn;omega
 rw [Fz h hn16]
 exact Nat.le_trans (List.length_filter_le _ _) (fD l)
end Go.Kw
