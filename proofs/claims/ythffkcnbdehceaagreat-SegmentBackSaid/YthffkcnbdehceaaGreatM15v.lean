/-
 M15v:the reading of a block,step by step. No program in sight.
-/
import Derived.Test.YthffkcnbdehceaaGreatM15u
open List hiding count
set_option linter.unusedVariables false
set_option linter.unusedSimpArgs false
set_option linter.unusedSectionVars false
namespace Go.Kw
def uX (b:List Nat):Nat×Bool×List Nat:=aU true b 128
def uY (b:List Nat):Nat×Bool×List Nat:=aU (uX b).2.1 (uX b).2.2 31
def uZ (b:List Nat):Nat×Bool×List Nat:=aU (uY b).2.1 (uY b).2.2 128
def uS (b:List Nat):Nat:=((uX b).1*(uY b).1+7)/8
def uE (b:List Nat):Option (List Nat):=Il (uY b).1 (uX b).1 (uZ b).1 (uZ b).2.1 ((uZ b).2.2.drop (uS b)) 0 (jq ((uZ b).2.2.take (uS b)) (uX b).1 (uY b).1)
theorem xK (b:List Nat):uV b=if (uZ b).2.1=false\/(uZ b).2.2.length<uS b then none else match uE b with|none=>none|some vs=>if bS vs=b then some vs else none:=rfl
theorem Hp {b:List Nat} (h:(uZ b).2.1=false\/(uZ b).2.2.length<uS b):uV b=none:=by rw [xK,if_pos h]
theorem Hq {b:List Nat} (h:uE b=none):uV b=none:=by rw [xK,h];split<;>rfl
theorem zS {b vs:List Nat} (h1:¬ ((uZ b).2.1=false\/(uZ b).2.2.length<uS b)) (h:uE b=some vs):uV b=if bS vs=b then some vs else none:=by rw [xK,if_neg h1,h]
theorem Lq (b:List Nat):(uX b).1<=128:=kT _ _ _
theorem Lr (b:List Nat):(uY b).1<=31:=kT _ _ _
theorem O7 (b:List Nat):(uZ b).1<=128:=kT _ _ _
theorem MD (b:List Nat):(uX b).1*(uY b).1<=128*31:=Nat.mul_le_mul (Lq b) (Lr b)
theorem Hr (b:List Nat):∀ x∈(uZ b).2.2,x∈b:=λ x hx=>dK _ _ _ x (dK _ _ _ x (dK _ _ _ x hx))
theorem Ht (b:List Nat):∀ x∈(uX b).2.2,x∈b:=λ x hx=>dK _ _ _ x hx
theorem ME (b:List Nat):∀ x∈(uY b).2.2,x∈b:=λ x hx=>Ht b x (dK _ _ _ x hx)
theorem Hu (b:List Nat):(uX b).2.2.length<=b.length:=gG _ _ _
theorem Hv (b:List Nat):(uY b).2.2.length<=b.length:=Nat.le_trans (gG _ _ _) (Hu b)
theorem MF (b:List Nat):(uZ b).2.2.length<=b.length:=Nat.le_trans (gG _ _ _) (Hv b)
def mw (l:List Nat) (n w k:Nat):List Nat:=(List.range k).map (λ i=>ou l (w*i) w)++List.replicate (n-k) 0
theorem EG (l:List Nat) (n w:Nat):mw l n w 0=List.replicate n 0:=by simp [mw]
theorem qy {l:List Nat} {n w k:Nat} (h:k<=n):(mw l n w k).length=n:=by simp [mw];omega
theorem Hw (l:List Nat) (n w:Nat):mw l n w n=jq l n w:=by simp [mw,jq]
theorem Hx {l:List Nat} {n w k:Nat} (h:k<n):(mw l n w k).set k (ou l (w*k) w)=mw l n w (k+1):=by
 unfold mw
 rw [set_append_right _ _ (by simp),show n-k=(n-(k+1))+1 by omega,replicate_succ,range_succ]
 simp
theorem Hy (l:List Nat) (n w:Nat) (hw:w<=31):∀ x∈jq l n w,x<=2147483647:=λ x hx=>by
 obtain ⟨i,_,rfl⟩:=mem_map.1 hx
 have h1:=uc l (w*i) w
 have h2:2^w<=2^31:=Nat.pow_le_pow_right (by decide) hw
 omega
theorem xL (l:List Nat) (n w:Nat):(jq l n w).length=n:=by simp [jq]
theorem K8 {a b:Nat} (ha:a<=2147483647) (hb:b<=2147483647):a|||b<=2147483647:=by
 have:=Nat.or_lt_two_pow (n:=31) (x:=a) (y:=b) (by omega) (by omega);omega
theorem K9 {h w:Nat} (hh:h<=2147483647/2^w):h*2^w<=2147483647:=Nat.le_trans (Nat.mul_le_mul_right _ hh) (Nat.div_mul_le_self _ _)
def oA (l:List Nat) (s:List Nat×List (List Nat)×Nat) (x:Nat):List Nat×List (List Nat)×Nat:=
 (if (s.2.1.getD (ai l x) []).length=0 then s.1.set (ai l x) (cn l x) else s.1,s.2.1.set (ai l x) (s.2.1.getD (ai l x) []++[x]),ai l x)
def tabN (l ord:List Nat):List Nat×List (List Nat)×Nat:=ord.foldl (oA l) (List.replicate 16 0,List.replicate 16 [],0)
theorem eC (l ord:List Nat) (x:Nat):tabN l (ord++[x])=oA l (tabN l ord) x:=by simp [tabN]
theorem Hz {α:Type} {l:List α} {d v:α} {i j:Nat} (h:i<l.length):(l.set i v).getD j d=if i=j then v else l.getD j d:=by
 simp only [getD_eq_getElem?_getD,getElem?_set]
 by_cases hij:i=j
 ·simp [hij,hij▸h]
 ·simp [hij]
def uj (l:List Nat):List Nat->Nat
 |[]=>0
 |x::_=>cn l x
theorem uW (l:List Nat) {a:List Nat} (b:List Nat) (h:a≠[]):uj l (a++b)=uj l a:=by
 cases a with
 |nil=>exact absurd rfl h
 |cons y r=>rfl
theorem eD (l:List Nat) (h:∀ i,ai l i<=15):∀ ord:List Nat,(tabN l ord).1.length=16/\(tabN l ord).2.1.length=16/\
  (∀ n,n<16->(tabN l ord).2.1.getD n []=ord.filter (λ x=>ai l x==n)/\(tabN l ord).1.getD n 0=uj l (ord.filter λ x=>ai l x==n))/\(tabN l ord).2.2<=15:=by
 refine kR ⟨by simp [tabN],by simp [tabN],λ n hn=> ?_,by simp [tabN]⟩ λ ord x ih=> ?_
 ·have e1:(tabN l []).2.1.getD n []=[]:=by simp only [tabN,foldl_nil,getD_eq_getElem?_getD,getElem?_replicate];rw [if_pos hn];rfl
  have e2:(tabN l []).1.getD n 0=0:=by simp only [tabN,foldl_nil];exact ca ..
  exact ⟨e1,e2⟩
 ·obtain ⟨h1,h2,h3,h4⟩:=ih
  have hx:=h x
  rw [eC]
  unfold oA
  refine ⟨by simp only;split<;>simp [h1],by simp [h2],λ n hn=> ?_,h x⟩
  obtain ⟨g1,g2⟩:=h3 n hn
  obtain ⟨k1,k2⟩:=h3 (ai l x) (by omega)
  simp only
  rw [Hz (by omega),filter_append]
  by_cases he:ai l x=n
  ·subst he
   have e3:[x].filter (λ z=>ai l z==ai l x)=[x]:=by simp
   rw [if_pos rfl,e3,k1]
   refine ⟨rfl,?_⟩
   by_cases h0:(ord.filter λ z=>ai l z==ai l x)=[]
   ·rw [h0,if_pos (by rfl),ew (by omega)];rfl
   ·have hl0:¬ (ord.filter λ z=>ai l z==ai l x).length=0:=λ h'=>h0 (eq_nil_of_length_eq_zero h')
    rw [if_neg hl0,k2,uW l _ h0]
  ·have e3:[x].filter (λ z=>ai l z==n)=[]:=by simp [he]
   rw [if_neg he,e3,append_nil]
   refine ⟨g1,?_⟩
   split
   ·rw [dh he];exact g2
   ·exact g2
theorem EH (l:List Nat):∀ ord:List Nat,Srt (ai l) ord->∀ x∈ord,ai l x<=(tabN l ord).2.2:=by
 refine kR (λ _ x h=>by cases h) λ ord y _ hs x hx=> ?_
 rw [eC]
 show ai l x<=ai l y
 rcases mem_append.1 hx with hx|hx
 ·exact (Srt.append.1 hs).2.2 x hx y (by simp)
 ·simp at hx;subst hx;exact Nat.le_refl _
def eU (l:List Nat):List Nat×List (List Nat)×Nat:=tabN l (aX l)
theorem HA {l:List Nat} (h:GoodLens l) {n:Nat} (hn:n<16):(eU l).2.1.getD n []=oa l n:=((eD l h.le (aX l)).2.2.1 n hn).1
theorem HB {l:List Nat} (h:GoodLens l) {n:Nat} (hn:n<16):(eU l).1.getD n 0=uQ l n:=by
 rw [eU,((eD l h.le (aX l)).2.2.1 n hn).2]
 show uj l (oa l n)=uQ l n
 unfold uQ uj
 cases oa l n<;>rfl
theorem HC {l:List Nat} {x:Nat} (hx:0<ai l x):ai l x<=(eU l).2.2:=EH l _ (cU _) x (lj l x hx)
theorem MG {l:List Nat} (h:GoodLens l):(eU l).2.2<=15:=(eD l h.le (aX l)).2.2.2
def BI (F:List Nat) (S:List (List Nat)) (v n k:Nat):Bool:=
 decide (0<(S.getD k []).length)&&decide (v<=(F.getD k 0+(S.getD k []).length-1)/2^(k-n))&&decide (F.getD k 0/2^(k-n)<=v)
def vd (F:List Nat) (S:List (List Nat)) (lo v n:Nat):Bool:=(List.range' n (lo+1-n)).any (BI F S v n)
theorem wA {F:List Nat} {S:List (List Nat)} {lo v n k:Nat} (h1:n<=k) (h2:k<=lo) (h:BI F S v n k=true):vd F S lo v n=true:=by
 unfold vd
 rw [any_eq_true]
 exact ⟨k,by rw [mem_range'_1];omega,h⟩
theorem BJ {F:List Nat} {S:List (List Nat)} {lo v n:Nat} (h:∀ k,n<=k->k<=lo->BI F S v n k=false):vd F S lo v n=false:=by
 unfold vd
 rw [any_eq_false]
 intro k hk
 rw [mem_range'_1] at hk
 simp [h k (by omega) (by omega)]
theorem Ka {F:List Nat} {S:List (List Nat)} {lo v n:Nat} (h:vd F S lo v n=true):n<=lo:=by
 unfold vd at h
 rw [any_eq_true] at h
 obtain ⟨k,hk,_⟩:=h
 rw [mem_range'_1] at hk;omega
def gL (F:List Nat) (S:List (List Nat)) (lo:Nat) (l:List Nat) (N:Nat):Nat->Nat->Nat->Nat->Nat×Nat×Nat
 |0,_,_,pos=>(0,9,pos)
 |f+1,n,v,pos=>
  if N<pos+1 then (0,10,pos)
  else if vd F S lo (2*v+rb l pos) n=false then (0,9,pos+1)
  else if F.getD n 0<=2*v+rb l pos/\2*v+rb l pos-F.getD n 0<(S.getD n []).length then ((S.getD n []).getD (2*v+rb l pos-F.getD n 0) 0,0,pos+1)
  else gL F S lo l N f (n+1) (2*v+rb l pos) (pos+1)
theorem CV {l:List Nat} (h:GoodLens l) {x:Nat} (hx:0<ai l x) (A B:List Bool):∀ (f n:Nat),f+n=17->1<=n->n<=ai l x->
  gL (eU l).1 (eU l).2.1 (eU l).2.2 (aJ (A++aZ (cn l x) (ai l x)++B)) (A++aZ (cn l x) (ai l x)++B).length f n (ou (aJ (A++aZ (cn l x) (ai l x)++B)) A.length (n-1)) (A.length+(n-1))=(x,0,A.length+ai l x)
 |0,n,hf,h1,hn=>by have:=h.le x;omega
 |f+1,n,hf,h1,hn=>by
  have hL:=h.le x
  obtain ⟨_,hcode⟩:=rQ h hx
  obtain ⟨m,hm⟩:=BB hx
  have hml:=(List.getElem?_eq_some_iff.1 hm).1
  have hfst:=u3 h hm
  have hlen:(A++aZ (cn l x) (ai l x)++B).length=A.length+ai l x+B.length:=by simp [aW,Nat.add_assoc]
  have hv:2*ou (aJ (A++aZ (cn l x) (ai l x)++B)) A.length (n-1)+rb (aJ (A++aZ (cn l x) (ai l x)++B)) (A.length+(n-1))=cn l x/2^(ai l x-n):=by
   have e:=pN A B (cn l x) (ai l x) hcode n hn
   rw [<-e]
   conv=>rhs;rw [show n=(n-1)+1 by omega,ou]
  have hbvn:ou (aJ (A++aZ (cn l x) (ai l x)++B)) A.length n=cn l x/2^(ai l x-n):=pN A B (cn l x) (ai l x) hcode n hn
  rw [gL,hv,if_neg (by omega)]
  have hbeg:vd (eU l).1 (eU l).2.1 (eU l).2.2 (cn l x/2^(ai l x-n)) n=true:=by
   refine wA hn (HC hx) ?_
   unfold BI
   rw [HA h (by omega),HB h (by omega)]
   simp only [Bool.and_eq_true,decide_eq_true_eq]
   exact ⟨⟨by omega,Nat.div_le_div_right (by omega)⟩,Nat.div_le_div_right (by omega)⟩
  rw [if_neg (by rw [hbeg];simp),HA h (by omega),HB h (by omega)]
  rcases Nat.lt_or_ge n (ai l x) with hlt|hge
  ·rw [if_neg]
   ·have ih:=CV h hx A B f (n+1) (by omega) (by omega) (by omega)
    rw [Nat.add_sub_cancel,hbvn] at ih
    rw [show A.length+(n-1)+1=A.length+n by omega]
    exact ih
   ·rintro ⟨ha,hb⟩
    have hy:(oa l n)[cn l x/2^(ai l x-n)-uQ l n]? =some (oa l n)[cn l x/2^(ai l x-n)-uQ l n]:=getElem?_eq_getElem hb
    have h5:=u3 h hy
    exact Ey h hx hlt hy (by omega)
  ·have hne:n=ai l x:=by omega
   have e0:cn l x/2^(ai l x-n)=cn l x:=by rw [hne,Nat.sub_self];simp
   rw [e0,hne] at*
   rw [if_pos ⟨by omega,by omega⟩]
   have e1:cn l x-uQ l (ai l x)=m:=by omega
   have e2:(oa l (ai l x)).getD m 0=x:=getD_some hm
   rw [e1,e2]
   simp only [Prod.mk.injEq,true_and]
   omega
def ve (F:List Nat) (S:List (List Nat)) (lo:Nat) (l:List Nat) (N:Nat):Nat->Nat->List Nat->Option (List Nat×Nat)
 |0,pos,acc=>some (acc,pos)
 |c+1,pos,acc=>if (gL F S lo l N 16 1 0 pos).2.1≠0 then none else ve F S lo l N c (gL F S lo l N 16 1 0 pos).2.2 (acc++[(gL F S lo l N 16 1 0 pos).1])
theorem CX {l:List Nat} (h:GoodLens l):∀ (s:List Nat) (A:List Bool) (acc:List Nat) (bits:List Bool),(∀ x∈s,0<ai l x)->bits=A++cy l s->
  ve (eU l).1 (eU l).2.1 (eU l).2.2 (aJ bits) bits.length s.length A.length acc=some (acc++s,bits.length)
 |[],A,acc,bits,_,hb=>by subst hb;simp [ve,cy]
 |x::r,A,acc,bits,hs,hb=>by
  have hx:=hs x (by simp)
  have hb2:bits=A++aZ (cn l x) (ai l x)++cy l r:=by rw [hb];simp [cy]
  have h1:=CV h hx A (cy l r) 16 1 rfl (Nat.le_refl _) hx
  rw [<-hb2,Nat.sub_self,ou,Nat.add_zero] at h1
  have ih:=CX h r (A++aZ (cn l x) (ai l x)) (acc++[x]) bits (λ y hy=>hs y (mem_cons_of_mem _ hy)) hb2
  rw [length_cons,ve,h1]
  simp only [ne_eq,not_true,if_false]
  rw [length_append,aW] at ih
  rw [ih];simp
def vf (l b:List Nat) (bits count:Nat):Option (List Nat):=
 match ve (eU l).1 (eU l).2.1 (eU l).2.2 (b.take ((bits+7)/8)) bits count 0 [] with
 |none=>none
 |some p=>if p.2=bits then some p.1 else none
theorem CY {l:List Nat} (h:GoodLens l) (s:List Nat) (hs:∀ x∈s,0<ai l x):vf l (aJ (cy l s)) (cy l s).length s.length=some s:=by
 have:=CX h s [] [] (cy l s) hs (by simp)
 unfold vf
 rw [take_of_length_le (by rw [aR];exact Nat.le_refl _)]
 rw [length_nil,nil_append] at this
 rw [this];simp
theorem zT (F:List Nat) (S:List (List Nat)) (lo:Nat) (l:List Nat) (N:Nat):∀ f n v pos,pos<=N->(gL F S lo l N f n v pos).2.2<=N
 |0,_,_,_,h=>h
 |f+1,n,v,pos,h=>by
  rw [gL]
  split
  ·exact h
  ·split
   ·show pos+1<=N;omega
   ·split
    ·show pos+1<=N;omega
    ·exact zT F S lo l N f _ _ _ (by omega)
theorem zU {α:Type} {l:List α} {x d:α} (h:x∈l):∃ n,n<l.length/\l.getD n d=x:=by
 obtain ⟨n,hn,rfl⟩:=mem_iff_getElem.1 h
 exact ⟨n,hn,by simp [getD_eq_getElem?_getD,hn]⟩
theorem MH {l:List Nat} (h:GoodLens l):∀ x∈(eU l).1,x<2^15:=λ x hx=>by
 have hs:=eD l h.le (aX l)
 obtain ⟨n,hn,rfl⟩:=zU (d:=0) hx
 have hn16:n<16:=by have:=hs.1;unfold eU at hn;omega
 rw [HB h hn16]
 cases hg:oa l n with
 |nil=>unfold uQ;rw [hg];exact Nat.two_pow_pos 15
 |cons y r=>
  have hy:(oa l n)[0]? =some y:=by rw [hg];rfl
  have h1:=u3 h hy
  obtain ⟨_,_,h3⟩:=iL h hy
  have h4:2^n<=2^15:=Nat.pow_le_pow_right (by decide) (by omega)
  omega
theorem MI {l:List Nat} (h:GoodLens l):∀ q∈(eU l).2.1,q.length<=l.length:=λ q hq=>by
 have hs:=eD l h.le (aX l)
 obtain ⟨n,hn,rfl⟩:=zU (d:=[]) hq
 have hn16:n<16:=by have:=hs.2.1;unfold eU at hn;omega
 rw [HA h hn16]
 exact Nat.le_trans (length_filter_le _ _) (fV l)
end Go.Kw
