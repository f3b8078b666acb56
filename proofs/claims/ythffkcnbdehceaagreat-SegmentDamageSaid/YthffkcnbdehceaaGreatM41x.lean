/-
 M41x:sealed bytes of which one is changed are sealed no more. Plain,no program in sight.
-/
import Derived.Test.YthffkcnbdehceaaGreatM14d
import Derived.Test.YthffkcnbdehceaaGreatM02v
open List
set_option linter.unusedVariables false
set_option linter.unusedSimpArgs false
set_option linter.unusedSectionVars false
namespace Go.Kw
theorem BK {a b c:Nat} (h:a^^^b=a^^^c):b=c:=by
 have:=congrArg (a^^^ ·) h
 simpa [<-Nat.xor_assoc] using this
theorem HE {a b c:Nat} (h:a^^^c=b^^^c):a=b:=by
 rw [Nat.xor_comm a,Nat.xor_comm b] at h;exact BK h
theorem Kb:∀ i<16,∀ j<16,oq i/2^28=oq j/2^28->i=j:=by decide
theorem CZ {a:Nat} (h:a<4294967296):uR a/2^28=oq (a%2^4)/2^28:=by
 unfold uR
 rw [<-Nat.shiftRight_eq_div_pow (_^^^_),Nat.shiftRight_xor_distrib,Nat.shiftRight_eq_div_pow,Nat.shiftRight_eq_div_pow,show a/2^4/2^28=0 by omega,Nat.zero_xor]
theorem oC {a b:Nat} (ha:a<4294967296) (hb:b<4294967296) (h:uR a=uR b):a=b:=by
 have h1:=Kb (a%2^4) (by omega) (b%2^4) (by omega) (by rw [<-CZ ha,<-CZ hb,h])
 unfold uR at h
 rw [h1] at h
 have:=HE h
 omega
theorem MO {v u c:Nat} (hv:v<4294967296) (hu:u<4294967296) (hc:c<256) (h:uU v c=uU u c):v=u:=
 HE (oC (cw hv (by omega)) (cw hu (by omega)) (oC (fu (cw hv (by omega))) (fu (cw hu (by omega))) h))
theorem MP {v c d:Nat} (hv:v<4294967296) (hc:c<256) (hd:d<256) (h:uU v c=uU v d):c=d:=
 BK (oC (cw hv (by omega)) (cw hv (by omega)) (oC (fu (cw hv (by omega))) (fu (cw hv (by omega))) h))
theorem oD {v c:Nat} (hv:v<4294967296) (hc:c<256):uU v c<4294967296:=fu (fu (cw hv (by omega)))
theorem rX:∀ (l:List Nat) {v:Nat},(∀ x∈l,x<256)->v<4294967296->l.foldl uU v<4294967296
 |[],_,_,h=>h
 |c::r,_,hl,h=>rX r (λ x hx=>hl x (by simp [hx])) (oD h (hl c (by simp)))
theorem zV:∀ (l:List Nat) {v u:Nat},(∀ x∈l,x<256)->v<4294967296->u<4294967296->l.foldl uU v=l.foldl uU u->v=u
 |[],_,_,_,_,_,h=>h
 |c::r,_,_,hl,hv,hu,h=>by
  have hc:=hl c (by simp)
  exact MO hv hu hc (zV r (λ x hx=>hl x (by simp [hx])) (oD hv hc) (oD hu hc) h)
theorem HF {a r:List Nat} {c d:Nat} (ha:∀ x∈a,x<256) (hr:∀ x∈r,x<256) (hc:c<256) (hd:d<256) (h:pI (a++c::r)=pI (a++d::r)):c=d:=by
 unfold pI at h
 rw [foldl_append,foldl_append,foldl_cons,foldl_cons] at h
 have hv:=rX a ha (show 4294967295<4294967296 by omega)
 exact MP hv hc hd (zV r hr (oD hv hc) (oD hv hd) h)
theorem HG {a b:Nat} (ha:a<4294967296) (hb:b<4294967296) (h:iQ a=iQ b):a=b:=by
 simp only [iQ,List.cons.injEq,and_true] at h
 omega
theorem HH {p q:List Nat} {k v:Nat} (hp:∀ x∈p,x<256) (hv:v<256) (hk:k<(aE p).length) (hne:(aE p)[k]? ≠some v):(aE p).set k v≠aE q:=by
 intro h
 have hl:(p++iQ (iP p)).length=(q++iQ (iP q)).length:=by have:=congrArg List.length h;rwa [length_set] at this
 have hl2:p.length=q.length:=by simpa [iQ] using hl
 have hb:∀ u,(iQ u).length=4:=λ _=>rfl
 unfold aE at h hk hne
 by_cases hkp:k<p.length
 ·rw [set_append_left _ _ hkp] at h
  have ⟨h1,h2⟩:=append_inj h (by rw [length_set,hl2])
  have hs:iP p=iP q:=by
   have b1:∀ x∈q,x<256:=by
    intro x hx
    rw [<-h1] at hx
    rcases mem_or_eq_of_mem_set hx with h|h
    ·exact hp x h
    ·rw [h];exact hv
   exact HG (cw (by omega) (rX p hp (by omega))) (cw (by omega) (rX q b1 (by omega))) h2
  have hc:=BK hs
  have e1:p=p.take k++p[k]::p.drop (k+1):=by rw [getElem_cons_drop,take_append_drop]
  have e2:q=p.take k++v::p.drop (k+1):=by rw [<-h1,set_eq_take_append_cons_drop,if_pos hkp]
  rw [e2] at hc
  rw [show pI p=pI (p.take k++p[k]::p.drop (k+1)) from congrArg pI e1] at hc
  have:=HF (λ x hx=>hp x (mem_of_mem_take hx)) (λ x hx=>hp x (mem_of_mem_drop hx)) (hp _ (getElem_mem hkp)) hv hc
  exact hne (by rw [getElem?_append_left hkp,getElem?_eq_getElem hkp,this])
 ·rw [set_append_right _ _ (by omega)] at h
  have ⟨h1,h2⟩:=append_inj h hl2
  subst h1
  have h3:=congrArg (·[k-p.length]?) h2
  simp only [getElem?_set] at h3
  rw [getElem?_append_right (by omega)] at hne
  rw [length_append] at hk
  simp at h3
  rw [if_pos (by have:=hb (iP p);omega)] at h3
  exact hne h3.symm
theorem Kc {s:ByteArray} {p:List Nat} {k b:Nat} (hs:aV s=aE p) (hp:∀ x∈p,x<256) (hb:b<256) (hk:k<s.size) (hne:(aV s)[k]? ≠some b):(strOf ((aV s).set k b)).size<=s.size+1/\(∀ q,aV (strOf ((aV s).set k b))=aE q->Agr q p)/\s≠strOf ((aV s).set k b):=by
 have hl:∀ x∈(aV s).set k b,x<256:=λ x hx=>by
  rcases mem_or_eq_of_mem_set hx with h|h
  ·exact fQ s x h
  ·rw [h];exact hb
 refine ⟨?_,λ q hq=> ?_,λ h=> ?_⟩
 ·rw [bX,length_set,az];omega
 ·rw [dd hl,hs] at hq
  exact absurd hq (HH hp hb (by rw [<-hs,az];exact hk) (by rw [<-hs];exact hne))
 ·have h1:=congrArg aV h
  rw [dd hl] at h1
  rw [h1,getElem?_set,if_pos rfl,if_pos (by rw [az];exact hk)] at hne
  exact hne rfl
theorem Kd {s:ByteArray} {p:List Nat} {k:Nat} (hs:aV s=aE p) (hk:k<s.size):(s.extract 0 k).size<=s.size+1/\(∀ q,aV (s.extract 0 k)=aE q->Agr q p)/\s≠s.extract 0 k:=by
 have hz:(s.extract 0 k).size=k:=by rw [ByteArray.size_extract];omega
 refine ⟨by omega,λ q hq=> ?_,λ h=>by have h1:=congrArg ByteArray.size h;omega⟩
 have h1:aV (s.extract 0 k)=(aV s).take k:=by unfold aV;rw [nu];simp only [drop_zero,Nat.sub_zero,map_take]
 have hsz:s.size=p.length+4:=by rw [<-az,hs,aY]
 have hql:q.length+4=k:=by rw [<-aY,<-hq,az,hz]
 rw [h1,hs] at hq
 have h2:=congrArg (List.take q.length) hq
 unfold aE at h2
 rw [take_left,take_take,Nat.min_eq_left (by omega),take_append_of_le_length (by omega)] at h2
 exact .inl ⟨p.drop q.length,by have h3:=take_append_drop q.length p;rw [h2] at h3;exact h3.symm⟩
theorem Ke {s:ByteArray} {p:List Nat} {b:Nat} (hs:aV s=aE p) (hb:b<256):(s++strOf [b]).size<=s.size+1/\(∀ q,aV (s++strOf [b])=aE q->Agr q p)/\s≠s++strOf [b]:=by
 have hz:(s++strOf [b]).size=s.size+1:=by rw [ByteArray.size_append,bX];rfl
 refine ⟨by omega,λ q hq=> ?_,λ h=>by have h1:=congrArg ByteArray.size h;omega⟩
 have h1:aV (s++strOf [b])=aV s++[b]:=by
  have h2:aV (s++strOf [b])=aV s++aV (strOf [b]):=by unfold aV;simp only [ByteArray.data_append,Array.toList_append,map_append]
  rw [h2,dd (λ x hx=>by rw [mem_singleton.1 hx];exact hb)]
 have hsz:s.size=p.length+4:=by rw [<-az,hs,aY]
 have hql:q.length+4=s.size+1:=by rw [<-aY,<-hq,az,hz]
 rw [h1,hs] at hq
 have h2:=congrArg (List.take q.length) hq
 unfold aE at h2
 rw [take_left,append_assoc,take_append,take_of_length_le (by omega)] at h2
 exact .inr ⟨_,h2.symm⟩
end Go.Kw
