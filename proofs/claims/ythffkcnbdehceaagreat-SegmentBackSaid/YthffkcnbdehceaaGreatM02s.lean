/-
 M02s:the references of the layers 2,3 and 15 compute what the program computes. No program in sight.
-/
import Derived.Test.YthffkcnbdehceaaGreatM14d
open List
set_option linter.unusedVariables false
set_option linter.unusedSimpArgs false
set_option linter.unusedSectionVars false
namespace Go.Kw
end Go.Kw
namespace Go.Kw
open Go.RowKit
theorem Gm (l:List Nat):om l 0=u7 l.length 0 []++er 0 (mj l (dE l.length)):=by simp [om,jy]
theorem Js (l:List Nat):om l 1=u7 l.length 1 (bh l)++er 1 (k9 l (dE l.length)):=by simp [om,jy]
theorem Jt {l:List Nat} {n k:Nat} (h:k<n):(mj l n)[k]? =some (bS (ez l k),0):=by simp [mj,h]
theorem Ju {l:List Nat} {n k:Nat} (h:k<n):(k9 l n)[k]? =some (aJ (cy (bh l) (ez l k)),(cy (bh l) (ez l k)).length):=by simp [k9,h]
theorem Jv (l:List Nat) (n:Nat):(mj l n).length=n:=by simp [mj]
theorem Jw (l:List Nat) (n:Nat):(k9 l n).length=n:=by simp [k9]
theorem Cp (kind:Nat):∀ (ps:List (List Nat×Nat)) (B:Nat),(∀ p∈ps,p.1.length<=B)->(er kind ps).length<=(10+B)*ps.length
 |[],B,_=>by simp [er]
 |p::r,B,h=>by
  have ih:=Cp kind r B λ q hq=>h q (by simp [hq])
  have hp:=h p (by simp)
  have hu:=aN (if kind=0 then p.1.length else p.2)
  have e:er kind (p::r)=u6 kind p++er kind r:=rfl
  rw [e,u6,length_append,length_append,length_cons,Nat.mul_add]
  omega
theorem rF {l:List Nat} {k:Nat} (hl:OkN l) (hk:k<=1):(om l k).length<=2000000:=by
 have hn:=hl.len
 have hnb:dE l.length<=64:=by unfold dE;omega
 have hs:(if k=1 then bh l else []).length<=1024:=by
  split
  ·rw [eB];exact hl.mx
  ·simp
 have hh:=mm l.length k (if k=1 then bh l else [])
 have hp:=Cp k (if k=1 then k9 l (dE l.length) else mj l (dE l.length)) 20000 λ p hp=>by
  split at hp
  ·obtain ⟨i,_,rfl⟩:=mem_map.1 hp
   have h1:=fC (GoodLens.wC (gZ l hl.mx)) (ez l i)
   have h2:=cr l i
   show (aJ _).length<=_
   rw [aR];omega
  ·obtain ⟨i,_,rfl⟩:=mem_map.1 hp
   have h2:=cr l i
   have:=mo (ez l i) (by omega)
   show (bS _).length<=_
   omega
 have hq:(if k=1 then k9 l (dE l.length) else mj l (dE l.length)).length<=64:=by
  split
  ·rw [Jw];exact hnb
  ·rw [Jv];exact hnb
 have:=Nat.mul_le_mul_left (10+20000) hq
 unfold om jy
 rw [length_append];omega
end Go.Kw
