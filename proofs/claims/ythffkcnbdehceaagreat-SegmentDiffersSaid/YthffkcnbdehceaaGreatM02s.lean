/-
 M02s:the references of the layers 2,3 and 15 compute what the program computes. No program in sight.
-/
import Derived.Test.YthffkcnbdehceaaGreatM14d
set_option linter.unusedVariables false
set_option linter.unusedSimpArgs false
set_option linter.unusedSectionVars false
namespace Go.Kw
end Go.Kw
namespace Go.Kw
open Go.RowKit
theorem Eg (l:List Nat):na l 0=rq l.length 0 []++ec 0 (lE l (dn l.length)):=by simp [na,jc]
theorem Hk (l:List Nat):na l 1=rq l.length 1 (aY l)++ec 1 (jF l (dn l.length)):=by simp [na,jc]
theorem Hl {l:List Nat} {n k:Nat} (h:k<n):(lE l n)[k]? =some (bI (ei l k),0):=by simp [lE,h]
theorem Hm {l:List Nat} {n k:Nat} (h:k<n):(jF l n)[k]? =some (aB (ch (aY l) (ei l k)),(ch (aY l) (ei l k)).length):=by simp [jF,h]
theorem Hn (l:List Nat) (n:Nat):(lE l n).length=n:=by simp [lE]
theorem Ho (l:List Nat) (n:Nat):(jF l n).length=n:=by simp [jF]
theorem Ap (kind:Nat):∀ (ps:List (List Nat×Nat)) (B:Nat),(∀ p∈ps,p.1.length<=B)->(ec kind ps).length<=(10+B)*ps.length
 |[],B,_=>by simp [ec]
 |p::r,B,h=>by
  have ih:=Ap kind r B λ q hq=>h q (by simp [hq])
  have hp:=h p (by simp)
  have hu:=aK (if kind=0 then p.1.length else p.2)
  have e:ec kind (p::r)=rp kind p++ec kind r:=rfl
  rw [e,rp,List.length_append,List.length_append,List.length_cons,Nat.mul_add]
  omega
theorem pq {l:List Nat} {k:Nat} (hl:OkN l) (hk:k<=1):(na l k).length<=2000000:=by
 have hn:=hl.len
 have hnb:dn l.length<=64:=by unfold dn;omega
 have hs:(if k=1 then aY l else []).length<=1024:=by
  split
  ·rw [ej];exact hl.mx
  ·simp
 have hh:=lG l.length k (if k=1 then aY l else [])
 have hp:=Ap k (if k=1 then jF l (dn l.length) else lE l (dn l.length)) 20000 λ p hp=>by
  split at hp
  ·obtain ⟨i,_,rfl⟩:=List.mem_map.1 hp
   have h1:=ff (GoodLens.tP (gG l hl.mx)) (ei l i)
   have h2:=bY l i
   show (aB _).length<=_
   rw [aM];omega
  ·obtain ⟨i,_,rfl⟩:=List.mem_map.1 hp
   have h2:=bY l i
   have:=lH (ei l i) (by omega)
   show (bI _).length<=_
   omega
 have hq:(if k=1 then jF l (dn l.length) else lE l (dn l.length)).length<=64:=by
  split
  ·rw [Ho];exact hnb
  ·rw [Hn];exact hnb
 have:=Nat.mul_le_mul_left (10+20000) hq
 unfold na jc
 rw [List.length_append];omega
end Go.Kw
