/-
 M14s:the reference of layer 14 gives out codes in the order of the program. No program in sight.
-/
import Derived.Test.YthffkcnbdehceaaGreatM06
open Go.Proofs.YthffkcnbdehceaaGreat
open List
set_option linter.unusedVariables false
set_option linter.unusedSimpArgs false
set_option linter.unusedSectionVars false
namespace Go.Kw
theorem kF {L:List Nat} (h:L.Pairwise (· < ·)) (k:Nat):L.filter (λ x=>decide (x<k+1))=L.filter (λ x=>decide (x<k))++(if k∈L then [k] else []):=by
 induction L with
 |nil=>simp
 |cons a L ih=>
  have hp:=Qd.1 h
  have ih:=ih hp.2
  rcases Sj a k with hk|hk|hk
  ·rw [QT (by simp;omega),QT (by simpa using hk),ih]
   simp [show ¬ k=a by omega]
  ·subst hk
   have e:∀ j,j<=a+1->L.filter (λ x=>decide (x<j))=[]:=λ j hj=>QN.2 λ x hx=>by have:=hp.1 x hx;simp;omega
   rw [QT (by simp),Rp (by simp),e _ (KB _),e a (by omega)]
   simp
  ·have e:∀ j,j<=k+1->L.filter (λ x=>decide (x<j))=[]:=λ j hj=>QN.2 λ x hx=>by have:=hp.1 x hx;simp;omega
   have hn:k∉L:=λ hm=>by have:=hp.1 k hm;omega
   rw [Rp (by simp;omega),Rp (by simp;omega),e _ (KB _),e k (by omega),M2 (by simp [hn];omega)]
   rfl
theorem GR (l:List Nat) (n:Nat):(HQ l n).Pairwise (· < ·):=by
 have h:=b8 (key:=aE l) (bn 0 l) n
 have e:HQ l n=(bn 0 l).filter λ x=>aE l x==n:=h.symm
 rw [e];exact Tl filter_sublist (l7 l 0)
theorem C0 {l:List Nat} {n k:Nat} (hn:0<n):k∈HQ l n↔aE l k=n:=by
 constructor
 ·exact qi
 ·intro h;exact Ri.2 ⟨lF l k (by omega),by simpa using h⟩
def kG (l:List Nat) (n k:Nat):List Nat:=low l n++(HQ l n).filter λ x=>decide (x<k)
theorem DO {l:List Nat} {n k x:Nat} (hn:0<n) (hx:l[k]? =some x) (h:x≠n):kG l n (k+1)=kG l n k:=by
 have e:aE l k=x:=by simp [aE,KW,hx]
 rw [kG,kG,kF (GR l n),M2 (by rw [C0 hn,e];exact h),QO]
theorem uy {l:List Nat} {n k:Nat} (hn:0<n) (hx:l[k]? =some n):kG l n (k+1)=kG l n k++[k]:=by
 have e:aE l k=n:=by simp [aE,KW,hx]
 rw [kG,kG,kF (GR l n),PI (by rw [C0 hn,e]),LW]
theorem oR (l:List Nat) (n:Nat):kG l n 0=low l n:=by simp [kG]
theorem DP (l:List Nat) (n:Nat):kG l n l.length=kG l (n+1) 0:=by
 rw [oR,kG,RH.2 λ x hx=>by have:=l3 l x (Ri.1 hx).1;simpa using this.1]
 conv=>rhs;rw [low,kz l n]
 rw [RD,RD,RH.2,RH.2,QN.2,QO]
 ·intro x hx;have:=(Ri.1 hx).2;simp at this⊢;omega
 ·intro x hx;have:=qi hx;simp;omega
 ·intro x hx;have:=(Ri.1 hx).2;simp at this⊢;omega
theorem AI (l:List Nat):kG l 1 0=[]:=by
 rw [oR,low];exact QN.2 λ x hx=>by have:=(l3 l x hx).2;simp;omega
theorem DQ {l:List Nat} (h:∀ i,aE l i<=15):kG l 16 0=cx l:=by
 rw [oR,low];exact RH.2 λ x _=>by have:=h x;simp;omega
theorem wc {l cds:List Nat} {fQ code bef i:Nat} (h0:fQ=0) (h1:code=0):fM l (fQ,code,bef,cds) i=(fQ+1,0,aE l i,cds.set i 0):=by subst h0 h1;rfl
theorem yK {l cds:List Nat} {fQ code bef i:Nat} (h:fQ≠0):fM l (fQ,code,bef,cds) i=(fQ+1,(code+1)%2^64*2^(aE l i-bef)%2^64,aE l i,cds.set i ((code+1)%2^64*2^(aE l i-bef)%2^64)):=by
 have hp:0<fQ:=by omega
 simp only [fM,hp,RA]
end Go.Kw
