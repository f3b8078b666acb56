/-
 M06k:how corpora are joined,step by step. No program in sight.
-/
import Derived.Test.YthffkcnbdehceaaGreatM06e
open Go.Proofs.YthffkcnbdehceaaGreat
open List
set_option linter.unusedVariables false
set_option linter.unusedSimpArgs false
set_option linter.unusedSectionVars false
namespace Go.Kw
def uh (n:Int) (x:Iv):Iv:={x with b:=x.b+n}
def KH (n:Int) (x:Iv):Iv:={x with e:=x.e+n}
def ui (n:Int) (x:Nd):Nd:={x with b:=x.b+n}
def Gz (n:Int) (x:Nd):Nd:={x with e:=x.e+n}
def OX (m:Int) (x:Nd):Nd:={x with p:=x.p+m}
theorem vW {α:Type} {l r:List α} {f:α->α} {j:Nat}:(l++((r.take j).map f++r.drop j))[l.length+j]? =r[j]? :=by
 rw [Qb (by omega),QG]
 rcases Q1 j r.length with h|h
 ·rw [Qb (by simp;omega),QZ]
  congr 1;simp;omega
 ·rw [QB h,QO,PV h,Q3 (by simpa using h),Q3 h]
theorem lb {α:Type} {l r:List α} {f:α->α} {j:Nat}:(l++((r.take j).map f++r.drop j)).length=l.length+r.length:=by
 simp only [sp,No,KV,PK];omega
theorem ql {α:Type} {l r:List α} {f:α->α} {j:Nat} {x:α} (hx:r[j]? =some x):(l++((r.take j).map f++r.drop j)).set (l.length+j) (f x)=l++((r.take (j+1)).map f++r.drop (j+1)):=by
 obtain ⟨hj,rfl⟩:=AT.1 hx
 rw [Qq _ _ (by omega),QG,Qq _ _ (by simp;omega)]
 have e:j-((r.take j).map f).length=0:=by simp;omega
 rw [e,QL hj,set_cons_zero,T0 hj,Ql,LW]
 rfl
theorem vX {α:Type} {l r:List α} {f:α->α} {j:Nat} (h:r.length<=j):l++((r.take j).map f++r.drop j)=l++r.map f:=by
 rw [PV h,QB h,QO]
theorem GA {P:SV->List ByteArray->Prop} {l r:List Tk} (h1:∀ t∈l,P t.sv t.ns) (h2:∀ t∈r,P t.sv t.ns):∀ t∈l++r,P t.sv t.ns:=λ t ht=>(PT.1 ht).elim (h1 t) (h2 t)
theorem vY {P:SV->List Pr->Prop} {l r:List Iv} {n:Int} (h1:∀ t∈l,P t.sv t.ps) (h2:∀ t∈r,P t.sv t.ps):∀ t∈l++r.map (l0 n),P t.sv t.ps:=λ t ht=>(fx ht).elim (h1 t) λ ⟨y,hy,e⟩=>by rw [e];exact h2 y hy
theorem sX {α β:Type} {r:List α} {f:α->β} {j:Nat} {x:α} (hx:r[j]? =some x):(r.take (j+1)).map f=(r.take j).map f++[f x]:=by
 obtain ⟨hj,rfl⟩:=AT.1 hx
 rw [T0 hj,Ql];rfl
theorem dy {n:Nat} {c:Co} (h:OkC n c):(jh c).length=c.tk.length/\(kf c).length=c.tk.length:=h.hw.len
theorem LV (n k:Nat) (l:List Int) (hl:l.length=n) (h:∀ (j:Nat),j<k->l[j]? =some (-1)) (hk:n<=k):l=List.replicate n (-1):=by
 apply SP (by simpa using hl)
 intro i h1 h2
 have:=h i (by omega)
 rw [py h1] at this
 rw [getElem_replicate];exact Qz this
theorem aR {α:Type} {l:List α} {k:Nat} {x:α} (hx:l[k]? =some x):l.take (k+1)=l.take k++[x]:=by
 obtain ⟨hj,rfl⟩:=AT.1 hx
 exact T0 hj
theorem JB {α:Type} {l:List α} {j:Nat} {p:Prop} [Decidable p] [Inhabited α] (h:p->j<l.length):∃ y,p->l[j]? =some y:=by
 by_cases q:p
 ·exact ⟨l[j]'(h q),λ _=>py _⟩
 ·exact ⟨default,λ r=>absurd r q⟩
instance:Inhabited Iv:=⟨⟨ByteArray.empty,0,0,⟨none,0,0⟩,[]⟩⟩
theorem LX {N:List Nd} {k:Nat} {n m:Int} {x:Nd} (h:¬ 0<=x.p):(N.set k (ui n x)).set k (Gz n (ui n x))=N.set k (zf n m x):=by
 rw [SY];unfold zf;rw [M2 h];rfl
theorem LY {N:List Nd} {k:Nat} {n m:Int} {x:Nd} (h:0<=x.p):((N.set k (ui n x)).set k (Gz n (ui n x))).set k (OX m (Gz n (ui n x)))=N.set k (zf n m x):=by
 rw [SY,SY];unfold zf;rw [PI h];rfl
theorem Nx {n:Nat} {c:Co} (h:OkC n c) {i:Nat} {x:Int} (hx:(jh c)[i]? =some x):x<(c.tk.length:Int)+1/\-1<=x:=by
 rcases h.hw.el i x hx with e|⟨t,ht,h1,h2,h3,h4⟩
 ·omega
 ·have:=(h.tx.nm t ht).2.2;omega
end Go.Kw
