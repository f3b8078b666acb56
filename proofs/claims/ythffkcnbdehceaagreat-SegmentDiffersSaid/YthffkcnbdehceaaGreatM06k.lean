/-
 M06k:how corpora are joined,step by step. No program in sight.
-/
import Derived.Test.YthffkcnbdehceaaGreatM06e
set_option linter.unusedVariables false
set_option linter.unusedSimpArgs false
set_option linter.unusedSectionVars false
namespace Go.Kw
def tz (n:Int) (x:Iv):Iv:={x with b:=x.b+n}
def J0 (n:Int) (x:Iv):Iv:={x with e:=x.e+n}
def tA (n:Int) (x:Nd):Nd:={x with b:=x.b+n}
def EN (n:Int) (x:Nd):Nd:={x with e:=x.e+n}
def N6 (m:Int) (x:Nd):Nd:={x with p:=x.p+m}
theorem uy {α:Type} {l r:List α} {f:α->α} {j:Nat}:(l++((r.take j).map f++r.drop j))[l.length+j]? =r[j]? :=by
 rw [List.getElem?_append_right (by omega),Nat.add_sub_cancel_left]
 rcases Nat.lt_or_ge j r.length with h|h
 ·rw [List.getElem?_append_right (by simp;omega),List.getElem?_drop]
  congr 1;simp;omega
 ·rw [List.drop_of_length_le h,List.append_nil,List.take_of_length_le h,List.getElem?_eq_none (by simpa using h),List.getElem?_eq_none h]
theorem km {α:Type} {l r:List α} {f:α->α} {j:Nat}:(l++((r.take j).map f++r.drop j)).length=l.length+r.length:=by
 simp only [List.length_append,List.length_map,List.length_take,List.length_drop];omega
theorem pE {α:Type} {l r:List α} {f:α->α} {j:Nat} {x:α} (hx:r[j]? =some x):(l++((r.take j).map f++r.drop j)).set (l.length+j) (f x)=l++((r.take (j+1)).map f++r.drop (j+1)):=by
 obtain ⟨hj,rfl⟩:=List.getElem?_eq_some_iff.1 hx
 rw [List.set_append_right _ _ (by omega),Nat.add_sub_cancel_left,List.set_append_right _ _ (by simp;omega)]
 have e:j-((r.take j).map f).length=0:=by simp;omega
 rw [e,List.drop_eq_getElem_cons hj,List.set_cons_zero,List.take_succ_eq_append_getElem hj,List.map_append,List.append_assoc]
 rfl
theorem uz {α:Type} {l r:List α} {f:α->α} {j:Nat} (h:r.length<=j):l++((r.take j).map f++r.drop j)=l++r.map f:=by
 rw [List.take_of_length_le h,List.drop_of_length_le h,List.append_nil]
theorem EO {P:SV->List ByteArray->Prop} {l r:List Tk} (h1:∀ t∈l,P t.sv t.ns) (h2:∀ t∈r,P t.sv t.ns):∀ t∈l++r,P t.sv t.ns:=λ t ht=>(List.mem_append.1 ht).elim (h1 t) (h2 t)
theorem uA {P:SV->List Pr->Prop} {l r:List Iv} {n:Int} (h1:∀ t∈l,P t.sv t.ps) (h2:∀ t∈r,P t.sv t.ps):∀ t∈l++r.map (kd n),P t.sv t.ps:=λ t ht=>(fc ht).elim (h1 t) λ ⟨y,hy,e⟩=>by rw [e];exact h2 y hy
theorem si {α β:Type} {r:List α} {f:α->β} {j:Nat} {x:α} (hx:r[j]? =some x):(r.take (j+1)).map f=(r.take j).map f++[f x]:=by
 obtain ⟨hj,rfl⟩:=List.getElem?_eq_some_iff.1 hx
 rw [List.take_succ_eq_append_getElem hj,List.map_append];rfl
theorem de {n:Nat} {c:Co} (h:OkC n c):(iP c).length=c.tk.length/\(js c).length=c.tk.length:=h.hw.len
theorem K2 (n k:Nat) (l:List Int) (hl:l.length=n) (h:∀ (j:Nat),j<k->l[j]? =some (-1)) (hk:n<=k):l=List.replicate n (-1):=by
 apply List.ext_getElem (by simpa using hl)
 intro i h1 h2
 have:=h i (by omega)
 rw [List.getElem?_eq_getElem h1] at this
 rw [List.getElem_replicate];exact Option.some.inj this
theorem bn {α:Type} {l:List α} {k:Nat} {x:α} (hx:l[k]? =some x):l.take (k+1)=l.take k++[x]:=by
 obtain ⟨hj,rfl⟩:=List.getElem?_eq_some_iff.1 hx
 exact List.take_succ_eq_append_getElem hj
theorem HL {α:Type} {l:List α} {j:Nat} {p:Prop} [Decidable p] [Inhabited α] (h:p->j<l.length):∃ y,p->l[j]? =some y:=by
 by_cases q:p
 ·exact ⟨l[j]'(h q),λ _=>List.getElem?_eq_getElem _⟩
 ·exact ⟨default,λ r=>absurd r q⟩
instance:Inhabited Iv:=⟨⟨ByteArray.empty,0,0,⟨none,0,0⟩,[]⟩⟩
theorem K4 {N:List Nd} {k:Nat} {n m:Int} {x:Nd} (h:¬ 0<=x.p):(N.set k (tA n x)).set k (EN n (tA n x))=N.set k (y7 n m x):=by
 rw [List.set_set];unfold y7;rw [if_neg h];rfl
theorem K5 {N:List Nd} {k:Nat} {n m:Int} {x:Nd} (h:0<=x.p):((N.set k (tA n x)).set k (EN n (tA n x))).set k (N6 m (EN n (tA n x)))=N.set k (y7 n m x):=by
 rw [List.set_set,List.set_set];unfold y7;rw [if_pos h];rfl
theorem LJ {n:Nat} {c:Co} (h:OkC n c) {i:Nat} {x:Int} (hx:(iP c)[i]? =some x):x<(c.tk.length:Int)+1/\-1<=x:=by
 rcases h.hw.el i x hx with e|⟨t,ht,h1,h2,h3,h4⟩
 ·omega
 ·have:=(h.tx.nm t ht).2.2;omega
end Go.Kw
