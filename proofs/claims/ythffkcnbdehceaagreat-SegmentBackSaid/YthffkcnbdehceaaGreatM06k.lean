/-
 M06k:how corpora are joined,step by step. No program in sight.
-/
import Derived.Test.YthffkcnbdehceaaGreatM06e
open List
set_option linter.unusedVariables false
set_option linter.unusedSimpArgs false
set_option linter.unusedSectionVars false
namespace Go.Kw
def wb (n:Int) (x:Iv):Iv:={x with b:=x.b+n}
def Lh (n:Int) (x:Iv):Iv:={x with e:=x.e+n}
def wc (n:Int) (x:Nd):Nd:={x with b:=x.b+n}
def GV (n:Int) (x:Nd):Nd:={x with e:=x.e+n}
def Ps (m:Int) (x:Nd):Nd:={x with p:=x.p+m}
theorem xp {α:Type} {l r:List α} {f:α->α} {j:Nat}:(l++((r.take j).map f++r.drop j))[l.length+j]? =r[j]? :=by
 rw [getElem?_append_right (by omega),Nat.add_sub_cancel_left]
 rcases Nat.lt_or_ge j r.length with h|h
 ·rw [getElem?_append_right (by simp;omega),getElem?_drop]
  congr 1;simp;omega
 ·rw [drop_of_length_le h,append_nil,take_of_length_le h,getElem?_eq_none (by simpa using h),getElem?_eq_none h]
theorem kQ {α:Type} {l r:List α} {f:α->α} {j:Nat}:(l++((r.take j).map f++r.drop j)).length=l.length+r.length:=by
 simp only [length_append,length_map,length_take,length_drop];omega
theorem rN {α:Type} {l r:List α} {f:α->α} {j:Nat} {x:α} (hx:r[j]? =some x):(l++((r.take j).map f++r.drop j)).set (l.length+j) (f x)=l++((r.take (j+1)).map f++r.drop (j+1)):=by
 obtain ⟨hj,rfl⟩:=List.getElem?_eq_some_iff.1 hx
 rw [set_append_right _ _ (by omega),Nat.add_sub_cancel_left,set_append_right _ _ (by simp;omega)]
 have e:j-((r.take j).map f).length=0:=by simp;omega
 rw [e,drop_eq_getElem_cons hj,set_cons_zero,take_succ_eq_append_getElem hj,map_append,append_assoc]
 rfl
theorem xq {α:Type} {l r:List α} {f:α->α} {j:Nat} (h:r.length<=j):l++((r.take j).map f++r.drop j)=l++r.map f:=by
 rw [take_of_length_le h,drop_of_length_le h,append_nil]
theorem GW {P:SV->List ByteArray->Prop} {l r:List Tk} (h1:∀ t∈l,P t.sv t.ns) (h2:∀ t∈r,P t.sv t.ns):∀ t∈l++r,P t.sv t.ns:=λ t ht=>(mem_append.1 ht).elim (h1 t) (h2 t)
theorem xu {P:SV->List Pr->Prop} {l r:List Iv} {n:Int} (h1:∀ t∈l,P t.sv t.ps) (h2:∀ t∈r,P t.sv t.ps):∀ t∈l++r.map (kL n),P t.sv t.ps:=λ t ht=>(fA ht).elim (h1 t) λ ⟨y,hy,e⟩=>by rw [e];exact h2 y hy
theorem fq {α β:Type} {r:List α} {f:α->β} {j:Nat} {x:α} (hx:r[j]? =some x):(r.take (j+1)).map f=(r.take j).map f++[f x]:=by
 obtain ⟨hj,rfl⟩:=List.getElem?_eq_some_iff.1 hx
 rw [take_succ_eq_append_getElem hj,map_append];rfl
theorem dr {n:Nat} {c:Co} (h:OkC n c):(j7 c).length=c.tk.length/\(jO c).length=c.tk.length:=h.hw.len
theorem Ms (n k:Nat) (l:List Int) (hl:l.length=n) (h:∀ (j:Nat),j<k->l[j]? =some (-1)) (hk:n<=k):l=List.replicate n (-1):=by
 apply ext_getElem (by simpa using hl)
 intro i h1 h2
 have:=h i (by omega)
 rw [getElem?_eq_getElem h1] at this
 rw [getElem_replicate];exact Option.some.inj this
theorem bC {α:Type} {l:List α} {k:Nat} {x:α} (hx:l[k]? =some x):l.take (k+1)=l.take k++[x]:=by
 obtain ⟨hj,rfl⟩:=List.getElem?_eq_some_iff.1 hx
 exact take_succ_eq_append_getElem hj
theorem JS {α:Type} {l:List α} {j:Nat} {p:Prop} [Decidable p] [Inhabited α] (h:p->j<l.length):∃ y,p->l[j]? =some y:=by
 by_cases q:p
 ·exact ⟨l[j]'(h q),λ _=>getElem?_eq_getElem _⟩
 ·exact ⟨default,λ r=>absurd r q⟩
instance:Inhabited Iv:=⟨⟨ByteArray.empty,0,0,⟨none,0,0⟩,[]⟩⟩
theorem Mt {N:List Nd} {k:Nat} {n m:Int} {x:Nd} (h:¬ 0<=x.p):(N.set k (wc n x)).set k (GV n (wc n x))=N.set k (Ak n m x):=by
 rw [set_set];unfold Ak;rw [if_neg h];rfl
theorem Mu {N:List Nd} {k:Nat} {n m:Int} {x:Nd} (h:0<=x.p):((N.set k (wc n x)).set k (GV n (wc n x))).set k (Ps m (GV n (wc n x)))=N.set k (Ak n m x):=by
 rw [set_set,set_set];unfold Ak;rw [if_pos h];rfl
theorem O4 {n:Nat} {c:Co} (h:OkC n c) {i:Nat} {x:Int} (hx:(j7 c)[i]? =some x):x<(c.tk.length:Int)+1/\-1<=x:=by
 rcases h.hw.el i x hx with e|⟨t,ht,h1,h2,h3,h4⟩
 ·omega
 ·have:=(h.tx.nm t ht).2.2;omega
end Go.Kw
