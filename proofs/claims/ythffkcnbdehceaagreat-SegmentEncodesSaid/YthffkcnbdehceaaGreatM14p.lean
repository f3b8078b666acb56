/-
 M14p:items of the reference of layer 14,and how two lists of them are merged. No program in sight.
-/
import Derived.Test.YthffkcnbdehceaaGreatKp
import Derived.Test.YthffkcnbdehceaaGreatM14s
open Go.Proofs.YthffkcnbdehceaaGreat
open List
set_option linter.unusedVariables false
set_option linter.unusedSimpArgs false
set_option linter.unusedSectionVars false
namespace Go.Kw
open Go.RowKit
structure RI where
 w:Nat
 leaf:Bool
 sv:SV
 occ:List Nat
def ba:Enc RI:=⟨3,λ x=>[.int .i64 (x.w:Int),.bool x.leaf,x.sv.val],λ _=>rfl,λ x u h=>by simp at h;rcases h with rfl|rfl|rfl<;>rfl⟩
def eG (ps:List RI):Chunk:=jG (ps.map λ p=>cL p.sv.val 3 (aa .i64) p.occ)
section
variable {w0 w:World} {cs:List Chunk}
theorem Sat.Kd (h:Sat w0 cs w):Sat w0 (cs++[eG []]) w:=by
 have:Sat w0 (cs++jG []::[]) w:=Sat.gm.2 (by simpa using h)
 exact this
theorem Sat.sE {A:List Chunk} {s:SV} {n:Nat} {b:Bool} {l:List Nat} {ps:List RI} (h:Sat w0 (A++[cL s.val 3 (aa .i64) l]) w) (i:Nat) (hi:A[i]? =some (eG ps)):Sat w0 (A.set i (eG (ps++[⟨n,b,s,l⟩]))) w:=by
 have:=h.push i hi
 rw [eG,Ql];exact this
theorem Sat.iG (h:Sat w0 cs w) (i:Nat) {ps:List RI} (hi:cs[i]? =some (eG ps)):∀ p∈ps,RdL w p.sv.val (aa .i64) p.occ:=λ p hp=>
 Rd.oZ ((h.get hi).1 (cL p.sv.val 3 (aa .i64) p.occ) (Qv hp))
end
def Nz (x y:RI):Bool:=decide (x.w<=y.w)
def gl (a b:List RI):List RI:=a.merge b Nz
theorem kD {α:Type} {l:List α} {k:Nat} {x:α} (h:l[k]? =some x):l.drop k=x::l.drop (k+1):=by
 obtain ⟨hk,rfl⟩:=AT.1 h
 exact QL hk
theorem DJ {a b:List RI} {i k:Nat} {x y:RI} (hx:a[i]? =some x) (hy:b[k]? =some y) (h:x.w<=y.w):gl (a.drop i) (b.drop k)=x::gl (a.drop (i+1)) (b.drop k):=by
 have e:Nz x y=true:=PM h
 rw [gl,gl,kD hx,kD hy,cons_merge_cons_pos (h:=e)]
theorem rY {a b:List RI} {i k:Nat} {y:RI} (hy:b[k]? =some y) (h:∀ x,a[i]? =some x->¬ x.w<=y.w):gl (a.drop i) (b.drop k)=y::gl (a.drop i) (b.drop (k+1)):=by
 cases hx:a[i]? with
 |none=>
  have:a.drop i=[]:=QB (by simpa using hx)
  rw [this,kD hy];simp [gl]
 |some x=>
  have e:¬ Nz x y=true:=by have:=h x hx;simp [Nz];omega
  rw [gl,gl,kD hx,kD hy,cons_merge_cons_neg (h:=e)]
theorem GH (a:List RI):gl a []=a:=by simp [gl]
theorem GI {a b:List RI} {x:RI}:x∈gl a b↔x∈a\/x∈b:=by rw [gl,(merge_perm_append Nz).mem_iff,PT]
end Go.Kw
