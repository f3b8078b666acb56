/-
 Kop:an object of which the first cells are open:a call may change them. Our own text;it names no program.
-/
import Derived.Test.YthffkcnbdehceaaGreatKy
open Go.Proofs.YthffkcnbdehceaaGreat
open List
set_option linter.unusedVariables false
set_option linter.unusedSimpArgs false
set_option linter.unusedSectionVars false
namespace Go.Kw
open Go.RowKit
def OO (g:Nat) (T:TypeId) (k:Nat) (r:List Value):Chunk where
 foot:=[g]
 holds w:=∃ pre:List Value,pre.length=k/\w.heap[g]? =some (.cells (pre++r).toArray T (0,0))
 stable w w' h hc:=by
  obtain ⟨pre,h1,h2⟩:=hc
  exact ⟨pre,h1,by rw [h g (by simp)];exact h2⟩
theorem Sat.wk {w0 w:World} {cs:List Chunk} (h:Sat w0 cs w) (i:Nat) {c d:Chunk} (hi:cs[i]? =some c) (hf:d.foot=c.foot) (hd:d.holds w):Sat w0 (cs.set i d) w:=
 h.set i hi ⟨rfl,rfl,rfl,KB _,λ _ _ _=>rfl⟩ hd λ k hk=> .inl (by rw [<-hf];exact hk)
theorem Sat.uI {w0 w:World} {A cs L:List Chunk} {g:Nat} {T:TypeId} {x y:Value} {r:List Value} (h:Sat w0 (A++cs) w) (i:Nat) (hi:xO A i=some (aq g T (x::y::r))) (hb:Nat.blt i A.length=true) (hp:qY (A.set i (OO g T 2 r))=some L):Sat w0 (L++cs) w:=by
 have hl:i<A.length:=by rw [Tw] at hb;exact hb
 have h1:A[i]? =some (aq g T (x::y::r)):=by
  have:=nc A i _ hi
  rw [KW,py hl,Rb] at this
  rw [py hl,this]
 have h0:(A++cs)[i]? =some (aq g T (x::y::r)):=by rw [Q4 hl];exact h1
 have h2:=Sat.wk (d:=OO g T 2 r) h i h0 rfl ⟨[x,y],rfl,h.get h0⟩
 rw [Tr _ _ hl] at h2
 rw [gA _ _ hp];exact h2
theorem Sat.HB {w0 w:World} {cs:List Chunk} (h:Sat w0 cs w) {i g j k:Nat} {T:TypeId} {r:List Value} {u:Value} (hi:cs[i]? =some (OO g T k r)) (hu:r[j]? =some u):w.cell? ⟨g,k+j,none⟩=some u:=by
 obtain ⟨pre,h1,h2⟩:=h.get hi
 rw [cell_of_heap h2]
 simp only [getElem?_toArray]
 rw [Qb (by omega),<-hu]
 congr 1;omega
end Go.Kw
