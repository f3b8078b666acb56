/-
 Kby:the bytes of a text,to be changed. Our own text;it names no program.
-/
import Derived.Test.YthffkcnbdehceaaGreatKy
open List
set_option linter.unusedVariables false
set_option linter.unusedSimpArgs false
set_option linter.unusedSectionVars false
namespace Go.Kw
open Go.RowKit
def NH (v:Value) (l:List Nat):Chunk where
 foot:=bD v
 holds w:=∃ g cap,∃ cur:Array Value,∃ e,v= .slice (some ⟨g,0,none⟩) l.length cap/\l.length<=cap/\l.length<=cur.size/\w.heap[g]? =some (.cells cur e (cur.size,cur.size+1))/\cur.toList.take l.length=(a8 .u8).all l
 stable w w' h hc:=by
  obtain ⟨g,cap,cur,e,rfl,h1,h2,h3,h4⟩:=hc
  exact ⟨g,cap,cur,e,rfl,h1,h2,by rw [h g (by simp [bD])];exact h3,h4⟩
theorem Sat.KJ {w0 w:World} {cs:List Chunk} (h:Sat w0 cs w) {v:Value} {l:List Nat} (i:Nat) (hi:cs[i]? =some (NH v l)):RdL w v (a8 .u8) l:=by
 obtain ⟨g,cap,cur,e,rfl,h1,h2,h3,h4⟩:=h.get hi
 refine ⟨_,_,rfl,h1,λ j u hu=>⟨g,0,rfl,?_⟩⟩
 rw [Nat.zero_add,cell_of_heap h3]
 rw [<-h4,getElem?_take] at hu
 split at hu
 ·simpa using hu
 ·cases hu
theorem Jb {n:Int} (h:(Lit.int .u8 n).wf=true):∃ a:Nat,n=(a:Int)/\a<256:=by
 have h1:=Bool.and_eq_true_iff.1 (show (decide (IntKind.u8.min<=n)&&decide (n<=IntKind.u8.max))=true from h)
 have h2:(0:Int)<=n:=of_decide_eq_true h1.1
 have h3:n<=255:=of_decide_eq_true h1.2
 exact ⟨n.toNat,by omega,by omega⟩
section
variable {P:Program} {n:Nat} {L:ay} {w w0:World} {cs:List Chunk} {K:Value->World->Prop} {d:Option Nat} {ty:TypeId} {pos:String} {af:Array Edge} {g:Option (Nat×Bool)}
theorem OpE.PI {x:Operand} {s t e:TypeId} {u:ByteArray} {uT:TypeDesc} (h1:P.underlying s=some uT) (h2:P.underlying t=some (.slice e)) (h3:P.underlying e=some (.int .u8)) (hs:Sat w0 cs w) (hx:aI L x=some (.string u)) (hu:u.size<=4611686018427387904)
  (hk:∀ v w',Sat w0 (cs++[NH v (aV u)]) w'->K v w'):OpE P n L w ⟨d,.convert s t x,ty,pos,af,g⟩ K:=by
 have hb:=Lib.bytesWorld_below w e u
 refine .val (v:= .slice (some ⟨w.heap.size,0,none⟩) u.size (grownCap w u.size 0 e)) (w':=Lib.bytesWorld w e u) (λ ρ hρ=> ?_) (hk (.slice (some ⟨w.heap.size,0,none⟩) u.size (grownCap w u.size 0 e)) _ (hs.add (.ko hb) ?_ ?_))
 ·simp only [execOp,hρ hx,Sem.run_bind,Lib.run_convert_string_bytes w s t e u h1 h2 h3,Result.andThen_ok,Sem.run_pure]
 ·have e1:(a8 .u8).all (aV u)=u.data.toList.map λ b=>Value.int .u8 (b.toNat:Int):=by
   unfold aV
   induction u.data.toList with
   |nil=>rfl
   |cons y r ih=>rw [map_cons,Enc.all_cons,ih];rfl
  refine ⟨w.heap.size,_,Lib.bytesCells w e u,e,by rw [az],by rw [az];exact grownCap_ge ..,?_,Lib.bytesWorld_at_new w e u,?_⟩
  ·rw [az];simp only [Lib.bytesCells,Array.size_append,Array.size_map];exact Nat.le_add_right _ _
  ·rw [az,e1]
   simp only [Lib.bytesCells,Array.toList_append,Array.toList_map]
   rw [take_append_of_le_length (by simp only [length_map];exact Nat.le_refl _)]
   exact take_of_length_le (by simp only [length_map];exact Nat.le_refl _)
 ·intro k hk
  simp only [NH,bD,mem_singleton] at hk
  subst hk
  rw [Lib.bytesWorld_size];omega
theorem OpE.ON {x y:Operand} {T j a:Nat} {v:Value} {l:List Nat} (i:Nat) (hT:(P.info? T).map (·.size)=some 1) (hs:Sat w0 cs w) (hi:cs[i]? =some (NH v l)) (hx:aI L x=some (bE v (j*(a8 .u8).s)))
  (hy:aI L y=some (.int .u8 (a:Int))) (hj:j<l.length) (hk:∀ w',Sat w0 (cs.set i (NH v (l.set j a))) w'->K undef w'):OpE P n L w ⟨d,.store T x y,ty,pos,af,g⟩ K:=by
 obtain ⟨g,cap,cur,e,rfl,h1,h2,h3,h4⟩:=id (hs.get hi)
 have hj1:j*(a8 .u8).s=j:=Nat.mul_one j
 rw [hj1] at hx
 have hcell:w.cell? ⟨g,j,none⟩=some cur[j]:=by rw [cell_of_heap h3];exact Array.getElem?_eq_getElem (by omega)
 have hf:w.frozen? ⟨g,j,none⟩=false:=by simp [World.frozen?,h3];omega
 cases hin:P.info? T with
 |none=>simp [hin] at hT
 |some inf=>
  simp [hin] at hT
  have hset:Sat w0 (cs.set i (NH (.slice (some ⟨g,0,none⟩) l.length cap) (l.set j a))) (w.setCell ⟨g,j,none⟩ (.int .u8 (a:Int))):=by
   refine hs.set i hi (Chg.setCell w ⟨g,j,none⟩ _) ⟨g,cap,cur.setIfInBounds j (.int .u8 (a:Int)),e,by rw [length_set],by rw [length_set];exact h1,by rw [length_set,Array.size_setIfInBounds];exact h2,?_,?_⟩ (λ _ hk=> .inl hk)
   ·rw [Array.size_setIfInBounds];exact heap_setCell h3
   ·rw [length_set,Array.toList_setIfInBounds,take_set,h4]
    have:=nB (E:=a8 .u8) (l:=l) (a:=a) (u:= .int .u8 (a:Int)) rfl hj
    rwa [hj1] at this
  refine .unit (λ ρ hρ=> ?_) (hk _ hset)
  have hx':ρ x= .pointer (some ⟨g,j,none⟩):=by rw [hρ hx];simp [bE,Addr.add_lit]
  have hrun:(Instr.storeAt T (.pointer (some ⟨g,j,none⟩)) (.int .u8 (a:Int))).run P w= .ok () (w.setCell ⟨g,j,none⟩ (.int .u8 (a:Int))):=by
   simp [Instr.storeAt,Instr.sureAddr,storeVar,sizeOf,typeInfo,hin,hT,Value.cells,storeCells,run_store P w _ (.int .u8 (a:Int)) .plain rfl,hcell,hf,Addr.add]
  simp only [execOp,hx',hρ hy,Sem.run_bind,hrun,Result.andThen_ok,Sem.run_pure]
end
end Go.Kw
