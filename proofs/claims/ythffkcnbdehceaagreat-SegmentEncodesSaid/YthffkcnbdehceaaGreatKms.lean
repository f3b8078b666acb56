/-
 KMS:a map from strings that the call made,of which only the size is known. Our own text;it names no program.
-/
import Derived.Test.YthffkcnbdehceaaGreatKm
open Go.Proofs.YthffkcnbdehceaaGreat
open List
set_option linter.unusedVariables false
set_option linter.unusedSimpArgs false
set_option linter.unusedSectionVars false
namespace Go.Kw
open Go.RowKit Go.MapKept
def N2 (b m:Nat):Chunk where
 foot:=[b]
 holds w:=∃ es clock,w.heap[b]? =some (.map es clock)/\Stamped es clock/\es.size<=m/\∀ x∈es.toList,IsKey .string x.key
 stable w w' h hc:=by obtain ⟨es,clock,h1,r⟩:=hc;exact ⟨es,clock,by rw [h b (by simp)];exact h1,r⟩
section
variable {P:Program} {n:Nat} {L:aB} {w w0:World} {cs:List Chunk} {K:Value->World->Prop} {d:Option Nat} {ty:TypeId} {pos:String} {af:Array Edge} {g:Option (Nat×Bool)}
theorem OpE.MI {t:TypeId} (hs:Sat w0 cs w) (hk:∀ b w',Sat w0 (cs++[N2 b 0]) w'->K (.map (some b)) w'):OpE P n L w ⟨d,.makeMap t none,ty,pos,af,g⟩ K:=by
 refine .val (v:= .map (some w.heap.size)) (w':=w.alloc (.map #[] 0)) (λ ρ hρ=> ?_) (hk _ _ (hs.add (.alloc _ _) ⟨#[],0,RE w _,stamped_empty 0,KB _,λ x hx=>by cases hx⟩ (by simp [N2])))
 simp [execOp,Instr.makeMap,go_sem]
theorem Sat.Om {i b m:Nat} (hs:Sat w0 cs w) (hi:cs[i]? =some (N2 b m)):∃ l,l<=m/\∃ es clock,es.size=l/\w.heap[b]? =some (.map es clock):=by
 obtain ⟨es,clock,hb,_,hl,_⟩:=hs.get hi
 exact ⟨_,hl,es,clock,rfl,hb⟩
theorem Ev.OB {x:Operand} {t k e:TypeId} {b l:Nat} (hu:P.underlying t=some (.map k e)) (hb:∃ es clock,es.size=l/\w.heap[b]? =some (.map es clock)) (hx:aJ L x=some (.map (some b))):
  Ev P n L w ⟨d,.call ⟨.builtin .len,#[x],#[t]⟩,ty,pos,af,g⟩ (.int .i64 (l:Int)):= .of λ ρ hρ=>by
 obtain ⟨es,clock,hl,hb⟩:=hb
 simp [execOp,hρ hx,resolve,invoke,Builtin.len_,PN hu,R5 hb,go_sem,goInt,hl]
theorem OpE.Og {x y z:Operand} {t k e:TypeId} {i b m:Nat} {s:ByteArray} {v:Value} (hu:P.underlying t=some (.map k e)) (hks:P.underlying k=some .string)
  (hs:Sat w0 cs w) (hi:cs[i]? =some (N2 b m)) (hx:aJ L x=some (.map (some b))) (hy:aJ L y=some (.string s)) (hz:aJ L z=some v)
  (hk:∀ w',Sat w0 (cs.set i (N2 b (m+1))) w'->K undef w'):OpE P n L w ⟨d,.mapUpdate t x y z,ty,pos,af,g⟩ K:=by
 obtain ⟨es,clock,hb,hst,hl,hks2⟩:=hs.get hi
 have hkey:IsKey .string (.string s):=trivial
 rcases findNow_spec hkey es.toList 0 hks2 with ⟨h1,h2⟩|⟨j,e0,h1,h2,h3⟩
 ·refine .unit (w':={w with heap:=w.heap.setIfInBounds b (.map (es.push {key:= .string s,val:=v,born:=clock}) (clock+1))}) (λ ρ hρ=> ?_)
   (hk _ (hs.set i hi (kM _ hb) ⟨_,_,(RW hb).1,stamped_push hst h2,by rw [Array.size_push];omega,λ x hx=> ?_⟩ (λ _ h=> .inl h)))
  ·simp [execOp,hρ hx,hρ hy,hρ hz,Instr.mapUpdate,PN hu,R5 hb,RL hks hkey,RV hks h1,SF _ hb,Result.andThen]
  ·rw [Array.toList_push,PT,Q0] at hx
   rcases hx with hx|rfl
   ·exact hks2 x hx
   ·exact hkey
 ·have hj:es[j]? =some e0:=by simpa using h2
  have hek:e0.key= .string s:=h3
  have hkk:∀ e',es[j]? =some e'->({e' with key:= .string s,val:=v}:MapEntry).key=e'.key:=λ e' he'=>by rw [hj] at he';cases he';exact hek.symm
  refine .unit (w':={w with heap:=w.heap.setIfInBounds b (.map (es.modify j λ e=>{e with key:= .string s,val:=v}) clock)}) (λ ρ hρ=> ?_)
   (hk _ (hs.set i hi (kM _ hb) ⟨_,_,(RW hb).1,stamped_modify hst j _ (λ _ _=>rfl) (λ e' _ he'=>hkk e' he'),by rw [Array.size_modify];omega,λ x hx=> ?_⟩ (λ _ h=> .inl h)))
  ·simp [execOp,hρ hx,hρ hy,hρ hz,Instr.mapUpdate,PN hu,R5 hb,RL hks hkey,RV hks h1,hj,hek,MapKept.run_keyThatStays hkey,SF _ hb,Result.andThen]
  ·obtain ⟨q,hq⟩:=Qh hx
   rw [Se,Rl] at hq
   by_cases e:j=q
   ·rw [PI e] at hq
    obtain ⟨y,hy,rfl⟩:=QI.1 hq
    exact hkey
   ·rw [M2 e] at hq
    exact hks2 x (Array.mem_toList_iff.2 (Array.mem_of_getElem? hq))
end
end Go.Kw
