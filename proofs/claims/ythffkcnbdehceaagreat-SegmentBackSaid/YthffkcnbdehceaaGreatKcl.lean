/-
 Kcl:a struct in old memory,whole;a slice of which it is not known whether it is nil. Our own text;it names no program.
-/
import Derived.Test.YthffkcnbdehceaaGreatKy
import Derived.Test.YthffkcnbdehceaaGreatKrt
open List
set_option linter.unusedVariables false
set_option linter.unusedSimpArgs false
set_option linter.unusedSectionVars false
namespace Go.Kw
open Go.RowKit
def FJ:List Value->Prop
 |[]=>True
 |v::r=>v.oneCell'=true/\FJ r
theorem oc:∀ {vs:List Value},FJ vs->∀ v∈vs,v.oneCell'=true
 |[],_,_,h=>by cases h
 |a::r,ha,v,h=>by
  rcases mem_cons.1 h with h|h
  ·rw [h];exact ha.1
  ·exact oc ha.2 v h
theorem kX {P:Program} {f:FuncId} {α:Type} {E:Enc α} {v:Value} {l:List α} {w:World} {Φ:Value->World->Prop} (hv:RdL w v E l) (h:∀ s:SV,RdL w s.val E l->CallsV P f [s.val] w Φ):CallsV P f [v] w Φ:=by
 obtain ⟨q,rfl,_⟩:=hv.sv
 exact h q hv
theorem gQ {w0 w:World} {cs ds:List Chunk} {Q:(World->Prop)->Prop} (is:List Nat) (h2:Sat w0 cs w) (h:Q (λ u=>Sat w0 cs u)) (hp:eF is 0 cs=some ds:=by exact rfl):∃ T:World->Prop,(∀ u,T u->Sat w0 ds u)/\T w/\Q T:=⟨λ u=>Sat w0 cs u,λ _ q=>q.pick is hp,h2,h⟩
theorem sZ {α:Type} {E:Enc α} {w:World} {s:SV} {l:List α} (h:RdL w s.val E l) (hs:0<E.s) (ha:s.a.isNone=true):l=[]:=by
 obtain ⟨a,cap,hv,hn,hc⟩:=h
 have ha2:s.a=a:=by have:=hv;simp only [SV.val,Value.slice.injEq] at this;exact this.1
 have hall:E.all l=[]:=by
  cases hl:E.all l with
  |nil=>rfl
  |cons q r=>
   obtain ⟨b,o,hb,_⟩:=hc 0 q (by rw [hl];rfl)
   rw [ha2,hb] at ha;cases ha
 have h1:=E.all_length l
 rw [hall,length_nil] at h1
 cases l with
 |nil=>rfl
 |cons x r=>rw [length_cons,Nat.add_mul] at h1;omega
section
variable {P:Program} {n:Nat} {L:ay} {w:World} {d:Option Nat} {ty:TypeId} {x y:Operand} {pos:String} {af:Array Edge} {g:Option (Nat×Bool)}
theorem Ev.P5 {T b:Nat} {vs:List Value} {m:Nat} (hT:dx P T m=true) (hx:aI L x=some (.pointer (some ⟨b,0,none⟩))) (hc:∀ (j:Nat) u,vs[j]? =some u->w.cell? ⟨b,j,none⟩=some u) (hm:vs.length=m):
  Ev P n L w ⟨d,.load T x,ty,pos,af,g⟩ (.agg vs.toArray):= .of λ ρ hρ=>by
 subst hm
 have hl:=run_loadCells_list (P:=P) w ⟨b,0,none⟩ vs (λ q u hu=>by rw [Addr.add_lit,Nat.zero_add];exact hc q u hu)
 have hag:(isAgg T).run P w= .ok true w:=by
  unfold dx at hT
  cases hun:P.underlying T with
  |none=>simp [hun] at hT
  |some D=>cases D<;>simp [hun] at hT<;>simp [isAgg,run_underlying hun,go_sem]
 have hsz:(sizeOf T).run P w= .ok vs.length w:=by
  unfold dx at hT
  cases hin:P.info? T with
  |none=>simp [hin] at hT
  |some inf=>simp [hin] at hT;simp [sizeOf,typeInfo,hin,hT.2,go_sem]
 have hld:(Instr.loadAt T (ρ x)).run P w= .ok (.agg vs.toArray) w:=by
  simp only [Instr.loadAt,loadVar,hρ hx,Instr.sureAddr,Sem.run_bind,Sem.run_pure,Result.andThen_ok,hag,hsz,hl,if_true]
 simp only [execOp,Sem.run_bind,hld,Result.andThen_ok,Sem.run_pure]
theorem Ev.uy {t e:Nat} {T:TypeId} {a:Option Addr} {m c:Nat} (hu:P.underlying t=some (.slice e)) (hx:aI L x=some (.slice a m c)) (hy:aI L y=some (.slice none 0 0)):Ev P n L w ⟨d,.binOp .eql t x y T,ty,pos,af,g⟩ (.bool a.isNone):=
 .bin hx hy (by rfl) λ w=>vO t e a m c hu w
end
end Go.Kw
