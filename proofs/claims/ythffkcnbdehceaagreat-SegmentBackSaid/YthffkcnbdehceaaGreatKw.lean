/-
 KW:A SMALL PROGRAM LOGIC OVER THE KIT'S RULES. A frame is a list of known slots,a region is walked operation by operation (in the text's order,or along a plan where the order is drawn).
 Our own text;it names no program.
-/
import Derived.WalkKit
import Derived.WalkLawsBesides
import Derived.WalkSpells
import Derived.OrdersHeld
import Derived.Deep.AppendSrc
import Derived.Deep.LoopGhost
import Derived.Laws.CopyOwn
open List hiding all all_append all_cons all_nil
set_option linter.unusedVariables false
set_option linter.unusedSimpArgs false
set_option linter.unusedSectionVars false
namespace Go.Kw
open Go.RowKit
abbrev ay:=List (Nat×Value)
def look:ay->Nat->Option Value
 |[],_=>none
 |(t,v)::r,u=>cond (Nat.beq t u) (some v) (look r u)
def aI (L:ay):Operand->Option Value
 | .tmp t=>look L t
 | .const v=>some v
 | .global g=>some (.pointer (some ⟨g,0,none⟩))
 | .func f=>some (.func (.func f) #[] #[])
def pf (L:ay):List Operand->Option (List Value)
 |[]=>some []
 |x::r=>(aI L x).bind λ v=>(pf L r).map (v:: ·)
structure Fits (n:Nat) (L:ay) (a:Act):Prop where
 size:a.tmps.size=n
 slot:∀ t v,look L t=some v->a.tmps[t]? =some v
 defers:a.defers=[]
theorem Fits.eval {n:Nat} {L:ay} {a:Act} (h:Fits n L a) {x:Operand} {v:Value} (hx:aI L x=some v):a.eval x=v:=by
 cases x with
 |tmp t=>have:=h.slot t v hx;simp [Act.eval,Array.getD_eq_getD_getElem?,this]
 |const u=>simpa [aI,Act.eval] using hx
 |global g=>simpa [aI,Act.eval] using hx
 |func f=>simpa [aI,Act.eval] using hx
theorem Fits.Af {n:Nat} {L:ay} {a:Act} (h:Fits n L a):∀ {xs:List Operand} {vs:List Value},pf L xs=some vs->xs.map a.eval=vs
 |[],vs,hx=>by simpa [pf] using hx
 |x::r,vs,hx=>by
  simp only [pf,Option.bind_eq_some_iff,Option.map_eq_some_iff] at hx
  obtain ⟨v,hv,us,hus,rfl⟩:=hx
  simp [h.eval hv,h.Af hus]
theorem iB {L:ay} {d t:Nat} {v:Value}:look ((d,v)::L) t=if d=t then some v else look L t:=by
 simp only [look]
 by_cases e:d=t
 ·subst e;simp
 ·have:Nat.beq d t=false:=by
   cases h:Nat.beq d t with
   |false=>rfl
   |true=>exact absurd (Nat.eq_of_beq_eq_true h) e
  simp [e,this]
theorem Fits.put {n:Nat} {L:ay} {a:Act} (h:Fits n L a) {d:Nat} {v:Value} (hd:d<n):Fits n ((d,v)::L) (a.put (some d) v):=by
 refine ⟨by simp [Act.put,h.size],λ t u hu=> ?_,h.defers⟩
 rw [iB] at hu
 simp only [Act.put,Array.getElem?_setIfInBounds]
 by_cases e:d=t
 ·subst e;simp at hu;simp [hu,h.size,hd]
 ·simp only [e,if_false] at hu⊢;exact h.slot t u hu
def Weak:ay->ay->Prop
 |[],_=>True
 |(t,v)::r,L=>look L t=some v/\Weak r L
theorem Weak.look {L' L:ay} (h:Weak L' L):∀ {t v},Kw.look L' t=some v->Kw.look L t=some v:=by
 induction L' with
 |nil=>intro t v h;simp [Kw.look] at h
 |cons p r ih=>
  intro t v hv
  obtain ⟨d,u⟩:=p
  rw [iB] at hv
  by_cases e:d=t
  ·subst e;simp at hv;subst hv;exact h.1
  ·simp [e] at hv;exact ih h.2 hv
theorem Fits.weaken {n:Nat} {L L':ay} {a:Act} (h:Fits n L a) (hw:Weak L' L):Fits n L' a:=
 ⟨h.size,λ t v hv=>h.slot t v (hw.look hv),h.defers⟩
structure Qs where
 nrm:ay->World->Prop
 ret:ay->World->Prop
 ext:List (Nat×(ay->World->Prop))
 gto:List (Nat×(ay->World->Prop))
def jI:List (Nat×(ay->World->Prop))->Nat->ay->World->Prop
 |[],_=>λ _ _=>False
 |(t,R)::r,u=>cond (Nat.beq t u) R (jI r u)
def Mb (n:Nat) (Q:Qs):Exit->Act->World->Prop
 | .normal,a,w=>∃ L,Fits n L a/\Q.nrm L w
 | .ret,a,w=>∃ L,Fits n L a/\Q.ret L w
 | .exit id,a,w=>∃ L,Fits n L a/\jI Q.ext id L w
 | .goto l,a,w=>∃ L,Fits n L a/\jI Q.gto l L w
 |_,_,_=>False
def CW (P:Program) (n:Nat) (c:Code) (Q:Qs) (L:ay) (w:World):Prop:=∀ a,Fits n L a->c.wp P (Mb n Q) a w
section
variable {P:Program} {n:Nat} {Q:Qs} {L:ay} {w:World}
theorem CW.weaken {c:Code} (L':ay) (hw:Weak L' L) (h:CW P n c Q L' w):CW P n c Q L w:=λ a ha=>h a (ha.weaken hw)
theorem CW.OV (h:Q.nrm L w):CW P n .skip Q L w:=λ _ ha=>wp_skip ⟨L,ha,h⟩
theorem CW.Py (h:Q.ret L w):CW P n .ret Q L w:=λ _ ha=>wp_ret ⟨L,ha,h⟩
theorem CW.LK {id:Nat} (h:jI Q.ext id L w):CW P n (.exit id) Q L w:=λ _ ha=>wp_exit ⟨L,ha,h⟩
theorem CW.OL {l:Nat} (h:jI Q.gto l L w):CW P n (.goto l) Q L w:=λ _ ha=>wp_goto ⟨L,ha,h⟩
theorem CW.PQ {x y:Code} (h:CW P n x {Q with nrm:=λ L w=>CW P n y Q L w} L w):CW P n (.seq x y) Q L w:=λ a ha=>
 wp_seq (wp_mono (h a ha) λ e a' w' q=>by
  cases e<;>first|(obtain ⟨L',hL,hc⟩:=q;exact hc a' hL)|exact q)
theorem CW.KE {x y:Code} (R:ay->World->Prop) (h:CW P n x {Q with nrm:=R} L w) (h2:∀ L' w',R L' w'->CW P n y Q L' w'):CW P n (.seq x y) Q L w:=λ a ha=>
 wp_seq (wp_mono (h a ha) λ e a' w' q=>by
  cases e<;>first|(obtain ⟨L',hL,hc⟩:=q;exact h2 L' w' hc a' hL)|exact q)
theorem CW.PH {c:Code} (R:ay->World->Prop) (h:CW P n c {Q with nrm:=R} L w) (h2:∀ L' w',R L' w'->Q.nrm L' w'):CW P n c Q L w:=λ a ha=>
 wp_mono (h a ha) λ e a' w' q=>by
  cases e<;>first|(obtain ⟨L',hL,hc⟩:=q;exact ⟨L',hL,h2 L' w' hc⟩)|exact q
theorem CW.Da {c:Operand} {x y:Code} {b:Bool} (hc:aI L c=some (.bool b)) (ht:b=true->CW P n x Q L w) (hf:b=false->CW P n y Q L w):CW P n (.cond c x y) Q L w:=
 λ a ha=>wp_cond_split (ha.eval hc) (λ h=>ht h a ha) (λ h=>hf h a ha)
theorem CW.NG {c:Operand} {x y:Code} {p:Prop} {dp:Decidable p} (hc:aI L c=some (.bool (@decide p dp))) (ht:p->CW P n x Q L w) (hf:¬ p->CW P n y Q L w):CW P n (.cond c x y) Q L w:=
 CW.Da hc (λ h=>ht (of_decide_eq_true h)) (λ h=>hf (of_decide_eq_false h))
theorem CW.Nu {c:Operand} {x y:Code} {b:Bool} (hc:aI L c=some (.bool b)) (hb:b=true) (ht:CW P n x Q L w):CW P n (.cond c x y) Q L w:=
 CW.Da hc (λ _=>ht) (λ h=>absurd (hb.symm.trans h) (by simp))
theorem CW.Nj {c:Operand} {x y:Code} {b:Bool} (hc:aI L c=some (.bool b)) (hb:b=false) (hf:CW P n y Q L w):CW P n (.cond c x y) Q L w:=
 CW.Da hc (λ h=>absurd (hb.symm.trans h) (by simp)) (λ _=>hf)
theorem ej {E:List (Nat×(ay->World->Prop))} {i id:Nat} {R:ay->World->Prop}:jI ((i,R)::E) id=if i=id then R else jI E id:=by
 simp only [jI]
 by_cases e:i=id
 ·subst e;simp
 ·have:Nat.beq i id=false:=by
   cases h:Nat.beq i id with
   |false=>rfl
   |true=>exact absurd (Nat.eq_of_beq_eq_true h) e
  simp [e,this]
theorem CW.Nt {id:Nat} {c:Code} (h:CW P n c {Q with ext:=(id,Q.nrm)::Q.ext} L w):CW P n (.block id c) Q L w:=λ a ha=>
 wp_block (wp_mono (h a ha) λ e a' w' q=>by
  cases e with
  |exit id'=>
   obtain ⟨L',hL,hc⟩:=q
   simp only [ej] at hc
   simp only [Exit.inBlock]
   by_cases hid:id'=id
   ·subst hid;rw [if_pos rfl] at hc⊢;exact ⟨L',hL,hc⟩
   ·rw [if_neg hid];rw [if_neg (λ e=>hid e.symm)] at hc;exact ⟨L',hL,hc⟩
  |normal=>exact q
  |ret=>exact q
  |goto l=>exact q
  |panic c=>exact q
  |outgrown=>exact q)
theorem CW.P4 {c:Code} {α:Type} (K:α->ay) (I:α->World->Prop) (μ:α->Nat) (x₀:α) (h0:Weak (K x₀) L) (hI:I x₀ w)
  (round:∀ x w,I x w->CW P n c {Q with nrm:=λ L' w'=>∃ x',Weak (K x') L'/\I x' w'/\μ x'<μ x} (K x) w):CW P n (.loop c) Q L w:=λ a ha=>by
 refine wp_loop_ghost (λ m a w=>∃ x,Fits n (K x) a/\I x w/\μ x=m) (μ x₀) ⟨x₀,ha.weaken h0,hI,rfl⟩ ?_
 rintro m a w ⟨x,hF,hx,rfl⟩
 refine wp_mono (round x w hx a hF) λ e a' w' q=> ?_
 cases e with
 |normal=>
  obtain ⟨L',hL,x',hw',hI',hlt⟩:=q
  exact ⟨μ x',hlt,x',hL.weaken hw',hI',rfl⟩
 |ret=>exact q
 |exit id=>exact q
 |goto l=>exact q
 |panic c=>exact q
 |outgrown=>exact q
end
def RQ (n:Nat) (K:ay->World->Prop):Exit->Act->World->Prop
 | .normal,a,w=>∃ L,Fits n L a/\K L w
 |_,_,_=>False
def RT (P:Program) (n:Nat) (ops:List Oper) (l:List Oper) (K:ay->World->Prop) (L:ay) (w:World):Prop:=
 ∀ a,Fits n L a->wpList P ops.toArray (RQ n K) l a w
def Ev (P:Program) (n:Nat) (L:ay) (w:World) (o:Oper) (v:Value):Prop:=
 ∀ a,Fits n L a->(execOp a.eval o).run P w= .ok (.value v) w
def OpE (P:Program) (n:Nat) (L:ay) (w:World) (o:Oper) (K:Value->World->Prop):Prop:=
 ∀ a,Fits n L a->∀ (next:Act->World->Prop) (Q:Exit->Act->World->Prop),(∀ v w',K v w'->next (a.put o.dst v) w')->o.wp P a w next Q
def putK (d:Option Nat) (v:Value) (L:ay):ay:=
 match d with
 |some t=>(t,v)::L
 |none=>L
def bM (n:Nat):Option Nat->Bool
 |some t=>Nat.ble (t+1) n
 |none=>true
theorem Fits.putK {n:Nat} {L:ay} {a:Act} (h:Fits n L a) {d:Option Nat} {v:Value} (hd:bM n d=true):Fits n (Kw.putK d v L) (a.put d v):=by
 cases d with
 |none=>exact h
 |some t=>exact h.put (Nat.le_of_ble_eq_true hd)
def uL (ops:List Oper) (j:Nat):Option Nat:=
 match ops[j]? with
 |some o=>o.dst
 |none=>none
theorem Fits.yielded {n:Nat} {L:ay} {a:Act} (h:Fits n L a) {ops:List Oper} {j d:Nat} {b:Bool} (hj:uL ops j=some d) (hd:look L d=some (.bool b)):Go.yielded ops.toArray a.tmps j=some b:=by
 have h1:=h.slot d _ hd
 unfold uL at hj
 unfold Go.yielded
 cases ho:ops[j]? with
 |none=>simp [ho] at hj
 |some o=>simp only [ho] at hj;simp [ho,hj,h1]
theorem Fits.Ah {n:Nat} {L:ay} {a:Act} (h:Fits n L a) {ops:List Oper} {j d:Nat} (hj:uL ops j=some d) (hd:look L d=some undef):Go.yielded ops.toArray a.tmps j=none:=by
 have h1:=h.slot d _ hd
 unfold uL at hj
 unfold Go.yielded
 cases ho:ops[j]? with
 |none=>simp [ho] at hj
 |some o=>simp only [ho] at hj;simp [ho,hj,h1,undef]
section
variable {P:Program} {n:Nat} {Q:Qs} {L:ay} {w:World} {K:ay->World->Prop} {ops:List Oper}
theorem RQ.lift {n:Nat} {Q:Qs}:∀ e a w,RQ n Q.nrm e a w->Mb n Q e a w:=λ e a w h=>by
 cases e<;>first|exact h|exact (h:False).elim
theorem CW.KC {id:Nat} {l:List Oper} (h:RT P n l l Q.nrm L w):CW P n (.region id l.toArray false) Q L w:=λ a ha=>
 wp_mono (wp_region_list (by simpa using h a ha)) RQ.lift
theorem RT.nil (h:K L w):RT P n ops [] K L w:=λ _ ha=>wpList_nil ⟨L,ha,h⟩
theorem RT.ev {o:Oper} {r:List Oper} {v:Value} (hg:o.guard=none) (hd:bM n o.dst=true) (he:Ev P n L w o v) (h:RT P n ops r K (putK o.dst v L) w):RT P n ops (o::r) K L w:=λ a ha=>by
 refine wpList_plain hg λ K' hK=> ?_
 simp only [Oper.wp,he a ha,Oper.upon]
 exact hK _ _ (h _ (ha.putK hd))
def j3 (n:Nat) (o:Oper):Bool:=o.guard.isNone&&bM n o.dst
theorem nw {n:Nat} {o:Oper} (h:j3 n o=true):o.guard=none:=by
 unfold j3 at h;simp only [Bool.and_eq_true,Option.isNone_iff_eq_none] at h;exact h.1
theorem ny {n:Nat} {o:Oper} (h:j3 n o=true):bM n o.dst=true:=by
 unfold j3 at h;simp only [Bool.and_eq_true] at h;exact h.2
def nz (n:Nat) (ops:List Oper) (i:Nat):Option Oper:=match ops[i]? with
 |some o=>cond (j3 n o) (some o) none
 |none=>none
theorem gk {n:Nat} {ops:List Oper} {i:Nat} {o:Oper} (h:nz n ops i=some o):ops[i]? =some o/\j3 n o=true:=by
 unfold nz at h
 cases hq:ops[i]? with
 |none=>rw [hq] at h;cases h
 |some q=>
  rw [hq] at h
  cases hp:j3 n q with
  |false=>simp [hp] at h
  |true=>simp [hp] at h;subst h;exact ⟨rfl,hp⟩
theorem RT.e {o:Oper} {r:List Oper} {v:Value} (hg:j3 n o=true) (he:Ev P n L w o v) (h:RT P n ops r K (putK o.dst v L) w):RT P n ops (o::r) K L w:=RT.ev (nw hg) (ny hg) he h
theorem RT.Im {o:Oper} {r:List Oper} (hg:o.guard=none) (hd:bM n o.dst=true) (he:OpE P n L w o λ v w'=>RT P n ops r K (putK o.dst v L) w'):RT P n ops (o::r) K L w:=λ a ha=>
 wpList_plain hg λ _ hK=>he a ha _ _ λ _ _ h=>hK _ _ (h _ (ha.putK hd))
theorem RT.f {o:Oper} {r:List Oper} (hg:j3 n o=true) (he:OpE P n L w o λ v w'=>RT P n ops r K (putK o.dst v L) w'):RT P n ops (o::r) K L w:=RT.Im (nw hg) (ny hg) he
theorem RT.yes {o:Oper} {r:List Oper} {j d:Nat} {b b':Bool} (hg:o.guard=some (j,b)) (hj:uL ops j=some d) (hb:look L d=some (.bool b')) (hbb:b'=b)
  (h:RT P n ops ({o with guard:=none}::r) K L w):RT P n ops (o::r) K L w:=λ a ha=>by
 subst hbb
 have h':=h a ha
 unfold wpList at h'⊢
 have:Region.wanted o (yielded ops.toArray a.tmps)=true:=by simp [Region.wanted,hg,ha.yielded hj hb]
 have h2:Region.wanted {o with guard:=none} (yielded ops.toArray a.tmps)=true:=by simp [Region.wanted]
 simp only [this,h2,if_true] at h'⊢
 exact h'
theorem RT.no {o:Oper} {r:List Oper} {j d:Nat} {b b':Bool} (hg:o.guard=some (j,b)) (hj:uL ops j=some d) (hb:look L d=some (.bool b')) (hne:b'= !b) (hd:bM n o.dst=true)
  (h:RT P n ops r K (putK o.dst undef L) w):RT P n ops (o::r) K L w:=λ a ha=>by
 have:Region.wanted o (yielded ops.toArray a.tmps)=false:=by
  simp only [Region.wanted,hg,ha.yielded hj hb]
  subst hne;cases b<;>simp
 exact wpList_skip this (h _ (ha.putK hd))
theorem RT.Q6 {o:Oper} {r:List Oper} {j d:Nat} {b:Bool} (hg:o.guard=some (j,b)) (hj:uL ops j=some d) (hb:look L d=some undef) (hd:bM n o.dst=true)
  (h:RT P n ops r K (putK o.dst undef L) w):RT P n ops (o::r) K L w:=λ a ha=>
 wpList_skip (by simp only [Region.wanted,hg,ha.Ah hj hb];rfl) (h _ (ha.putK hd))
def cI (b:Option Nat) (S1 S2:World->Prop) (l:Array Bool) (w:World):Prop:=
 match b with
 |none=>S2 w
 |some b=>if l.getD b true=true then S2 w else S1 w
def j4 (P:Program) (ops:Array Oper) (Q:Exit->Act->World->Prop) (b:Option Nat) (S1 S2:World->Prop):Nat->Array Bool->Act->World->Prop
 |0,listed,a,w=>Region.ready .any ops listed=[]/\Q .normal a w
 |fuel+1,listed,a,w=>
  (Region.ready .any ops listed=[]->Q .normal a w)/\
  ∀ i∈Region.ready .any ops listed,wpOp P ops Q i (λ a' w'=>cI b S1 S2 (listed.setIfInBounds i true) w'/\j4 P ops Q b S1 S2 fuel (listed.setIfInBounds i true) a' w') a w
theorem lY {P:Program} {ops:Array Oper} {Q:Exit->Act->World->Prop} {b:Option Nat} {S1 S2:World->Prop}:∀ (fuel:Nat) (listed:Array Bool) (a:Act) (w:World),j4 P ops Q b S1 S2 fuel listed a w->wpAny P .any ops Q fuel listed a w
 |0,_,_,_,h=>h
 |fuel+1,_,_,_,h=>⟨h.1,λ i hi=>wpOp_mono (λ a' w' h'=>lY fuel _ a' w' h'.2) (h.2 i hi)⟩
theorem yO {P:Program} {ops:Array Oper} {Q:Exit->Act->World->Prop} {b:Option Nat} {S1 S2:World->Prop} {listed:Array Bool} {a:Act} {w:World} (hr:Region.ready .any ops listed=[]) (h:Q .normal a w):
  ∀ fuel,j4 P ops Q b S1 S2 fuel listed a w
 |0=>⟨hr,h⟩
 |_+1=>⟨λ _=>h,by rw [hr];simp⟩
theorem fS {P:Program} {ops:Array Oper} {Q:Exit->Act->World->Prop} {b:Option Nat} {S1 S2 T:World->Prop} {i:Nat} {oi:Oper} {v:Value} (hi:ops[i]? =some oi) (hsel:∀ (j:Nat) (o:Oper) cs b,ops[j]? =some o->o.op≠.select cs b)
  (hQ:∀ c a w,Q (.panic c) (a.put oi.dst v) w->Q (.panic c) a w) (I:Array Bool->Prop)
  (hI:∀ l j oj,I l->ops[j]? =some oj->j≠i->(∀ e∈oj.after,Region.binds .any e=true->e.on≠i)->I (l.setIfInBounds j true))
  (hT:∀ l w,I l->cI b S1 S2 l w->T w) (hc:∀ l w,I l->(cI b S1 S2 (l.setIfInBounds i true) w↔cI b S1 S2 l w)):
  ∀ (fuel:Nat) (listed:Array Bool) (a:Act) (w:World),I listed->
   (∀ j oj,ops[j]? =some oj->j≠i->listed.getD j true=false->(∀ e∈oj.after,Region.binds .any e=true->e.on≠i)->oi.apart ops oj=true)->
   i∈Region.ready .any ops listed->YieldsIf P ops T oi v a->cI b S1 S2 listed w->
   j4 P ops Q b S1 S2 fuel (listed.setIfInBounds i true) (a.put oi.dst v) w->j4 P ops Q b S1 S2 (fuel+1) listed a w:=by
 intro fuel
 induction fuel with
 |zero=>
  intro listed a w hIl _ hr hy hS H
  refine ⟨λ h=>(by rw [h] at hr;cases hr),λ j hj=> ?_⟩
  by_cases hji:j=i
  ·subst hji;exact hy.wpOp hi (hT _ _ hIl hS) ⟨(hc _ _ hIl).2 hS,H⟩
  ·have:=ready_mono hj hji
   rw [H.1] at this
   cases this
 |succ fuel ih=>
  intro listed a w hIl hfree hr hy hS H
  refine ⟨λ h=>(by rw [h] at hr;cases hr),λ j hj=> ?_⟩
  by_cases hji:j=i
  ·subst hji;exact hy.wpOp hi (hT _ _ hIl hS) ⟨(hc _ _ hIl).2 hS,H⟩
  ·have h1:=H.2 j (ready_mono hj hji)
   obtain ⟨hjun,oj,hoj,hall⟩:=mem_ready.1 hj
   have hnot:∀ e∈oj.after,Region.binds .any e=true->e.on≠i:=λ e he hb heq=>by
    have h1:=hall e he hb
    have h0:=(mem_ready.1 hr).1
    rw [heq] at h1
    rcases Nat.lt_or_ge i listed.size with h'|h'
    ·simp [h'] at h0 h1;rw [h0] at h1;cases h1
    ·simp [Array.getElem?_eq_none h'] at h1
   have h2:=wpOp_putIf hoj (hfree j oj hoj hji hjun hnot) (λ cs b=>hsel i oi cs b hi) (λ cs b=>hsel j oj cs b hoj) hQ hy h1
   have hfree':∀ k ok,ops[k]? =some ok->k≠i->(listed.setIfInBounds j true).getD k true=false->
     (∀ e∈ok.after,Region.binds .any e=true->e.on≠i)->oi.apart ops ok=true:=λ k ok hk hki hun hno=>by
    refine hfree k ok hk hki ?_ hno
    by_cases hjk:j=k
    ·subst hjk;exact hjun
    ·rw [getD_set_ne true hjk] at hun;exact hun
   have hIj:=hI listed j oj hIl hoj hji hnot
   refine wpOp_mono (λ a' w' h3=> ?_) h2
   have h4:=h3.2.1
   rw [Array.setIfInBounds_comm _ _ (Ne.symm hji)] at h4
   have hTw:=(hc _ _ hIj).1 h4
   refine ⟨hTw,ih (listed.setIfInBounds j true) a' w' hIj hfree' (ready_mono hr (Ne.symm hji)) h3.1 hTw ?_⟩
   rw [Array.setIfInBounds_comm _ _ hji]
   exact h3.2.2
inductive Plan where
 |fin
 |free (i:Nat) (p:Plan)
 |loose (i:Nat) (p:Plan)
 |one (i:Nat) (p:Plan)
 |bar (i:Nat) (p:Plan)
 |two (i j:Nat) (p q:Plan)
def Plan.gN:Plan->Option Nat
 | .fin=>none
 | .free _ p| .one _ p| .loose _ p=>p.gN
 | .bar i _=>some i
 | .two _ _ p _=>p.gN
def yP (ops:Array Oper) (i:Nat):Option Nat->Bool
 |none=>true
 |some b=>(i !=b)&&(match ops[b]? with|some o=>o.after.any λ e=>Region.binds .any e&&e.on==i|none=>false)
def Plan.ok (ops:Array Oper):Plan->Array Bool->Bool
 | .fin,l=>(Region.ready .any ops l).isEmpty
 | .free i p,l=>Region.free .any ops l i&&(Region.ready .any ops l).contains i&&yP ops i p.gN&&p.ok ops (l.setIfInBounds i true)
 | .loose i p,l=>Region.free .any ops l i&&(Region.ready .any ops l).contains i&&p.gN !=some i&&p.ok ops (l.setIfInBounds i true)
 | .one i p,l=>Region.ready .any ops l==[i]&&p.gN !=some i&&p.ok ops (l.setIfInBounds i true)
 | .bar i p,l=>Region.ready .any ops l==[i]&&p.gN.isNone&&p.ok ops (l.setIfInBounds i true)
 | .two i j p q,l=>Region.ready .any ops l==[i,j]&&p.gN==q.gN&&p.gN !=some i&&p.gN !=some j&&p.ok ops (l.setIfInBounds i true)&&q.ok ops (l.setIfInBounds j true)
def Plan.depth:Plan->Nat
 | .fin=>0
 | .free _ p| .one _ p| .bar _ p| .loose _ p=>p.depth+1
 | .two _ _ p q=>max p.depth q.depth+1
def Jm:List (World->Prop)->World->Prop
 |[]=>λ _=>True
 |S::_=>S
def planWp (P:Program) (n:Nat) (ops:List Oper) (K:ay->World->Prop):List (World->Prop)->Plan->Act->World->Prop
 |_,.fin,a,w=>RQ n K .normal a w
 |S,.free i p,a,w=>∃ o v,ops[i]? =some o/\YieldsIf P ops.toArray (Jm S) o v a/\Jm S w/\planWp P n ops K S p (a.put o.dst v) w
 |S,.loose i p,a,w=>∃ o v,ops[i]? =some o/\YieldsIf P ops.toArray (Jm S.tail) o v a/\Jm S w/\planWp P n ops K S p (a.put o.dst v) w
 |S,.one i p,a,w=>wpOp P ops.toArray (RQ n K) i (λ a' w'=>∃ T:World->Prop,(∀ u,T u->Jm S u)/\T w'/\planWp P n ops K (T::S.tail) p a' w') a w
 |S,.bar i p,a,w=>wpOp P ops.toArray (RQ n K) i (λ a' w'=>Jm S.tail w'/\planWp P n ops K S.tail p a' w') a w
 |S,.two i j p q,a,w=>wpOp P ops.toArray (RQ n K) i (λ a' w'=>∃ T:World->Prop,(∀ u,T u->Jm S u)/\T w'/\planWp P n ops K (T::S.tail) p a' w') a w/\wpOp P ops.toArray (RQ n K) j (λ a' w'=>∃ T:World->Prop,(∀ u,T u->Jm S u)/\T w'/\planWp P n ops K (T::S.tail) q a' w') a w
theorem Bf {b:Option Nat} {S1 S2 T1 T2:World->Prop} (h1:∀ u,T1 u->S1 u) (h2:∀ u,T2 u->S2 u) {l:Array Bool} {w:World} (h:cI b T1 T2 l w):cI b S1 S2 l w:=by
 cases b with
 |none=>exact h2 w h
 |some b=>
  simp only [cI] at h⊢
  by_cases q:l.getD b true=true
  ·rw [if_pos q] at h⊢;exact h2 w h
  ·rw [if_neg q] at h⊢;exact h1 w h
theorem dH {P:Program} {ops:Array Oper} {Q:Exit->Act->World->Prop} {b:Option Nat} {S1 S2 T1 T2:World->Prop} (h1:∀ u,T1 u->S1 u) (h2:∀ u,T2 u->S2 u):∀ (fuel:Nat) (l:Array Bool) (a:Act) (w:World),j4 P ops Q b T1 T2 fuel l a w->j4 P ops Q b S1 S2 fuel l a w
 |0,_,_,_,h=>h
 |fuel+1,_,_,_,h=>⟨h.1,λ i hi=>wpOp_mono (λ a' w' h'=>⟨Bf h1 h2 h'.1,dH h1 h2 fuel _ a' w' h'.2⟩) (h.2 i hi)⟩
theorem im {l:Array Bool} {i:Nat}:(l.setIfInBounds i true).getD i true=true:=by
 by_cases h:i<l.size<;>simp [h]
theorem bI {l:Array Bool} {i j:Nat} (h:l.getD j true=true):(l.setIfInBounds i true).getD j true=true:=by
 by_cases hij:i=j
 ·subst hij;exact im
 ·rw [getD_set_ne true hij];exact h
theorem planWp.mz {S1:World->Prop} {b:Option Nat} (hsel:Region.noSelect ops.toArray=true):∀ (S2:World->Prop) (S:List (World->Prop)),Jm S=S2->S.tail=[]->∀ (p:Plan) (l:Array Bool) (fuel:Nat) (a:Act) (w:World),p.gN=none->(∀ b0,b=some b0->l.getD b0 true=true)->p.ok ops.toArray l=true->p.depth<=fuel->
  planWp P n ops K S p a w->j4 P ops.toArray (RQ n K) b S1 S2 fuel l a w
 |S2,S,hS,hS2,.fin,l,fuel,a,w,_,_,hok,_,h=>yO (by simpa [Plan.ok] using hok) h fuel
 |S2,S,hS,hS2,.free i p,l,fuel+1,a,w,hb,hl,hok,hd,h=>by
  obtain ⟨o,v,ho,hy,hw,hp⟩:=h
  simp only [Plan.ok,Bool.and_eq_true] at hok
  rw [hS] at hy hw
  have hI:∀ l w,(∀ b0,b=some b0->l.getD b0 true=true)->(cI b S1 S2 l w↔S2 w):=λ l w h=>by
   cases b with
   |none=>rfl
   |some b=>simp only [cI,h b rfl,if_true]
  have hI2:∀ l w,(∀ b0,b=some b0->l.getD b0 true=true)->(cI b S1 S2 (l.setIfInBounds i true) w↔cI b S1 S2 l w):=λ l w h=>(hI _ w λ b0 e=>bI (h b0 e)).trans (hI l w h).symm
  exact fS (T:=S2) (by simpa using ho) (Region.noSelect_spec hsel) (λ _ _ _ h=>h) (λ l=>∀ b0,b=some b0->l.getD b0 true=true) (λ l j oj h _ _ _ b0 e=>bI (h b0 e)) (λ l w h h'=>(hI l w h).1 h')
   hI2 fuel l a w hl (Region.free_spec (by simpa using ho) hok.1.1.1) (by simpa using hok.1.1.2) hy ((hI l w hl).2 hw)
   (planWp.mz hsel S2 S hS hS2 p _ fuel _ w hb (λ b0 e=>bI (hl b0 e)) hok.2 (by simpa [Plan.depth] using hd) hp)
 |S2,S,hS,hS2,.loose i p,l,fuel+1,a,w,hb,hl,hok,hd,h=>by
  obtain ⟨o,v,ho,hy,hw,hp⟩:=h
  simp only [Plan.ok,Bool.and_eq_true] at hok
  rw [hS] at hw
  rw [hS2] at hy
  have hI:∀ l w,(∀ b0,b=some b0->l.getD b0 true=true)->(cI b S1 S2 l w↔S2 w):=λ l w h=>by
   cases b with
   |none=>rfl
   |some b=>simp only [cI,h b rfl,if_true]
  have hI2:∀ l w,(∀ b0,b=some b0->l.getD b0 true=true)->(cI b S1 S2 (l.setIfInBounds i true) w↔cI b S1 S2 l w):=λ l w h=>(hI _ w λ b0 e=>bI (h b0 e)).trans (hI l w h).symm
  exact fS (T:=λ _=>True) (by simpa using ho) (Region.noSelect_spec hsel) (λ _ _ _ h=>h) (λ l=>∀ b0,b=some b0->l.getD b0 true=true) (λ l j oj h _ _ _ b0 e=>bI (h b0 e)) (λ l w h h'=>trivial)
   hI2 fuel l a w hl (Region.free_spec (by simpa using ho) hok.1.1.1) (by simpa using hok.1.1.2) hy ((hI l w hl).2 hw)
   (planWp.mz hsel S2 S hS hS2 p _ fuel _ w hb (λ b0 e=>bI (hl b0 e)) hok.2 (by simpa [Plan.depth] using hd) hp)
 |S2,S,hS,hS2,.one i p,l,fuel+1,a,w,hb,hl,hok,hd,h=>by
  simp only [Plan.ok,Bool.and_eq_true,beq_iff_eq] at hok
  refine ⟨λ h0=>absurd (hok.1.1▸h0) (by simp),λ j hj=> ?_⟩
  rw [hok.1.1] at hj
  simp only [mem_singleton] at hj
  subst hj
  refine wpOp_mono (λ a' w' h'=> ?_) h
  obtain ⟨T,hT,hTw,hp⟩:=h'
  rw [hS] at hT
  refine ⟨?_,dH (λ _ h=>h) hT _ _ _ _ (planWp.mz hsel T (T::S.tail) rfl hS2 p _ fuel a' w' hb (λ b0 e=>bI (hl b0 e)) hok.2 (by simpa [Plan.depth] using hd) hp)⟩
  have:=hT _ hTw
  cases b with
  |none=>exact this
  |some b=>simp only [cI,bI (hl b rfl),if_true];exact this
 |S2,S,hS,hS2,.two i j p q,l,fuel+1,a,w,hb,hl,hok,hd,h=>by
  simp only [Plan.gN] at hb
  simp only [Plan.ok,Bool.and_eq_true,beq_iff_eq] at hok
  obtain ⟨⟨⟨⟨⟨hr,hpq⟩,_⟩,_⟩,hop⟩,hoq⟩:=hok
  simp only [Plan.depth] at hd
  refine ⟨λ h0=>absurd (hr▸h0) (by simp),λ k hk=> ?_⟩
  rw [hr] at hk
  simp only [mem_cons,not_mem_nil,or_false] at hk
  have hc:∀ k w',S2 w'->cI b S1 S2 (l.setIfInBounds k true) w':=λ k w' h'=>by
   cases b with
   |none=>exact h'
   |some b=>simp only [cI,bI (hl b rfl),if_true];exact h'
  rcases hk with rfl|rfl
  ·exact wpOp_mono (λ a' w' ⟨T,hT,hTw,hp⟩=>⟨hc _ _ (hS▸hT _ hTw),dH (λ _ h=>h) (hS▸hT) _ _ _ _ (planWp.mz hsel T (T::S.tail) rfl hS2 p _ fuel a' w' hb (λ b0 e=>bI (hl b0 e)) hop (by omega) hp)⟩) h.1
  ·exact wpOp_mono (λ a' w' ⟨T,hT,hTw,hp⟩=>⟨hc _ _ (hS▸hT _ hTw),dH (λ _ h=>h) (hS▸hT) _ _ _ _ (planWp.mz hsel T (T::S.tail) rfl hS2 q _ fuel a' w' (hpq▸hb) (λ b0 e=>bI (hl b0 e)) hoq (by omega) hp)⟩) h.2
 |S2,S,hS,hS2,.bar i p,l,fuel,a,w,hb,_,_,_,_=>by simp [Plan.gN] at hb
 |S2,S,hS,hS2,.free i p,l,0,_,_,_,_,_,hd,_=>by simp [Plan.depth] at hd
 |S2,S,hS,hS2,.one i p,l,0,_,_,_,_,_,hd,_=>by simp [Plan.depth] at hd
 |S2,S,hS,hS2,.loose i p,l,0,_,_,_,_,_,hd,_=>by simp [Plan.depth] at hd
 |S2,S,hS,hS2,.two i j p q,l,0,_,_,_,_,_,hd,_=>by simp [Plan.depth] at hd
theorem planWp.pU {S2:World->Prop} {b:Nat} (hsel:Region.noSelect ops.toArray=true):∀ (S1:World->Prop),(∀ w,S1 w->S2 w)->∀ (p:Plan) (l:Array Bool) (fuel:Nat) (a:Act) (w:World),p.gN=some b->l.getD b true=false->p.ok ops.toArray l=true->p.depth<=fuel->
  planWp P n ops K [S1,S2] p a w->j4 P ops.toArray (RQ n K) (some b) S1 S2 fuel l a w
 |S1,h12,.free i p,l,fuel+1,a,w,hb,hl,hok,hd,h=>by
  obtain ⟨o,v,ho,hy,hw,hp⟩:=h
  simp only [Plan.gN] at hb
  simp only [Plan.ok,Bool.and_eq_true,hb,yP] at hok
  have hib:i≠b:=by simpa using hok.1.2.1
  have hbi:∃ ob,ops.toArray[b]? =some ob/\∃ e∈ob.after,Region.binds .any e=true/\e.on=i:=by
   have h2:=hok.1.2.2
   cases hob:ops.toArray[b]? with
   |none=>rw [hob] at h2;cases h2
   |some ob=>
    rw [hob] at h2
    obtain ⟨e,he,h3⟩:=Array.any_eq_true'.1 h2
    simp only [Bool.and_eq_true,beq_iff_eq] at h3
    exact ⟨ob,rfl,e,he,h3.1,h3.2⟩
  obtain ⟨ob,hob,e,he,hbe,hei⟩:=hbi
  have hT:∀ l w,l.getD b true=false->(cI (some b) S1 S2 l w↔S1 w):=λ l w h=>by
   simp only [cI,h,Bool.false_eq_true,if_false]
  exact fS (T:=S1) (by simpa using ho) (Region.noSelect_spec hsel) (λ _ _ _ h=>h) (λ l=>l.getD b true=false)
   (λ l j oj h hoj hji hno=>by
    have hjb:j≠b:=λ e2=>by subst e2;rw [hob] at hoj;cases hoj;exact hno e he hbe hei
    rw [getD_set_ne true hjb];exact h)
   (λ l w h=>(hT l w h).1) (λ l w h=>by simp only [cI,getD_set_ne true hib]) fuel l a w hl (Region.free_spec (by simpa using ho) hok.1.1.1) (by simpa using hok.1.1.2) hy ((hT l w hl).2 hw)
   (planWp.pU hsel S1 h12 p _ fuel _ w hb (by rw [getD_set_ne true hib];exact hl) hok.2 (by simpa [Plan.depth] using hd) hp)
 |S1,h12,.loose i p,l,fuel+1,a,w,hb,hl,hok,hd,h=>by
  obtain ⟨o,v,ho,hy,hw,hp⟩:=h
  simp only [Plan.gN] at hb
  simp only [Plan.ok,Bool.and_eq_true,hb] at hok
  have hib:i≠b:=λ e=>by have:=hok.1.2;subst e;simp at this
  exact fS (T:=S2) (by simpa using ho) (Region.noSelect_spec hsel) (λ _ _ _ h=>h) (λ _=>True) (λ _ _ _ _ _ _ _=>trivial)
   (λ l w _ h=>by
    simp only [cI] at h
    by_cases hq:l.getD b true=true
    ·rw [if_pos hq] at h;exact h
    ·rw [if_neg hq] at h;exact h12 _ h) (λ l w h=>by simp only [cI,getD_set_ne true hib]) fuel l a w trivial (Region.free_spec (by simpa using ho) hok.1.1.1) (by simpa using hok.1.1.2) hy
   (by simp only [cI,hl,Bool.false_eq_true,if_false];exact hw)
   (planWp.pU hsel S1 h12 p _ fuel _ w hb (by rw [getD_set_ne true hib];exact hl) hok.2 (by simpa [Plan.depth] using hd) hp)
 |S1,h12,.one i p,l,fuel+1,a,w,hb,hl,hok,hd,h=>by
  simp only [Plan.gN] at hb
  simp only [Plan.ok,Bool.and_eq_true,beq_iff_eq,hb] at hok
  have hib:i≠b:=λ e=>by have:=hok.1.2;subst e;simp at this
  refine ⟨λ h0=>absurd (hok.1.1▸h0) (by simp),λ j hj=> ?_⟩
  rw [hok.1.1] at hj
  simp only [mem_singleton] at hj
  subst hj
  have hl2:(l.setIfInBounds j true).getD b true=false:=by rw [getD_set_ne true hib];exact hl
  exact wpOp_mono (λ a' w' ⟨T,hT,hTw,hp⟩=>⟨by simp only [cI,hl2,Bool.false_eq_true,if_false];exact hT _ hTw,dH hT (λ _ h=>h) _ _ _ _ (planWp.pU hsel T (λ w h=>h12 w (hT w h)) p _ fuel a' w' hb hl2 hok.2 (by simpa [Plan.depth] using hd) hp)⟩) h
 |S1,h12,.bar i p,l,fuel+1,a,w,hb,hl,hok,hd,h=>by
  simp only [Plan.gN,Option.some.injEq] at hb
  subst hb
  simp only [Plan.ok,Bool.and_eq_true,beq_iff_eq,Option.isNone_iff_eq_none] at hok
  refine ⟨λ h0=>absurd (hok.1.1▸h0) (by simp),λ j hj=> ?_⟩
  rw [hok.1.1] at hj
  simp only [mem_singleton] at hj
  subst hj
  exact wpOp_mono (λ a' w' h'=>⟨by simp only [cI,im,if_true];exact h'.1,
   planWp.mz hsel S2 [S2] rfl rfl p _ fuel a' w' hok.1.2 (λ b0 e=>by cases e;exact im) hok.2 (by simpa [Plan.depth] using hd) h'.2⟩) h
 |S1,h12,.fin,l,fuel,a,w,hb,_,_,_,_=>by simp [Plan.gN] at hb
 |S1,h12,.two i j p q,l,fuel+1,a,w,hb,hl,hok,hd,h=>by
  simp only [Plan.gN] at hb
  simp only [Plan.ok,Bool.and_eq_true,beq_iff_eq,hb] at hok
  obtain ⟨⟨⟨⟨⟨hr,hpq⟩,hni⟩,hnj⟩,hop⟩,hoq⟩:=hok
  have hib:i≠b:=λ e=>by subst e;simp at hni
  have hjb:j≠b:=λ e=>by subst e;simp at hnj
  simp only [Plan.depth] at hd
  refine ⟨λ h0=>absurd (hr▸h0) (by simp),λ k hk=> ?_⟩
  rw [hr] at hk
  simp only [mem_cons,not_mem_nil,or_false] at hk
  have hl2:∀ k,k≠b->(l.setIfInBounds k true).getD b true=false:=λ k hk=>by rw [getD_set_ne true hk];exact hl
  rcases hk with rfl|rfl
  ·exact wpOp_mono (λ a' w' ⟨T,hT,hTw,hp⟩=>⟨by simp only [cI,hl2 _ hib,Bool.false_eq_true,if_false];exact hT _ hTw,dH hT (λ _ h=>h) _ _ _ _ (planWp.pU hsel T (λ w h=>h12 w (hT w h)) p _ fuel a' w' hb (hl2 _ hib) hop (by omega) hp)⟩) h.1
  ·exact wpOp_mono (λ a' w' ⟨T,hT,hTw,hp⟩=>⟨by simp only [cI,hl2 _ hjb,Bool.false_eq_true,if_false];exact hT _ hTw,dH hT (λ _ h=>h) _ _ _ _ (planWp.pU hsel T (λ w h=>h12 w (hT w h)) q _ fuel a' w' hpq.symm (hl2 _ hjb) hoq (by omega) hp)⟩) h.2
 |S1,h12,.free i p,l,0,_,_,_,_,_,hd,_=>by simp [Plan.depth] at hd
 |S1,h12,.one i p,l,0,_,_,_,_,_,hd,_=>by simp [Plan.depth] at hd
 |S1,h12,.loose i p,l,0,_,_,_,_,_,hd,_=>by simp [Plan.depth] at hd
 |S1,h12,.bar i p,l,0,_,_,_,_,_,hd,_=>by simp [Plan.depth] at hd
 |S1,h12,.two i j p q,l,0,_,_,_,_,_,hd,_=>by simp [Plan.depth] at hd
def RP (P:Program) (n:Nat) (ops:List Oper) (S:List (World->Prop)) (p:Plan) (K:ay->World->Prop) (L:ay) (w:World):Prop:=
 ∀ a,Fits n L a->planWp P n ops K S p a w
def Plan.Aj (ops:List Oper) (p:Plan):Bool:=
 p.ok ops.toArray (Array.replicate ops.length false)&&Nat.ble p.depth ops.length&&Region.noSelect ops.toArray&&p.gN.isNone
def Plan.Ae (ops:List Oper) (b:Nat) (p:Plan):Bool:=
 p.ok ops.toArray (Array.replicate ops.length false)&&Nat.ble p.depth ops.length&&Region.noSelect ops.toArray&&(p.gN==some b)&&Nat.blt b ops.length
theorem CW.OS {id:Nat} {l:List Oper} (S:World->Prop) (p:Plan) (hm:P.follows .mixedOrders=true) (hok:p.Aj l=true)
  (h:RP P n l [S] p Q.nrm L w.drew):CW P n (.region id l.toArray true) Q L w:=λ a ha=>by
 simp only [Plan.Aj,Bool.and_eq_true,Option.isNone_iff_eq_none] at hok
 refine wp_mono (wp_region_any hm (lY (b:=none) (S1:=S) (S2:=S) _ _ _ _ ?_)) RQ.lift
 have:=planWp.mz (b:=none) (S1:=S) hok.1.2 S [S] rfl rfl p (Array.replicate l.length false) l.length a _ hok.2 (λ _ e=>by cases e) hok.1.1.1 (Nat.le_of_ble_eq_true hok.1.1.2) (h a ha)
 simpa using this
theorem CW.Np {id:Nat} {l:List Oper} (S1 S2:World->Prop) (b:Nat) (p:Plan) (h12:∀ w,S1 w->S2 w) (hm:P.follows .mixedOrders=true) (hok:p.Ae l b=true)
  (h:RP P n l [S1,S2] p Q.nrm L w.drew):CW P n (.region id l.toArray true) Q L w:=λ a ha=>by
 simp only [Plan.Ae,Bool.and_eq_true,beq_iff_eq] at hok
 have hb:b<l.length:=by have:=hok.2;simp only [Nat.blt_eq] at this;exact this
 refine wp_mono (wp_region_any hm (lY (b:=some b) (S1:=S1) (S2:=S2) _ _ _ _ ?_)) RQ.lift
 have:=planWp.pU (S2:=S2) hok.1.1.2 S1 h12 p (Array.replicate l.length false) l.length a _ hok.1.2 (by simp [hb]) hok.1.1.1.1 (Nat.le_of_ble_eq_true hok.1.1.1.2) (h a ha)
 simpa using this
variable {S:World->Prop} {SS:List (World->Prop)} {p q:Plan}
theorem RP.fin (h:K L w):RP P n ops SS .fin K L w:=λ _ ha=>⟨L,ha,h⟩
theorem RP.ev {i:Nat} {o:Oper} {v:Value} (ho:ops[i]? =some o) (hg:o.guard=none) (hd:bM n o.dst=true) (he:∀ w',S w'->Ev P n L w' o v) (hS:S w)
  (h:RP P n ops (S::SS) p K (putK o.dst v L) w):RP P n ops (S::SS) (.free i p) K L w:=λ a ha=>
 ⟨o,v,ho,.inl ⟨by simp [Region.wanted,hg],λ w' hw'=>he w' hw' a ha⟩,hS,h _ (ha.putK hd)⟩
theorem RP.e {i:Nat} {o:Oper} {v:Value} (ho:nz n ops i=some o) (he:∀ w',S w'->Ev P n L w' o v) (hS:S w)
  (h:RP P n ops (S::SS) p K (putK o.dst v L) w):RP P n ops (S::SS) (.free i p) K L w:=RP.ev (gk ho).1 (nw (gk ho).2) (ny (gk ho).2) he hS h
theorem OpE.same {o:Oper} {S:World->Prop} {R:(World->Prop)->Value->World->Prop} {P:Program} {n:Nat} {L:ay} {w:World} (he:OpE P n L w o λ v w'=>S w'/\R S v w'):OpE P n L w o λ v w'=>∃ T:World->Prop,(∀ u,T u->S u)/\T w'/\R T v w':=
 λ a ha next Q hk=>he a ha next Q λ v w' h=>hk v w' ⟨S,λ _ h=>h,h.1,h.2⟩
theorem pg {i:Nat} {o:Oper} (ho:ops[i]? =some o) (hg:o.guard=none) (hd:bM n o.dst=true) (he:OpE P n L w o λ v w'=>∃ T:World->Prop,(∀ u,T u->S u)/\T w'/\RP P n ops (T::SS) p K (putK o.dst v L) w') {a:Act} (ha:Fits n L a):
  wpOp P ops.toArray (RQ n K) i (λ a' w'=>∃ T:World->Prop,(∀ u,T u->S u)/\T w'/\planWp P n ops K (T::SS) p a' w') a w:=by
 have ho':ops.toArray[i]? =some o:=by simpa using ho
 unfold wpOp
 simp only [ho',Region.wanted,hg,if_true]
 exact .inl (he a ha _ _ λ v w' ⟨T,h1,h2,h3⟩=>⟨T,h1,h2,h3 _ (ha.putK hd)⟩)
theorem Jn {i:Nat} {o:Oper} (ho:ops[i]? =some o) (hg:o.guard=none) (hd:bM n o.dst=true) (he:OpE P n L w o λ v w'=>S w'/\RP P n ops (S::SS) p K (putK o.dst v L) w') {a:Act} (ha:Fits n L a):
  wpOp P ops.toArray (RQ n K) i (λ a' w'=>S w'/\planWp P n ops K (S::SS) p a' w') a w:=by
 have ho':ops.toArray[i]? =some o:=by simpa using ho
 unfold wpOp
 simp only [ho',Region.wanted,hg,if_true]
 exact .inl (he a ha _ _ λ v w' h=>⟨h.1,h.2 _ (ha.putK hd)⟩)
theorem RP.Im {i:Nat} {o:Oper} (ho:ops[i]? =some o) (hg:o.guard=none) (hd:bM n o.dst=true) (he:OpE P n L w o λ v w'=>S w'/\RP P n ops (S::SS) p K (putK o.dst v L) w'):RP P n ops (S::SS) (.one i p) K L w:=
 λ _ ha=>pg ho hg hd (OpE.same (R:=λ T v w'=>RP P n ops (T::SS) p K (putK o.dst v L) w') he) ha
theorem RP.f {i:Nat} {o:Oper} (ho:nz n ops i=some o) (he:OpE P n L w o λ v w'=>S w'/\RP P n ops (S::SS) p K (putK o.dst v L) w'):RP P n ops (S::SS) (.one i p) K L w:=
 RP.Im (gk ho).1 (nw (gk ho).2) (ny (gk ho).2) he
theorem RP.two {i j:Nat} {oi oj:Oper} (ho:ops[i]? =some oi) (hg:oi.guard=none) (hd:bM n oi.dst=true) (ho':ops[j]? =some oj) (hg':oj.guard=none) (hd':bM n oj.dst=true)
  (he:OpE P n L w oi λ v w'=>S w'/\RP P n ops (S::SS) p K (putK oi.dst v L) w') (he':OpE P n L w oj λ v w'=>S w'/\RP P n ops (S::SS) q K (putK oj.dst v L) w'):RP P n ops (S::SS) (.two i j p q) K L w:=
 λ _ ha=>⟨pg ho hg hd (OpE.same (R:=λ T v w'=>RP P n ops (T::SS) p K (putK oi.dst v L) w') he) ha,pg ho' hg' hd' (OpE.same (R:=λ T v w'=>RP P n ops (T::SS) q K (putK oj.dst v L) w') he') ha⟩
theorem RP.mA {i:Nat} {o:Oper} (ho:ops[i]? =some o) (hg:o.guard=none) (hd:bM n o.dst=true) (he:OpE P n L w o λ v w'=>∃ T:World->Prop,(∀ u,T u->S u)/\T w'/\RP P n ops (T::SS) p K (putK o.dst v L) w'):RP P n ops (S::SS) (.one i p) K L w:=
 λ _ ha=>pg ho hg hd he ha
theorem RP.vg {i j:Nat} {oi oj:Oper} (ho:ops[i]? =some oi) (hg:oi.guard=none) (hd:bM n oi.dst=true) (ho':ops[j]? =some oj) (hg':oj.guard=none) (hd':bM n oj.dst=true)
  (he:OpE P n L w oi λ v w'=>∃ T:World->Prop,(∀ u,T u->S u)/\T w'/\RP P n ops (T::SS) p K (putK oi.dst v L) w') (he':OpE P n L w oj λ v w'=>∃ T:World->Prop,(∀ u,T u->S u)/\T w'/\RP P n ops (T::SS) q K (putK oj.dst v L) w'):RP P n ops (S::SS) (.two i j p q) K L w:=
 λ _ ha=>⟨pg ho hg hd he ha,pg ho' hg' hd' he' ha⟩
theorem RP.loose {i:Nat} {o:Oper} {v:Value} {S2:World->Prop} (ho:ops[i]? =some o) (hg:o.guard=none) (hd:bM n o.dst=true) (he:∀ w',S2 w'->Ev P n L w' o v) (hS:S w)
  (h:RP P n ops (S::S2::SS) p K (putK o.dst v L) w):RP P n ops (S::S2::SS) (.loose i p) K L w:=λ a ha=>
 ⟨o,v,ho,.inl ⟨by simp [Region.wanted,hg],λ w' hw'=>he w' hw' a ha⟩,hS,h _ (ha.putK hd)⟩
theorem RP.bar {i:Nat} {o:Oper} {S2:World->Prop} (ho:ops[i]? =some o) (hg:o.guard=none) (hd:bM n o.dst=true) (he:OpE P n L w o λ v w'=>S2 w'/\RP P n ops (S2::SS) p K (putK o.dst v L) w'):RP P n ops (S::S2::SS) (.bar i p) K L w:=
 λ _ ha=>Jn ho hg hd he ha
theorem OpE.ev {o:Oper} {v:Value} {K:Value->World->Prop} (he:Ev P n L w o v) (h:K v w):OpE P n L w o K:=λ a ha _ _ hk=>by
 simp only [Oper.wp,he a ha,Oper.upon];exact hk _ _ h
end
section
variable {P:Program} {n:Nat} {N R:ay->World->Prop} {X G:List (Nat×(ay->World->Prop))} {L:ay} {w:World}
theorem CW.skip (h:N L w):CW P n .skip ⟨N,R,X,G⟩ L w:=CW.OV h
theorem CW.ret (h:R L w):CW P n .ret ⟨N,R,X,G⟩ L w:=CW.Py h
theorem CW.ao {id:Nat} {M:ay->World->Prop} (h:M L w):CW P n (.exit id) ⟨N,R,(id,M)::X,G⟩ L w:=CW.LK (by simp only [ej,if_pos];exact h)
theorem Bg {E:List (Nat×(ay->World->Prop))} {i id:Nat} {M:ay->World->Prop} (h:(i==id)=false):jI ((i,M)::E) id=jI E id:=by
 rw [ej,if_neg (by simpa using h)]
theorem CW.LL {id i1:Nat} {M M1:ay->World->Prop} (h1:(i1==id)=false) (h:M L w):CW P n (.exit id) ⟨N,R,(i1,M1)::(id,M)::X,G⟩ L w:=CW.LK (by
 show jI _ id L w;rw [Bg h1,ej,if_pos rfl];exact h)
theorem CW.seq {x y:Code} (h:CW P n x ⟨λ L w=>CW P n y ⟨N,R,X,G⟩ L w,R,X,G⟩ L w):CW P n (.seq x y) ⟨N,R,X,G⟩ L w:=CW.PQ h
theorem CW.BT {x y:Code} (M:ay->World->Prop) (h:CW P n x ⟨M,R,X,G⟩ L w) (h2:∀ L' w',M L' w'->CW P n y ⟨N,R,X,G⟩ L' w'):CW P n (.seq x y) ⟨N,R,X,G⟩ L w:=CW.KE M h h2
theorem CW.dm {c:Code} (M:ay->World->Prop) (h:CW P n c ⟨M,R,X,G⟩ L w) (h2:∀ L' w',M L' w'->N L' w'):CW P n c ⟨N,R,X,G⟩ L w:=CW.PH M h h2
theorem CW.cond {c:Operand} {x y:Code} {b:Bool} (hc:aI L c=some (.bool b)) (ht:b=true->CW P n x ⟨N,R,X,G⟩ L w) (hf:b=false->CW P n y ⟨N,R,X,G⟩ L w):CW P n (.cond c x y) ⟨N,R,X,G⟩ L w:=CW.Da hc ht hf
theorem CW.ab {c:Operand} {x y:Code} {p:Prop} {dp:Decidable p} (hc:aI L c=some (.bool (@decide p dp))) (ht:p->CW P n x ⟨N,R,X,G⟩ L w) (hf:¬ p->CW P n y ⟨N,R,X,G⟩ L w):CW P n (.cond c x y) ⟨N,R,X,G⟩ L w:=CW.NG hc ht hf
theorem CW.dD {c:Operand} {x y:Code} {b:Bool} (hc:aI L c=some (.bool b)) (hb:b=true) (ht:CW P n x ⟨N,R,X,G⟩ L w):CW P n (.cond c x y) ⟨N,R,X,G⟩ L w:=CW.Nu hc hb ht
theorem CW.ak {c:Operand} {x y:Code} {b:Bool} (hc:aI L c=some (.bool b)) (hb:b=false) (hf:CW P n y ⟨N,R,X,G⟩ L w):CW P n (.cond c x y) ⟨N,R,X,G⟩ L w:=CW.Nj hc hb hf
theorem CW.block {id:Nat} {c:Code} (h:CW P n c ⟨N,R,(id,N)::X,G⟩ L w):CW P n (.block id c) ⟨N,R,X,G⟩ L w:=CW.Nt h
theorem CW.loop {c:Code} {α:Type} (K:α->ay) (I:α->World->Prop) (μ:α->Nat) (x₀:α) (h0:Weak (K x₀) L) (hI:I x₀ w)
  (round:∀ x w,I x w->CW P n c ⟨λ L' w'=>∃ x',Weak (K x') L'/\I x' w'/\μ x'<μ x,R,X,G⟩ (K x) w):CW P n (.loop c) ⟨N,R,X,G⟩ L w:=CW.P4 K I μ x₀ h0 hI round
theorem CW.region {id:Nat} {l:List Oper} (h:RT P n l l N L w):CW P n (.region id l.toArray false) ⟨N,R,X,G⟩ L w:=CW.KC h
theorem CW.lr {id:Nat} {l:List Oper} (S1 S2:World->Prop) (b:Nat) (p:Plan) (h12:∀ w,S1 w->S2 w) (hm:P.follows .mixedOrders=true) (hok:p.Ae l b=true)
  (h:RP P n l [S1,S2] p N L w.drew):CW P n (.region id l.toArray true) ⟨N,R,X,G⟩ L w:=CW.Np S1 S2 b p h12 hm hok h
theorem CW.draw {id:Nat} {l:List Oper} (S:World->Prop) (p:Plan) (hm:P.follows .mixedOrders=true) (hok:p.Aj l=true)
  (h:RP P n l [S] p N L w.drew):CW P n (.region id l.toArray true) ⟨N,R,X,G⟩ L w:=CW.OS S p hm hok h
end
def Pp (Φ:Value->World->Prop):Ending->World->Prop:=λ e w'=>∃ v,e= .returned v/\Φ v w'
def CallsV (P:Program) (f:FuncId) (args:List Value) (w:World) (Φ:Value->World->Prop):Prop:=Calls P f args.toArray w (Pp Φ)
theorem CallsV.mono {P:Program} {f:FuncId} {args:List Value} {w:World} {Φ Ψ:Value->World->Prop} (h:CallsV P f args w Φ) (hk:∀ v w',Φ v w'->Ψ v w'):CallsV P f args w Ψ:=
 Calls.mono h λ _ w' ⟨v,he,hv⟩=>⟨v,he,hk v w' hv⟩
def Enters (P:Program) (f:FuncId):Prop:=∀ args w,(callFunc f args).run P w= .ok (.enter f args) w
theorem Enters.of {P : Program} {f : FuncId} {fn : Func} (hf : P.funcs[f]? = some fn) (hb : fn.body.isNone = false) (hn : (fn.name == "runtime.NumGoroutine") = false) : Enters P f := fun args w => by
 have h1 : fn.name ≠ "runtime.NumGoroutine" := by simpa using hn
 have h2:fn.body≠none:=by intro h;rw [h] at hb;cases hb
 have hp:∀ w,(program).run P w= .ok P w:=λ _=>rfl
 simp [callFunc,hp,hf,h1,h2]
section
variable {P:Program} {n:Nat} {L:ay} {w:World} {K:Value->World->Prop}
theorem OpE.call {d:Option Nat} {f:FuncId} {xs:List Operand} {ats:Array TypeId} {ty:TypeId} {pos:String} {af:Array Edge} {g:Option (Nat×Bool)} {vs:List Value}
  (hf:Enters P f) (hx:pf L xs=some vs) (h:CallsV P f vs w K):OpE P n L w ⟨d,.call ⟨.value (.func f),xs.toArray,ats⟩,ty,pos,af,g⟩ K:=λ a ha next Q hk=>by
 have he:=ha.Af hx
 have hrun:(execOp a.eval ⟨d,.call ⟨.value (.func f),xs.toArray,ats⟩,ty,pos,af,g⟩).run P w= .ok (.enter f vs.toArray) w:=by
  have hm:xs.toArray.map a.eval=vs.toArray:=by simp [he]
  have:=hf vs.toArray w
  simp only [execOp,resolve,hm,Act.eval,Deferred.ofValue,bind,Sem.bind,pure,invoke]
  simpa [Sem.run] using this
 simp only [Oper.wp,hrun,Oper.upon]
 refine Calls.mono h λ e w' ⟨v,he',hv⟩=> ?_
 subst he'
 exact hk v w' hv
theorem OpE.km {d:Option Nat} {t:Nat} {f:FuncId} {cap:Array Value} {xs:List Operand} {ats:Array TypeId} {ty:TypeId} {pos:String} {af:Array Edge} {g:Option (Nat×Bool)} {vs:List Value}
  (hf:Enters P f) (ht:look L t=some (.func (.func f) #[] cap)) (hx:pf L xs=some vs) (h:CallsV P f (vs++cap.toList) w K):OpE P n L w ⟨d,.call ⟨.value (.tmp t),xs.toArray,ats⟩,ty,pos,af,g⟩ K:=λ a ha next Q hk=>by
 have he:=ha.Af hx
 have hv:a.eval (.tmp t)= .func (.func f) #[] cap:=ha.eval ht
 have hrun:(execOp a.eval ⟨d,.call ⟨.value (.tmp t),xs.toArray,ats⟩,ty,pos,af,g⟩).run P w= .ok (.enter f (vs++cap.toList).toArray) w:=by
  have hm:xs.toArray.map a.eval=vs.toArray:=by simp [he]
  have:=hf (vs++cap.toList).toArray w
  have hc: #[]++vs.toArray++cap=(vs++cap.toList).toArray:=by simp
  simp only [execOp,resolve,hm,hv,Deferred.ofValue,bind,Sem.bind,pure,invoke,hc]
  simpa only [Sem.run] using this
 simp only [Oper.wp,hrun,Oper.upon]
 refine Calls.mono h λ e w' ⟨v,he',hv⟩=> ?_
 subst he'
 exact hk v w' hv
end
def aK (P:Program) (n:Nat) (fn:Func) (Φ:Value->World->Prop) (L:ay) (w:World):Prop:=∀ a,Fits n L a->∃ v,(results fn a.tmps).run P w= .ok v w/\Φ v w
def initK:List Value->Nat->ay
 |[],_=>[]
 |v::r,i=>(i,v)::initK r (i+1)
theorem lZ:∀ (l:List Value) (i t:Nat) (v:Value),look (initK l i) t=some v->i<=t/\l[t-i]? =some v
 |[],i,t,v,h=>by simp [initK,look] at h
 |x::r,i,t,v,h=>by
  simp only [initK] at h
  rw [iB] at h
  by_cases e:i=t
  ·subst e;simp at h;subst h;exact ⟨Nat.le_refl _,by simp⟩
  ·simp only [e,if_false] at h
   obtain ⟨h1,h2⟩:=lZ r (i+1) t v h
   refine ⟨by omega,?_⟩
   have:t-i=(t-(i+1))+1:=by omega
   rw [this];simpa using h2
theorem ae {P:Program} {f:FuncId} {fn:Func} {c:Code} {args:List Value} {w:World} {Φ:Value->World->Prop} (hf:P.funcs[f]? =some fn) (hb:fn.body=some c)
  (hn:Nat.ble args.length fn.ntmps=true) (h:CW P fn.ntmps c ⟨aK P fn.ntmps fn Φ,aK P fn.ntmps fn Φ,[],[]⟩ (initK args 0) w):CallsV P f args w Φ:=by
 refine calls_of_wp hf hb (wp_mono (h _ ⟨?_,?_,rfl⟩) ?_)
 ·have:=Nat.le_of_ble_eq_true hn;simp;omega
 ·intro t v hv
  obtain ⟨_,h2⟩:=lZ args 0 t v hv
  simp only [Nat.sub_zero] at h2
  rw [Array.getElem?_append]
  have hlt:t<args.length:=by
   rcases Nat.lt_or_ge t args.length with h|h
   ·exact h
   ·simp [getElem?_eq_none h] at h2
  simp [hlt] at h2⊢
  exact h2
 ·intro e a' w' q
  cases e with
  |normal=>obtain ⟨L',hL,hp⟩:=q;obtain ⟨v,hv,hΦ⟩:=hp a' hL;exact ⟨hL.defers,v,hv,v,rfl,hΦ⟩
  |ret=>obtain ⟨L',hL,hp⟩:=q;obtain ⟨v,hv,hΦ⟩:=hp a' hL;exact ⟨hL.defers,v,hv,v,rfl,hΦ⟩
  |exit id=>obtain ⟨L',hL,hp⟩:=q;exact hp
  |goto l=>obtain ⟨L',hL,hp⟩:=q;exact hp
  |panic c=>exact q.elim
  |outgrown=>exact q.elim
section
variable {P:Program} {n:Nat} {fn:Func} {Φ:Value->World->Prop} {L:ay} {w:World}
theorem bt (hr:fn.results= #[]) (h:Φ (.tuple #[]) w):aK P n fn Φ L w:=λ _ _=>⟨_,results_none hr _ _ _,h⟩
theorem L8 {t:Nat} {v:Value} (hr:fn.results= #[.tmp t]) (hv:look L t=some v) (h:Φ v w):aK P n fn Φ L w:=λ a ha=>
 ⟨_,results_tmp hr _ _ _,by have:=ha.slot t v hv;simpa [Array.getD_eq_getD_getElem?,this] using h⟩
theorem NW {t u:Nat} {v x:Value} (hr:fn.results= #[.tmp t,.tmp u]) (hv:look L t=some v) (hx:look L u=some x) (h:Φ (.tuple #[v,x]) w):aK P n fn Φ L w:=λ a ha=>
 ⟨_,results_tmp2 hr _ _ _,by have h1:=ha.slot t v hv;have h2:=ha.slot u x hx;simpa [Array.getD_eq_getD_getElem?,h1,h2] using h⟩
theorem iC {t u s:Nat} {v x y:Value} (hr:fn.results= #[.tmp t,.tmp u,.tmp s]) (hv:look L t=some v) (hx:look L u=some x) (hy:look L s=some y) (h:Φ (.tuple #[v,x,y]) w):aK P n fn Φ L w:=λ a ha=>
 ⟨_,results_tmp3 hr _ _ _,by have h1:=ha.slot t v hv;have h2:=ha.slot u x hx;have h3:=ha.slot s y hy;simpa [Array.getD_eq_getD_getElem?,h1,h2,h3] using h⟩
theorem CW.aC {N:ay->World->Prop} {X G:List (Nat×(ay->World->Prop))} {t:Nat} {v:Value} (hr:fn.results= #[.tmp t]) (hv:look L t=some v) (h:Φ v w):CW P n .ret ⟨N,aK P n fn Φ,X,G⟩ L w:=CW.ret (L8 hr hv h)
theorem CW.bG {N:ay->World->Prop} {X G:List (Nat×(ay->World->Prop))} {t u:Nat} {v x:Value} (hr:fn.results= #[.tmp t,.tmp u]) (hv:look L t=some v) (hx:look L u=some x) (h:Φ (.tuple #[v,x]) w):CW P n .ret ⟨N,aK P n fn Φ,X,G⟩ L w:=CW.ret (NW hr hv hx h)
end
section
variable {P:Program} {n:Nat} {L:ay} {w:World} {d:Option Nat} {ty:TypeId} {pos:String} {af:Array Edge} {g:Option (Nat×Bool)}
theorem Ev.of {o:Oper} {v:Value} (h:∀ ρ:Operand->Value,(∀ {x u},aI L x=some u->ρ x=u)->(execOp ρ o).run P w= .ok (.value v) w):Ev P n L w o v:=λ a ha=>h a.eval λ hx=>ha.eval hx
theorem Ev.move {x:Operand} {v:Value} (hx:aI L x=some v):Ev P n L w ⟨d,.move x,ty,pos,af,g⟩ v:= .of λ ρ hρ=>by
 simp [execOp,hρ hx,go_sem]
theorem Ev.assign {x:Operand} {v:Value} (hx:aI L x=some v):Ev P n L w ⟨d,.assign x,ty,pos,af,g⟩ v:= .of λ ρ hρ=>by
 simp [execOp,hρ hx,go_sem]
theorem RP.m {ops:List Oper} {SS:List (World->Prop)} {S:World->Prop} {p:Plan} {K:ay->World->Prop} {i:Nat} {x:Operand} {v:Value} (ho:nz n ops i=some ⟨d,.move x,ty,pos,af,g⟩) (hx:aI L x=some v) (hS:S w)
  (h:RP P n ops (S::SS) p K (putK d v L) w):RP P n ops (S::SS) (.free i p) K L w:=RP.e ho (λ _ _=>Ev.move hx) hS h
def nA:List Nat->ay->Option ay
 |[],_=>some []
 |t::ts,L=>(look L t).bind λ v=>(nA ts L).map λ r=>(t,v)::r
theorem tu:∀ (ts:List Nat) {L L':ay},nA ts L=some L'->Weak L' L
 |[],L,L',h=>by simp [nA] at h;subst h;trivial
 |t::ts,L,L',h=>by
  simp only [nA,Option.bind_eq_some_iff,Option.map_eq_some_iff] at h
  obtain ⟨v,hv,r,hr,rfl⟩:=h
  exact ⟨hv,tu ts hr⟩
theorem CW.trim {c:Code} {Q:Qs} {L':ay} (ts:List Nat) (h:nA ts L=some L') (hk:CW P n c Q L' w):CW P n c Q L w:=CW.weaken L' (tu ts h) hk
theorem wk {L' L:ay} (h:L'.map (λ p=>look L p.1)=L'.map (λ p=>some p.2)):Weak L' L:=by
 induction L' with
 |nil=>trivial
 |cons p r ih=>
  obtain ⟨t,v⟩:=p
  simp only [map_cons,List.cons.injEq] at h
  exact ⟨h.1,ih h.2⟩
def Gg:List Nat->ay->ay
 |_,[]=>[]
 |S,(u,v)::r=>cond (S.any (Nat.beq u)) (Gg S r) ((u,v)::Gg (u::S) r)
def Ck (t:Nat) (L:ay):ay:=Gg [t] L
theorem CW.bH {id:Nat} {l:List Oper} {y:Code} {Q:Qs} {R:ay->World->Prop} {X G:List (Nat×(ay->World->Prop))} (t:Nat) (p:Prop) [dp:Decidable p] (h:RT P n l l (λ L' w'=>w'=w/\look L' t=some (.bool (decide p))/\Weak (Ck t L) L') L w) (h2:CW P n y Q ((t,.bool (decide p))::Ck t L) w):
  CW P n (.region id l.toArray false) ⟨λ L w=>CW P n y Q L w,R,X,G⟩ L w:=by
 refine CW.dm (λ L' w'=>w'=w/\look L' t=some (.bool (decide p))/\Weak (Ck t L) L') (CW.region h) ?_
 rintro L' w' ⟨rfl,h3,h4⟩
 exact CW.weaken _ (show Weak ((t,.bool (decide p))::Ck t L) L' from ⟨h3,h4⟩) h2
theorem Ev.ux {c x y:Operand} {v:Value} (hc:aI L c=some (.bool true)) (hx:aI L x=some v):Ev P n L w ⟨d,.pick c x y,ty,pos,af,g⟩ v:= .of λ ρ hρ=>by
 simp [execOp,hρ hx,hρ hc,go_sem]
theorem Ev.LJ {c x y:Operand} {v:Value} (hc:aI L c=some (.bool false)) (hy:aI L y=some v):Ev P n L w ⟨d,.pick c x y,ty,pos,af,g⟩ v:= .of λ ρ hρ=>by
 simp [execOp,hρ hy,hρ hc,go_sem]
theorem Ev.LN {c x y:Operand} {v:Value} {b:Bool} (hc:aI L c=some (.bool b)) (hb:b=true) (hx:aI L x=some v):Ev P n L w ⟨d,.pick c x y,ty,pos,af,g⟩ v:=Ev.ux (hb▸hc) hx
theorem Ev.OO {c x y:Operand} {v:Value} {b:Bool} (hc:aI L c=some (.bool b)) (hb:b=false) (hy:aI L y=some v):Ev P n L w ⟨d,.pick c x y,ty,pos,af,g⟩ v:=Ev.LJ (hb▸hc) hy
theorem Ev.nilCheck {x:Operand} {p:Addr} (hx:aI L x=some (.pointer (some p))):Ev P n L w ⟨d,.nilCheck x,ty,pos,af,g⟩ (.pointer (some p)):= .of λ ρ hρ=>by
 simp [execOp,hρ hx,go_sem]
theorem Ev.extract {x:Operand} {i:Nat} {vs:Array Value} {v:Value} (hx:aI L x=some (.tuple vs)) (hv:vs[i]? =some v):Ev P n L w ⟨d,.extract x i,ty,pos,af,g⟩ v:= .of λ ρ hρ=>by
 simp [execOp,hρ hx,Instr.extract,hv,go_sem]
def bo (z:Int):Prop:= -9223372036854775808<=z/\z<=9223372036854775807
theorem wrap_i64 {z:Int} (h:bo z):IntKind.i64.wrap z=z:=IntWalk.i64_in _ h
section ints
variable {x y:Operand} {k:IntKind} {a b:Int} {xt yt:TypeId}
theorem Ev.bin {op:BinOp} {u v r:Value} (hx:aI L x=some u) (hy:aI L y=some v) (hg:eqGuard op xt x y u v=pure ()) (hr:∀ w:World,(binOp op xt u v).run P w= .ok r w):
  Ev P n L w ⟨d,.binOp op xt x y yt,ty,pos,af,g⟩ r:= .of λ ρ hρ=>by
 simp only [execOp,hρ hx,hρ hy,hg]
 simp [go_sem,hr]
theorem Ev.add (hx:aI L x=some (.int .i64 a)) (hy:aI L y=some (.int .i64 b)) (h:bo (a+b)):Ev P n L w ⟨d,.binOp .add xt x y yt,ty,pos,af,g⟩ (.int .i64 (a+b)):=
 .bin hx hy (eqGuard_at_int ..) λ w=>by simp [go_sem,Op.intArith,wrap_i64 h]
theorem Ev.sub (hx:aI L x=some (.int .i64 a)) (hy:aI L y=some (.int .i64 b)) (h:bo (a-b)):Ev P n L w ⟨d,.binOp .sub xt x y yt,ty,pos,af,g⟩ (.int .i64 (a-b)):=
 .bin hx hy (eqGuard_at_int ..) λ w=>by simp [go_sem,Op.intArith,wrap_i64 h]
theorem Ev.mul (hx:aI L x=some (.int .i64 a)) (hy:aI L y=some (.int .i64 b)) (h:bo (a*b)):Ev P n L w ⟨d,.binOp .mul xt x y yt,ty,pos,af,g⟩ (.int .i64 (a*b)):=
 .bin hx hy (eqGuard_at_int ..) λ w=>by simp [go_sem,Op.intArith,wrap_i64 h]
theorem Ev.addW (hx:aI L x=some (.int k a)) (hy:aI L y=some (.int k b)):Ev P n L w ⟨d,.binOp .add xt x y yt,ty,pos,af,g⟩ (.int k (k.wrap (a+b))):=
 .bin hx hy (eqGuard_at_int ..) λ w=>by simp [go_sem,Op.intArith]
theorem Ev.PV (hx:aI L x=some (.int k a)) (hy:aI L y=some (.int k b)):Ev P n L w ⟨d,.binOp .sub xt x y yt,ty,pos,af,g⟩ (.int k (k.wrap (a-b))):=
 .bin hx hy (eqGuard_at_int ..) λ w=>by simp [go_sem,Op.intArith]
theorem Ev.lss (hx:aI L x=some (.int k a)) (hy:aI L y=some (.int k b)):Ev P n L w ⟨d,.binOp .lss xt x y yt,ty,pos,af,g⟩ (.bool (decide (a<b))):=
 .bin hx hy (eqGuard_at_int ..) λ w=>by simp [go_sem]
theorem Ev.leq (hx:aI L x=some (.int k a)) (hy:aI L y=some (.int k b)):Ev P n L w ⟨d,.binOp .leq xt x y yt,ty,pos,af,g⟩ (.bool (decide (a<=b))):=
 .bin hx hy (eqGuard_at_int ..) λ w=>by simp [go_sem]
theorem Ev.gtr (hx:aI L x=some (.int k a)) (hy:aI L y=some (.int k b)):Ev P n L w ⟨d,.binOp .gtr xt x y yt,ty,pos,af,g⟩ (.bool (decide (b<a))):=
 .bin hx hy (eqGuard_at_int ..) λ w=>by simp [go_sem]
theorem Ev.geq (hx:aI L x=some (.int k a)) (hy:aI L y=some (.int k b)):Ev P n L w ⟨d,.binOp .geq xt x y yt,ty,pos,af,g⟩ (.bool (decide (b<=a))):=
 .bin hx hy (eqGuard_at_int ..) λ w=>by simp [go_sem]
theorem Ev.eql (hx:aI L x=some (.int k a)) (hy:aI L y=some (.int k b)):Ev P n L w ⟨d,.binOp .eql xt x y yt,ty,pos,af,g⟩ (.bool (decide (a=b))):=
 .bin hx hy (eqGuard_at_int ..) λ w=>by simp [go_sem];rfl
theorem Ev.neq (hx:aI L x=some (.int k a)) (hy:aI L y=some (.int k b)):Ev P n L w ⟨d,.binOp .neq xt x y yt,ty,pos,af,g⟩ (.bool (decide (a≠b))):=
 .bin hx hy (eqGuard_at_int ..) λ w=>by simp [go_sem];rfl
theorem Ev.quo {a b:Nat} (hx:aI L x=some (.int .i64 (a:Int))) (hy:aI L y=some (.int .i64 (b:Int))) (hb:0<b) (h:bo a):Ev P n L w ⟨d,.binOp .quo xt x y yt,ty,pos,af,g⟩ (.int .i64 ((a/b:Nat):Int)):=
 .bin hx hy (eqGuard_at_int ..) λ w=>by
  have h0:(b:Int)≠0:=by omega
  have h1:((a:Int).tdiv (b:Int))=((a/b:Nat):Int):=by rw [Int.tdiv_eq_ediv_of_nonneg (by omega)];simp
  have h2:IntKind.i64.wrap ((a/b:Nat):Int)=((a/b:Nat):Int):=by
   have h3:=Nat.div_le_self a b
   have h4:=h.2
   generalize a/b=q at*
   exact wrap_i64 ⟨by omega,by omega⟩
  simp only [binOp,Op.intDiv,h0,if_false,h1,h2,go_sem]
  simp [go_sem]
theorem Ev.rem {a b:Nat} (hx:aI L x=some (.int k (a:Int))) (hy:aI L y=some (.int k (b:Int))) (hb:0<b):Ev P n L w ⟨d,.binOp .rem xt x y yt,ty,pos,af,g⟩ (.int k ((a%b:Nat):Int)):=
 .bin hx hy (eqGuard_at_int ..) λ w=>by
  have h0:(b:Int)≠0:=by omega
  have h1:((a:Int).tmod (b:Int))=((a%b:Nat):Int):=by rw [Int.tmod_eq_emod_of_nonneg (by omega)];simp
  simp only [binOp,Op.intDiv,h0,if_false,h1,go_sem]
  simp [go_sem]
end ints
end
theorem tw {k:IntKind} (hk:k.signed=false) {a:Nat} (h:a<2^k.bits):k.wrap (a:Int)=a:=by
 have h2:((a:Int))<((2^k.bits:Nat):Int):=by omega
 simp only [IntKind.wrap,hk,Bool.false_and,Bool.false_eq_true,if_false]
 have:((2:Int)^k.bits)=((2^k.bits:Nat):Int):=by norm_cast
 rw [this,<-Int.natCast_emod,Nat.mod_eq_of_lt h]
theorem Mc {P:Program} {k:IntKind} (hk:k.signed=false) {a b:Nat} (ha:a<2^k.bits) (hb:b<2^k.bits) (w:World):(Op.intBits .or k a b).run P w= .ok (.int k ((a|||b:Nat):Int)) w:=by
 have:=tw hk (Nat.or_lt_two_pow ha hb)
 simp only [Op.intBits,BitVec.ofInt_natCast,BitVec.toNat_or,BitVec.toNat_ofNat,Nat.mod_eq_of_lt ha,Nat.mod_eq_of_lt hb,this]
 rfl
theorem Cl {P:Program} {k:IntKind} (hk:k.signed=false) {a b:Nat} (ha:a<2^k.bits) (hb:b<2^k.bits) (w:World):(Op.intBits .xor k a b).run P w= .ok (.int k ((a^^^b:Nat):Int)) w:=by
 have:=tw hk (Nat.xor_lt_two_pow ha hb)
 simp only [Op.intBits,BitVec.ofInt_natCast,BitVec.toNat_xor,BitVec.toNat_ofNat,Nat.mod_eq_of_lt ha,Nat.mod_eq_of_lt hb,this]
 rfl
theorem Jo {P:Program} {k:IntKind} (hk:k.signed=false) {a b:Nat} (ha:a<2^k.bits) (hb:b<2^k.bits) (w:World):(Op.intBits .and k a b).run P w= .ok (.int k ((a&&&b:Nat):Int)) w:=by
 have:=tw hk (Nat.and_lt_two_pow a hb)
 simp only [Op.intBits,BitVec.ofInt_natCast,BitVec.toNat_and,BitVec.toNat_ofNat,Nat.mod_eq_of_lt ha,Nat.mod_eq_of_lt hb,this]
 rfl
theorem tz {a:Nat} (h:a<2^63):IntKind.i64.wrap (a:Int)=a:=IntWalk.i64_in _ ⟨by omega,by omega⟩
theorem Jp {P:Program} {a b:Nat} (ha:a<2^63) (hb:b<2^63) (w:World):(Op.intBits .or .i64 a b).run P w= .ok (.int .i64 ((a|||b:Nat):Int)) w:=by
 have:=tz (Nat.or_lt_two_pow ha hb)
 have ha':a<2^IntKind.i64.bits:=by simp only [IntKind.bits];omega
 have hb':b<2^IntKind.i64.bits:=by simp only [IntKind.bits];omega
 simp only [Op.intBits,BitVec.ofInt_natCast,BitVec.toNat_or,BitVec.toNat_ofNat,Nat.mod_eq_of_lt ha',Nat.mod_eq_of_lt hb',this]
 rfl
theorem Jq {P:Program} {k yk:IntKind} {a b:Nat} (ha:a<2^k.bits) (w:World):(Op.shift .shr k a yk b).run P w= .ok (.int k ((a/2^b:Nat):Int)) w:=by
 have h1:((a:Int).fdiv (2^(min b k.bits)))=((a/2^b:Nat):Int):=by
  have e:((2:Int)^(min b k.bits))=((2^(min b k.bits):Nat):Int):=by norm_cast
  rw [e,Int.fdiv_eq_ediv_of_nonneg _ (Int.natCast_nonneg _),<-Int.natCast_ediv]
  congr 1
  rcases Nat.le_total b k.bits with h|h
  ·rw [Nat.min_eq_left h]
  ·rw [Nat.min_eq_right h,Nat.div_eq_of_lt ha,Nat.div_eq_of_lt (Nat.lt_of_lt_of_le ha (Nat.pow_le_pow_right (by decide) h))]
 have h0:¬ ((b:Int)<0):=by omega
 simp only [Op.shift,h0,if_false,Int.toNat_natCast,h1]
 rfl
theorem Cm {P:Program} {k yk:IntKind} {a b:Nat} (hb:b<=k.bits) (w:World):(Op.shift .shl k a yk b).run P w= .ok (.int k (k.wrap ((a*2^b:Nat):Int))) w:=by
 have h0:¬ ((b:Int)<0):=by omega
 have e:((a:Int)*2^b)=((a*2^b:Nat):Int):=by push_cast;rfl
 simp only [Op.shift,h0,if_false,Int.toNat_natCast,Nat.min_eq_left hb,e]
 rfl
theorem ph {k:IntKind} (hk:k.signed=false) (a:Nat):k.wrap (a:Int)=((a%2^k.bits:Nat):Int):=by
 simp only [IntKind.wrap,hk,Bool.false_and,Bool.false_eq_true,if_false]
 have:((2:Int)^k.bits)=((2^k.bits:Nat):Int):=by norm_cast
 rw [this,<-Int.natCast_emod]
section
variable {P:Program} {n:Nat} {L:ay} {w:World} {d:Option Nat} {ty:TypeId} {pos:String} {af:Array Edge} {g:Option (Nat×Bool)} {x y:Operand} {k:IntKind} {xt yt:TypeId}
theorem Ev.Q2 {a b:Nat} (hx:aI L x=some (.int k (a:Int))) (hy:aI L y=some (.int k (b:Int))) (hk:k.signed=false) (ha:a<2^k.bits) (hb:b<2^k.bits):Ev P n L w ⟨d,.binOp .or xt x y yt,ty,pos,af,g⟩ (.int k ((a|||b:Nat):Int)):=
 .bin hx hy (eqGuard_at_int ..) λ w=>by rw [binOp_or];exact Mc hk ha hb w
theorem Ev.PB {a b:Nat} (hx:aI L x=some (.int k (a:Int))) (hy:aI L y=some (.int k (b:Int))) (hk:k.signed=false) (ha:a<2^k.bits) (hb:b<2^k.bits):Ev P n L w ⟨d,.binOp .and xt x y yt,ty,pos,af,g⟩ (.int k ((a&&&b:Nat):Int)):=
 .bin hx hy (eqGuard_at_int ..) λ w=>by rw [binOp_and];exact Jo hk ha hb w
theorem Ev.KS {a b:Nat} (hx:aI L x=some (.int k (a:Int))) (hy:aI L y=some (.int k (b:Int))) (hk:k.signed=false) (ha:a<2^k.bits) (hb:b<2^k.bits):Ev P n L w ⟨d,.binOp .xor xt x y yt,ty,pos,af,g⟩ (.int k ((a^^^b:Nat):Int)):=
 .bin hx hy (eqGuard_at_int ..) λ w=>by rw [binOp_xor];exact Cl hk ha hb w
theorem Ev.Q4 {a b:Nat} (hx:aI L x=some (.int .i64 (a:Int))) (hy:aI L y=some (.int .i64 (b:Int))) (ha:a<2^63) (hb:b<2^63):Ev P n L w ⟨d,.binOp .or xt x y yt,ty,pos,af,g⟩ (.int .i64 ((a|||b:Nat):Int)):=
 .bin hx hy (eqGuard_at_int ..) λ w=>by rw [binOp_or];exact Jp ha hb w
theorem Ev.Nq {k':IntKind} {a b:Nat} (hx:aI L x=some (.int k (a:Int))) (hy:aI L y=some (.int k' (b:Int))) (ha:a<2^k.bits):Ev P n L w ⟨d,.binOp .shr xt x y yt,ty,pos,af,g⟩ (.int k ((a/2^b:Nat):Int)):=
 .bin hx hy (eqGuard_at_int ..) λ w=>by rw [binOp_shr];exact Jq ha w
theorem Ev.PR {k':IntKind} {a b:Nat} (hx:aI L x=some (.int k (a:Int))) (hy:aI L y=some (.int k' (b:Int))) (hk:k.signed=false) (hb:b<=k.bits):Ev P n L w ⟨d,.binOp .shl xt x y yt,ty,pos,af,g⟩ (.int k ((a*2^b%2^k.bits:Nat):Int)):=
 .bin hx hy (eqGuard_at_int ..) λ w=>by rw [binOp_shl,Cm hb,ph hk]
theorem Ev.Nz {k':IntKind} {a b:Nat} (hx:aI L x=some (.int .i64 (a:Int))) (hy:aI L y=some (.int k' (b:Int))) (hb:b<=64) (hr:a*2^b<2^63):Ev P n L w ⟨d,.binOp .shl xt x y yt,ty,pos,af,g⟩ (.int .i64 ((a*2^b:Nat):Int)):=
 .bin hx hy (eqGuard_at_int ..) λ w=>by rw [binOp_shl,Cm (by simpa [IntKind.bits] using hb),tz hr]
theorem Ev.Nk {a b:Nat} (hx:aI L x=some (.int k (a:Int))) (hy:aI L y=some (.int k (b:Int))) (hk:k.signed=false):Ev P n L w ⟨d,.binOp .add xt x y yt,ty,pos,af,g⟩ (.int k (((a+b)%2^k.bits:Nat):Int)):=by
 have:=Ev.addW (P:=P) (n:=n) (w:=w) (d:=d) (xt:=xt) (yt:=yt) (ty:=ty) (pos:=pos) (af:=af) (g:=g) hx hy
 rwa [<-Int.natCast_add,ph hk] at this
theorem Ev.KK {a b:Nat} (hx:aI L x=some (.int k (a:Int))) (hy:aI L y=some (.int k (b:Int))) (hk:k.signed=false) (hba:b<=a) (ha:a<2^k.bits):Ev P n L w ⟨d,.binOp .sub xt x y yt,ty,pos,af,g⟩ (.int k ((a-b:Nat):Int)):=by
 have:=Ev.PV (P:=P) (n:=n) (w:=w) (d:=d) (xt:=xt) (yt:=yt) (ty:=ty) (pos:=pos) (af:=af) (g:=g) hx hy
 rwa [<-Int.natCast_sub hba,tw hk (by omega)] at this
theorem Ev.cB {b:Bool} (hx:aI L x=some (.bool b)):Ev P n L w ⟨d,.unOp .not xt x,ty,pos,af,g⟩ (.bool (!b)):= .of λ ρ hρ=>by
 simp [execOp,hρ hx,Op.unary,go_sem]
theorem vR {s t:TypeId} {k':IntKind} {a:Int} (hs:(P.underlying s).isSome=true) (ht:P.underlying t=some (.int k')) (w:World):(convert s t (.int k a)).run P w= .ok (.int k' (k'.wrap a)) w:=by
 obtain ⟨d,hd'⟩:=Option.isSome_iff_exists.mp hs
 simp [convert,run_underlying hd',run_underlying ht,Conv.intToInt]
theorem Ev.I4 {s t:TypeId} {k':IntKind} {a:Int} (hs:(P.underlying s).isSome=true) (ht:P.underlying t=some (.int k')) (hx:aI L x=some (.int k a)) (ha:k'.wrap a=a):Ev P n L w ⟨d,.convert s t x,ty,pos,af,g⟩ (.int k' a):= .of λ ρ hρ=>by
 simp only [execOp,hρ hx,Sem.run_bind,vR hs ht,ha,Result.andThen_ok,Sem.run_pure]
theorem Ev.qA {s t:TypeId} {k':IntKind} {a:Nat} (hs:(P.underlying s).isSome=true) (ht:P.underlying t=some (.int k')) (hx:aI L x=some (.int k (a:Int))) (hk:k'.signed=false):Ev P n L w ⟨d,.convert s t x,ty,pos,af,g⟩ (.int k' ((a%2^k'.bits:Nat):Int)):= .of λ ρ hρ=>by
 simp only [execOp,hρ hx,Sem.run_bind,vR hs ht,ph hk,Result.andThen_ok,Sem.run_pure]
theorem Ev.vj {a b:Nat} (hx:aI L x=some (.int .i64 (a:Int))) (hy:aI L y=some (.int .i64 (b:Int))) (h:a+b<=9223372036854775807):Ev P n L w ⟨d,.binOp .add xt x y yt,ty,pos,af,g⟩ (.int .i64 ((a+b:Nat):Int)):=by
 have:=Ev.add (P:=P) (n:=n) (w:=w) (d:=d) (xt:=xt) (yt:=yt) (ty:=ty) (pos:=pos) (af:=af) (g:=g) hx hy ⟨by omega,by omega⟩
 rwa [<-Int.natCast_add] at this
theorem Ev.HW {a b:Nat} (hx:aI L x=some (.int .i64 (a:Int))) (hy:aI L y=some (.int .i64 (b:Int))) (hba:b<=a) (h:a<=9223372036854775807):Ev P n L w ⟨d,.binOp .sub xt x y yt,ty,pos,af,g⟩ (.int .i64 ((a-b:Nat):Int)):=by
 have:=Ev.sub (P:=P) (n:=n) (w:=w) (d:=d) (xt:=xt) (yt:=yt) (ty:=ty) (pos:=pos) (af:=af) (g:=g) hx hy ⟨by omega,by omega⟩
 rwa [<-Int.natCast_sub hba] at this
theorem Ev.PM {a b:Nat} (hx:aI L x=some (.int .i64 (a:Int))) (hy:aI L y=some (.int .i64 (b:Int))) (h:a*b<=9223372036854775807):Ev P n L w ⟨d,.binOp .mul xt x y yt,ty,pos,af,g⟩ (.int .i64 ((a*b:Nat):Int)):=by
 have:=Ev.mul (P:=P) (n:=n) (w:=w) (d:=d) (xt:=xt) (yt:=yt) (ty:=ty) (pos:=pos) (af:=af) (g:=g) hx hy (by rw [<-Int.natCast_mul];exact ⟨by omega,by omega⟩)
 rwa [<-Int.natCast_mul] at this
theorem Ev.PT {a b:Nat} (hx:aI L x=some (.int k (a:Int))) (hy:aI L y=some (.int k (b:Int))):Ev P n L w ⟨d,.binOp .lss xt x y yt,ty,pos,af,g⟩ (.bool (decide (a<b))):=by
 have:=Ev.lss (P:=P) (n:=n) (w:=w) (d:=d) (xt:=xt) (yt:=yt) (ty:=ty) (pos:=pos) (af:=af) (g:=g) hx hy
 simpa only [Int.ofNat_lt] using this
theorem Ev.PG {a b:Nat} (hx:aI L x=some (.int k (a:Int))) (hy:aI L y=some (.int k (b:Int))):Ev P n L w ⟨d,.binOp .leq xt x y yt,ty,pos,af,g⟩ (.bool (decide (a<=b))):=by
 have:=Ev.leq (P:=P) (n:=n) (w:=w) (d:=d) (xt:=xt) (yt:=yt) (ty:=ty) (pos:=pos) (af:=af) (g:=g) hx hy
 simpa only [Int.ofNat_le] using this
theorem Ev.PF {a b:Nat} (hx:aI L x=some (.int k (a:Int))) (hy:aI L y=some (.int k (b:Int))):Ev P n L w ⟨d,.binOp .gtr xt x y yt,ty,pos,af,g⟩ (.bool (decide (b<a))):=by
 have:=Ev.gtr (P:=P) (n:=n) (w:=w) (d:=d) (xt:=xt) (yt:=yt) (ty:=ty) (pos:=pos) (af:=af) (g:=g) hx hy
 simpa only [Int.ofNat_lt] using this
theorem Ev.OR {a b:Nat} (hx:aI L x=some (.int k (a:Int))) (hy:aI L y=some (.int k (b:Int))):Ev P n L w ⟨d,.binOp .geq xt x y yt,ty,pos,af,g⟩ (.bool (decide (b<=a))):=by
 have:=Ev.geq (P:=P) (n:=n) (w:=w) (d:=d) (xt:=xt) (yt:=yt) (ty:=ty) (pos:=pos) (af:=af) (g:=g) hx hy
 simpa only [Int.ofNat_le] using this
theorem Ev.PA {a b:Nat} (hx:aI L x=some (.int k (a:Int))) (hy:aI L y=some (.int k (b:Int))):Ev P n L w ⟨d,.binOp .eql xt x y yt,ty,pos,af,g⟩ (.bool (decide (a=b))):=by
 have:=Ev.eql (P:=P) (n:=n) (w:=w) (d:=d) (xt:=xt) (yt:=yt) (ty:=ty) (pos:=pos) (af:=af) (g:=g) hx hy
 simpa only [Int.ofNat_inj] using this
theorem Ev.PU {a b:Nat} (hx:aI L x=some (.int k (a:Int))) (hy:aI L y=some (.int k (b:Int))):Ev P n L w ⟨d,.binOp .neq xt x y yt,ty,pos,af,g⟩ (.bool (decide (a≠b))):=by
 have:=Ev.neq (P:=P) (n:=n) (w:=w) (d:=d) (xt:=xt) (yt:=yt) (ty:=ty) (pos:=pos) (af:=af) (g:=g) hx hy
 simpa only [ne_eq,Int.ofNat_inj] using this
theorem Ev.jz {p:Prop} {dp:Decidable p} (hx:aI L x=some (.bool (@decide p dp))):Ev P n L w ⟨d,.unOp .not xt x,ty,pos,af,g⟩ (.bool (decide (¬ p))):=by
 have:=Ev.cB (P:=P) (n:=n) (w:=w) (d:=d) (xt:=xt) (ty:=ty) (pos:=pos) (af:=af) (g:=g) hx
 simpa only [decide_not] using this
end
def Rd (w:World) (v:Value) (n:Nat) (cells:List Value):Prop:=
 ∃ a cap,v= .slice a n cap/\n<=cap/\∀ j u,cells[j]? =some u->∃ b o,a=some ⟨b,o,none⟩/\w.cell? ⟨b,o+j,none⟩=some u
def Ext (w w':World):Prop:=∀ a u,w.cell? a=some u->w'.cell? a=some u
theorem Ext.ko {w w':World} (h:Below w.heap.size w w'):Ext w w':=λ a _ hu=>(h.cell (World.block_lt_of_cell? w a hu)).trans hu
theorem Rd.ext {w w':World} {v:Value} {n:Nat} {cells:List Value} (h:Rd w v n cells) (he:Ext w w'):Rd w' v n cells:=by
 obtain ⟨a,cap,hv,hn,hc⟩:=h
 exact ⟨a,cap,hv,hn,λ j u hu=>let ⟨b,o,ha,hw⟩:=hc j u hu;⟨b,o,ha,he _ _ hw⟩⟩
theorem Rd.nil (w:World):Rd w (.slice none 0 0) 0 []:=⟨none,0,rfl,Nat.le_refl _,λ j u h=>by simp at h⟩
def bE:Value->Nat->Value
 | .slice (some a) _ _,c=> .pointer (some (a.add c))
 |_,_=>undef
def gu (size:Nat):Value->Nat->Nat->Value
 | .slice a _ cap,l,h=> .slice (if cap=l then a else a.map (·.add (l*size))) (h-l) (cap-l)
 |_,_,_=>undef
theorem Rd.sub {w:World} {v:Value} {n:Nat} {cells:List Value} (hr:Rd w v n cells) {size l h:Nat} (hl:l<=h) (hh:h<=n):
  Rd w (gu size v l h) (h-l) ((cells.take (h*size)).drop (l*size)):=by
 obtain ⟨a,cap,rfl,hn,hc⟩:=hr
 refine ⟨_,_,rfl,by omega,λ j u hu=> ?_⟩
 have hj:j<((cells.take (h*size)).drop (l*size)).length:=by
  rcases Nat.lt_or_ge j _ with hlt|hge
  ·exact hlt
  ·rw [getElem?_eq_none hge] at hu;cases hu
 have hlt:l<h:=by
  rcases Nat.lt_or_ge l h with h1|h1
  ·exact h1
  ·have:l=h:=by omega
   subst this
   simp at hj
 rw [getElem?_drop,getElem?_take] at hu
 split at hu
 ·obtain ⟨b,o,ha,hw⟩:=hc _ u hu
  subst ha
  rw [if_neg (by omega)]
  simp only [Option.map_some,Addr.add_lit]
  exact ⟨b,_,rfl,by rw [Nat.add_assoc];exact hw⟩
 ·cases hu
structure Chunk where
 foot:List Nat
 holds:World->Prop
 stable:∀ w w',(∀ k∈foot,w'.heap[k]? =w.heap[k]?)->holds w->holds w'
structure Sat (w0:World) (cs:List Chunk) (w:World):Prop where
 old:Below w0.heap.size w0 w
 holds:∀ c∈cs,c.holds w/\∀ k∈c.foot,w0.heap.size<=k/\k<w.heap.size
 apart:cs.Pairwise λ c d=>∀ k∈c.foot,k∉d.foot
structure Chg (S:List Nat) (w w':World):Prop where
 os:w'.os=w.os
 tape:w'.tape=w.tape
 output:w'.output=w.output
 size:w.heap.size<=w'.heap.size
 block:∀ k,k<w.heap.size->k∉S->w'.heap[k]? =w.heap[k]?
theorem Chg.ko {w w':World} (h:Below w.heap.size w w'):Chg [] w w':=⟨h.os,h.tape,h.output,h.size,λ k hk _=>h.block k hk⟩
theorem Chg.alloc (w:World) (o:Obj):Chg [] w (w.alloc o):= .ko ((Below.refl _ _).alloc (Nat.le_refl _) o)
theorem Chg.setCell (w:World) (a:Addr) (v:Value):Chg [a.block] w (w.setCell a v):=
 ⟨rfl,rfl,rfl,by simp,λ k hk hn=>Below.heap_setCell w a v k (by simpa using hn)⟩
theorem Sat.start (w:World):Sat w [] w:=⟨Below.refl _ _,by simp,by simp⟩
theorem Sat.ext {w0 w:World} {cs:List Chunk} (h:Sat w0 cs w):Ext w0 w:= .ko h.old
theorem Sat.drew {w0 w:World} {cs:List Chunk} (h:Sat w0 cs w):Sat w0 cs w.drew:=
 ⟨h.old.drew,λ c hc=>⟨c.stable w _ (λ _ _=>rfl) (h.holds c hc).1,(h.holds c hc).2⟩,h.apart⟩
theorem Sat.sub {w0 w:World} {cs ds:List Chunk} (h:Sat w0 cs w) (hp:ds.Sublist cs):Sat w0 ds w:=
 ⟨h.old,λ c hc=>h.holds c (hp.subset hc),h.apart.sublist hp⟩
def eF:List Nat->Nat->List Chunk->Option (List Chunk)
 |[],_,_=>some []
 |_::_,_,[]=>none
 |i::r,k,c::cs=>cond (Nat.beq i k) (match eF r (k+1) cs with
  |some l=>some (c::l)
  |none=>none) (eF (i::r) (k+1) cs)
theorem kH:∀ (cs:List Chunk) (is:List Nat) (k:Nat) (l:List Chunk),eF is k cs=some l->l.Sublist cs
 |cs,[],k,l,h=>by simp only [eF,Option.some.injEq] at h;subst h;exact nil_sublist _
 |[],i::r,k,l,h=>by simp [eF] at h
 |c::cs,i::r,k,l,h=>by
  simp only [eF] at h
  cases hb:Nat.beq i k with
  |true=>
   rw [hb] at h
   simp only [cond_true] at h
   split at h
   ·rename_i l' hl;cases h;exact (kH cs r (k+1) l' hl).cons_cons c
   ·cases h
  |false=>rw [hb] at h;exact (kH cs (i::r) (k+1) l h).cons c
theorem Sat.pick {w0 w:World} {cs cs':List Chunk} (h:Sat w0 cs w) (is:List Nat) (hp:eF is 0 cs=some cs'):Sat w0 cs' w:=h.sub (kH _ _ _ _ hp)
def tA:List Chunk->Option (List Chunk)
 |[]=>some []
 |c::cs=>match tA cs with
  |some l=>some (c::l)
  |none=>none
theorem gw:∀ (cs l:List Chunk),tA cs=some l->l=cs
 |[],l,h=>by simp only [tA,Option.some.injEq] at h;exact h.symm
 |c::cs,l,h=>by
  simp only [tA] at h
  split at h
  ·rename_i l' hl;cases h;rw [gw cs l' hl]
  ·cases h
theorem Sat.nf {w0 w:World} {cs cs':List Chunk} (h:Sat w0 cs w) (hp:tA cs=some cs'):Sat w0 cs' w:=by rw [gw _ _ hp];exact h
theorem CW.jj {P:Program} {n:Nat} {N R:ay->World->Prop} {X G:List (Nat×(ay->World->Prop))} {L:ay} {w w0 w1:World} {cs c1 c2:List Chunk} {id:Nat} {l:List Oper} (is ks:List Nat) (_hs:Sat w0 cs w1) (_h1:eF is 0 cs=some c1) (h2:eF ks 0 c1=some c2) (b:Nat) (p:Plan) (hm:P.follows .mixedOrders=true) (hok:p.Ae l b=true)
  (h:RP P n l [λ w'=>Sat w0 c1 w',λ w'=>Sat w0 c2 w'] p N L w.drew):CW P n (.region id l.toArray true) ⟨N,R,X,G⟩ L w:=CW.lr (λ w'=>Sat w0 c1 w') (λ w'=>Sat w0 c2 w') b p (λ w' h=>h.pick ks h2) hm hok h
theorem Sat.get {w0 w:World} {cs:List Chunk} (h:Sat w0 cs w) {i:Nat} {c:Chunk} (hi:cs[i]? =some c):c.holds w:=(h.holds c (mem_of_getElem? hi)).1
theorem Sat.lo {w0 w:World} {cs:List Chunk} (h:Sat w0 cs w) {i:Nat} {c:Chunk} (hi:cs[i]? =some c) {k:Nat} (hk:k∈c.foot):w0.heap.size<=k/\k<w.heap.size:=(h.holds c (mem_of_getElem? hi)).2 k hk
theorem Sat.xT {w0 w:World} {cs:List Chunk} (h:Sat w0 cs w) {i j:Nat} {c d:Chunk} (hi:cs[i]? =some c) (hj:cs[j]? =some d) (hne:i≠j) {k:Nat} (hk:k∈c.foot):k∉d.foot:=by
 have hp:=pairwise_iff_getElem.1 h.apart
 obtain ⟨hil,rfl⟩:=List.getElem?_eq_some_iff.1 hi
 obtain ⟨hjl,rfl⟩:=List.getElem?_eq_some_iff.1 hj
 rcases Nat.lt_or_gt_of_ne hne with hlt|hgt
 ·exact hp i j hil hjl hlt k hk
 ·exact λ hk2=>hp j i hjl hil hgt k hk2 hk
theorem Sat.set {w0 w w':World} {cs:List Chunk} (h:Sat w0 cs w) (i:Nat) {c c':Chunk} (hi:cs[i]? =some c) (hw:Chg c.foot w w') (hc:c'.holds w')
  (hf:∀ k∈c'.foot,k∈c.foot\/(w.heap.size<=k/\k<w'.heap.size)):Sat w0 (cs.set i c') w':=by
 obtain ⟨hil,hci⟩:=List.getElem?_eq_some_iff.1 hi
 have hlo:∀ k∈c.foot,w0.heap.size<=k/\k<w.heap.size:=λ k hk=>h.lo hi hk
 refine ⟨?_,?_,?_⟩
 ·refine h.old.trans ⟨hw.os,hw.tape,hw.output,hw.size,λ k hk=>hw.block k (Nat.lt_of_lt_of_le hk h.old.size) λ hm=> ?_⟩
  have:=(hlo _ hm).1;omega
 ·intro e he
  rw [mem_iff_getElem?] at he
  obtain ⟨j,hj⟩:=he
  rw [getElem?_set] at hj
  by_cases hij:i=j
  ·subst hij
   simp [hil] at hj
   subst hj
   refine ⟨hc,λ k hk=> ?_⟩
   have:=hw.size
   have:=h.old.size
   rcases hf k hk with h1|h1
   ·have:=hlo _ h1;omega
   ·omega
  ·rw [if_neg hij] at hj
   have hm:=mem_of_getElem? hj
   obtain ⟨h1,h2⟩:=h.holds e hm
   refine ⟨e.stable w w' (λ k hk=>hw.block k (h2 k hk).2 (h.xT hj hi (Ne.symm hij) hk)) h1,λ k hk=> ?_⟩
   have:=h2 k hk;have:=hw.size;omega
 ·rw [pairwise_iff_getElem]
  intro a b ha hb hab k hk hk2
  simp only [length_set] at ha hb
  rw [getElem_set] at hk hk2
  have hnew:∀ j (hj:j<cs.length),j≠i->∀ k,k∈c'.foot->k∉cs[j].foot:=λ j hj hne k hk hk2=>by
   rcases hf k hk with h1|h1
   ·exact h.xT hi (getElem?_eq_getElem hj) (Ne.symm hne) h1 hk2
   ·have:=h.lo (getElem?_eq_getElem hj) hk2;omega
  split at hk<;>split at hk2
  ·omega
  ·exact hnew b hb (by omega) k hk hk2
  ·exact hnew a ha (by omega) k hk2 hk
  ·exact h.xT (getElem?_eq_getElem ha) (getElem?_eq_getElem hb) (by omega) hk hk2
theorem Sat.aD {w0 w w':World} {cs ds:List Chunk} (h:Sat w0 cs w) (k:Sat w ds w'):Sat w0 (cs++ds) w':=by
 refine ⟨h.old.trans (k.old.mono h.old.size),?_,?_⟩
 ·intro c hc
  rcases mem_append.1 hc with hc|hc
  ·obtain ⟨h1,h2⟩:=h.holds c hc
   refine ⟨c.stable w w' (λ j hj=>k.old.block j (h2 j hj).2) h1,λ j hj=> ?_⟩
   have:=h2 j hj;have:=k.old.size;omega
  ·obtain ⟨h1,h2⟩:=k.holds c hc
   refine ⟨h1,λ j hj=> ?_⟩
   have:=h2 j hj;have:=h.old.size;omega
 ·rw [pairwise_append]
  refine ⟨h.apart,k.apart,λ c hc d hd j hj hj2=> ?_⟩
  have:=(h.holds c hc).2 j hj
  have:=(k.holds d hd).2 j hj2
  omega
theorem Sat.add {w0 w w':World} {cs:List Chunk} {c:Chunk} (h:Sat w0 cs w) (hw:Chg [] w w') (hc:c.holds w') (hf:∀ k∈c.foot,w.heap.size<=k/\k<w'.heap.size):Sat w0 (cs++[c]) w':=
 h.aD ⟨⟨hw.os,hw.tape,hw.output,hw.size,λ k hk=>hw.block k hk (by simp)⟩,by simpa using ⟨hc,hf⟩,by simp⟩
theorem Sat.perm {w0 w:World} {cs ds:List Chunk} (h:Sat w0 cs w) (hp:cs.Perm ds):Sat w0 ds w:=
 ⟨h.old,λ c hc=>h.holds c (hp.mem_iff.2 hc),hp.pairwise h.apart (λ {_ _} h k hk h2=>h k h2 hk)⟩
theorem Sat.dm {w0 w:World} {A cs ds:List Chunk} (h:Sat w0 ((A++cs)++ds) w):Sat w0 ((A++ds)++cs) w:=
 h.perm (by rw [append_assoc,append_assoc];exact (perm_append_comm).append_left A)
def rC:Chunk:=⟨[],λ _=>True,λ _ _ _ h=>h⟩
theorem tB {α:Type} (l:List α) (d:α):(List.range l.length).map (λ i=>l.getD i d)=l:=by
 apply ext_getElem
 ·simp
 ·intro i h1 h2;simp at h1;simp [h1]
theorem Sat.order {w0 w:World} {A cs:List Chunk} (idx:List Nat) (hp:idx.isPerm (List.range idx.length)=true) (h:Sat w0 (A++cs) w) (hl:A.length=idx.length:=by rfl):Sat w0 (idx.map (λ i=>A.getD i rC)++cs) w:=by
 rw [<-hl] at hp
 refine h.perm (List.Perm.append_right cs ?_)
 have:=(isPerm_iff.1 hp).map (λ i=>A.getD i rC)
 rw [tB] at this
 exact this.symm
theorem Sat.tail {w0 w:World} {A:List Chunk} (h:Sat w0 A w):Sat w0 (A++[]) w:=by rw [append_nil];exact h
theorem Sat.aF {w0 w:World} {A:List Chunk} (h:Sat w0 (A++[]) w):Sat w0 A w:=by rw [append_nil] at h;exact h
theorem Sat.cut {w0 w:World} {A cs:List Chunk} (k:Nat) (h:Sat w0 (A++cs) w):Sat w0 (A.take k++(A.drop k++cs)) w:=by rw [<-append_assoc,take_append_drop];exact h
theorem Sat.join {w0 w:World} {A B cs:List Chunk} (h:Sat w0 (A++(B++cs)) w):Sat w0 ((A++B)++cs) w:=by rw [append_assoc];exact h
def aj (g:Nat) (T:TypeId) (cells:List Value):Chunk where
 foot:=[g]
 holds w:=w.heap[g]? =some (.cells cells.toArray T (0,0))
 stable w w' h hc:=by rw [h g (by simp)];exact hc
theorem cell_of_heap {w:World} {g:Nat} {T:TypeId} {cells:Array Value} {fr:Nat×Nat} (h:w.heap[g]? =some (.cells cells T fr)) (j:Nat):w.cell? ⟨g,j,none⟩=cells[j]? :=by
 simp [World.cell?,h]
theorem frozen_of_heap {w:World} {g:Nat} {T:TypeId} {cells:Array Value} (h:w.heap[g]? =some (.cells cells T (0,0))) (j:Nat):w.frozen? ⟨g,j,none⟩=false:=by
 simp [World.frozen?,h]
theorem Sat.cell {w0 w:World} {cs:List Chunk} (h:Sat w0 cs w) {i g T j:Nat} {cells:List Value} {u:Value} (hi:cs[i]? =some (aj g T cells)) (hu:cells[j]? =some u):w.cell? ⟨g,j,none⟩=some u:=by
 have:=h.get hi
 rw [cell_of_heap this];simpa using hu
theorem heap_setCell {w:World} {g j:Nat} {T:TypeId} {cells:Array Value} {fr:Nat×Nat} {u:Value} (h:w.heap[g]? =some (.cells cells T fr)):(w.setCell ⟨g,j,none⟩ u).heap[g]? =some (.cells (cells.setIfInBounds j u) T fr):=by
 simp [World.setCell,Array.getElem?_modify,h]
def bD:Value->List Nat
 | .slice (some a) _ _=>[a.block]
 |_=>[]
def qh (v:Value) (E size n:Nat) (cells:List Value):Chunk where
 foot:=bD v
 holds w:=w.ownsRow 0 E size v n cells
 stable w w' h hc:=by
  refine ⟨hc.1,?_⟩
  rcases hc.2 with h2|⟨g,cap,cur,rfl,hg,hh,r⟩
  ·exact .inl h2
  ·exact .inr ⟨g,cap,cur,rfl,hg,by rw [h g (by simp [bD])];exact hh,r⟩
theorem Rd.uC {w:World} {base E size n:Nat} {v:Value} {cells:List Value} (h:w.ownsRow base E size v n cells):Rd w v n cells:=by
 obtain ⟨hl,⟨rfl,rfl⟩|⟨g,cap,cur,rfl,_,hh,hnc,_,hcs,ht⟩⟩:=h
 ·have:cells=[]:=eq_nil_of_length_eq_zero (by simpa using hl)
  subst this
  exact Rd.nil w
 ·refine ⟨_,_,rfl,hnc,λ j u hu=>⟨g,0,rfl,?_⟩⟩
  rw [Nat.zero_add,cell_of_heap hh]
  rw [<-ht,getElem?_take] at hu
  split at hu
  ·simpa using hu
  ·cases hu
theorem Sat.rd {w0 w:World} {cs:List Chunk} (h:Sat w0 cs w) {i E size n:Nat} {v:Value} {cells:List Value} (hi:cs[i]? =some (qh v E size n cells)):Rd w v n cells:= .uC (h.get hi)
theorem Sat.Ny {w0 w:World} {cs:List Chunk} (h:Sat w0 cs w) (E size:Nat):Sat w0 (cs++[qh (.slice none 0 0) E size 0 []]) w:=
 h.add ⟨rfl,rfl,rfl,Nat.le_refl _,λ _ _ _=>rfl⟩ (World.ownsRow_nil ..) (by simp [qh,bD])
theorem Sat.newObj {w0 w:World} {cs:List Chunk} (h:Sat w0 cs w) (T:TypeId) (cells:List Value):Sat w0 (cs++[aj w.heap.size T cells]) (w.alloc (.cells cells.toArray T)):=
 h.add (.alloc _ _) (heap_alloc_new w _) (by simp [aj])
theorem Sat.wK {w0 w:World} {cs:List Chunk} (h:Sat w0 cs w) (E size n cap:Nat) (cur:List Value) (hc:cap<=maxLen) (hn:n<=cap) (hl:cur.length=cap*size):
  Sat w0 (cs++[qh (.slice (some ⟨w.heap.size,0,none⟩) n cap) E size n (cur.take (n*size))]) (w.alloc (.cells cur.toArray E)):=
 h.add (.alloc _ _) ⟨by rw [length_take,hl,Nat.min_eq_left (Nat.mul_le_mul_right _ hn)],.inr ⟨_,cap,_,rfl,Nat.zero_le _,heap_alloc_new w _,hn,hc,by simpa using hl,by simp⟩⟩ (by simp [qh,bD])
theorem Sat.setObj {w0 w:World} {cs:List Chunk} (h:Sat w0 cs w) {i g T j:Nat} {cells:List Value} {u:Value} (hi:cs[i]? =some (aj g T cells)):Sat w0 (cs.set i (aj g T (cells.set j u))) (w.setCell ⟨g,j,none⟩ u):=
 h.set i hi (Chg.setCell w ⟨g,j,none⟩ u) (by have:=heap_setCell (j:=j) (u:=u) (h.get hi);simpa [aj] using this) (λ _ hk=> .inl hk)
theorem Sat.OZ {w0 w:World} {cs:List Chunk} (h:Sat w0 cs w) {i g E size n cap j:Nat} {cells:List Value} {u:Value} (hi:cs[i]? =some (qh (.slice (some ⟨g,0,none⟩) n cap) E size n cells)):
  Sat w0 (cs.set i (qh (.slice (some ⟨g,0,none⟩) n cap) E size n (cells.set j u))) (w.setCell ⟨g,j,none⟩ u):=
 h.set i hi (Chg.setCell w ⟨g,j,none⟩ u) ((h.get hi).stored j u).1 (λ _ hk=> .inl hk)
structure SlTy (P:Program) (t e s:Nat) (z:Value) (b:Nat):Prop where
 und:P.underlying t=some (.slice e)
 info:∃ i,P.info? e=some i/\i.zero=some z/\i.size=s/\i.bytes=b
 zs:z.cells.size=s
 pos:0<s
theorem SlTy.of {P:Program} {t e s:Nat} {z:Value} {b:Nat} (h:P.underlying t=some (.slice e)) (hi:(P.info? e).map (λ i=>(i.zero,i.size,i.bytes))=some (some z,s,b)) (hz:z.cells.size=s) (hp:0<s):SlTy P t e s z b:=
 ⟨h,by obtain ⟨i,h1,h2,h3,h4⟩:=info_parts hi;exact ⟨i,h1,h2,h3,h4⟩,hz,hp⟩
def dA (P:Program) (T:TypeId):Bool:=
 match P.underlying T with
 |some (.struct _)|some (.array ..)|none=>false
 |_=>true
def dx (P:Program) (T:TypeId) (s:Nat):Bool:=
 (match P.underlying T with
 |some (.struct _)|some (.array ..)=>true
 |_=>false)&&(P.info? T).map (·.size)==some s
def jJ (P:Program) (T:TypeId) (f off:Nat):Bool:=
 match P.underlying T with
 |some (.struct fs)=>match fs[f]? with
  |some fd=>fd.offset==off&&(match (P.info? fd.type).map (·.size) with|some s=>s !=0|none=>false)
  |none=>false
 |_=>false
theorem Rd.a7 {w:World} {v:Value} {n:Nat} {cells:List Value} (h:Rd w v n cells):v.oneCell'=true:=by
 obtain ⟨a,cap,rfl,_⟩:=h;rfl
section
variable {P:Program} {n:Nat} {L:ay} {w:World} {d:Option Nat} {ty:TypeId} {pos:String} {af:Array Edge} {g:Option (Nat×Bool)}
theorem Ev.OP {x:Operand} {t:TypeId} {v:Value} {m:Nat} {cells:List Value} {e:TypeId} (hu:P.underlying t=some (.slice e)) (hx:aI L x=some v) (h:Rd w v m cells):
  Ev P n L w ⟨d,.call ⟨.builtin .len,#[x],#[t]⟩,ty,pos,af,g⟩ (.int .i64 (m:Int)):= .of λ ρ hρ=>by
 obtain ⟨a,cap,rfl,_⟩:=h
 simp [execOp,hρ hx,resolve,invoke,Builtin.len_,run_underlying hu,go_sem,goInt]
theorem Ev.bP {x:Operand} {t:TypeId} {s:ByteArray} (hu:P.underlying t=some .string) (hx:aI L x=some (.string s)):
  Ev P n L w ⟨d,.call ⟨.builtin .len,#[x],#[t]⟩,ty,pos,af,g⟩ (.int .i64 (s.size:Int)):= .of λ ρ hρ=>by
 simp [execOp,hρ hx,resolve,invoke,Builtin.len_,run_underlying hu,go_sem,goInt]
theorem Ev.Nw {x y:Operand} {a b:Int} {k:IntKind} {ts:Array TypeId} (hx:aI L x=some (.int k a)) (hy:aI L y=some (.int k b)):
  Ev P n L w ⟨d,.call ⟨.builtin .min,#[x,y],ts⟩,ty,pos,af,g⟩ (.int k (min a b)):= .of λ ρ hρ=>by
 simp only [execOp,hρ hx,hρ hy,resolve,invoke,go_sem]
 simp [Builtin.min_,Builtin.min2,hρ hx,hρ hy,go_sem]
 omega
theorem Ev.NC {x y:Operand} {a b:Int} {k:IntKind} {ts:Array TypeId} (hx:aI L x=some (.int k a)) (hy:aI L y=some (.int k b)):
  Ev P n L w ⟨d,.call ⟨.builtin .max,#[x,y],ts⟩,ty,pos,af,g⟩ (.int k (max a b)):= .of λ ρ hρ=>by
 simp [execOp,hρ hx,hρ hy,resolve,invoke,Builtin.max_,Builtin.max2,go_sem]
 omega
theorem Ev.Nn {x y:Operand} {a b:Nat} {k:IntKind} {ts:Array TypeId} (hx:aI L x=some (.int k (a:Int))) (hy:aI L y=some (.int k (b:Int))):
  Ev P n L w ⟨d,.call ⟨.builtin .min,#[x,y],ts⟩,ty,pos,af,g⟩ (.int k ((min a b:Nat):Int)):=by
 have:=Ev.Nw (P:=P) (n:=n) (w:=w) (d:=d) (ts:=ts) (ty:=ty) (pos:=pos) (af:=af) (g:=g) hx hy
 rwa [show min (a:Int) (b:Int)=((min a b:Nat):Int) by omega] at this
theorem Ev.OK {x y:Operand} {a b:Nat} {k:IntKind} {ts:Array TypeId} (hx:aI L x=some (.int k (a:Int))) (hy:aI L y=some (.int k (b:Int))):
  Ev P n L w ⟨d,.call ⟨.builtin .max,#[x,y],ts⟩,ty,pos,af,g⟩ (.int k ((max a b:Nat):Int)):=by
 have:=Ev.NC (P:=P) (n:=n) (w:=w) (d:=d) (ts:=ts) (ty:=ty) (pos:=pos) (af:=af) (g:=g) hx hy
 rwa [show max (a:Int) (b:Int)=((max a b:Nat):Int) by omega] at this
theorem Ev.indexAddr {x i:Operand} {t e s b:Nat} {z v:Value} {m j:Nat} {cells:List Value} {k:IntKind} (hty:SlTy P t e s z b) (hx:aI L x=some v) (hi:aI L i=some (.int k (j:Int))) (h:Rd w v m cells)
  (hlen:cells.length=m*s) (hj:j<m):Ev P n L w ⟨d,.indexAddr t x i,ty,pos,af,g⟩ (bE v (j*s)):= .of λ ρ hρ=>by
 obtain ⟨a,cap,rfl,_,hc⟩:=h
 obtain ⟨inf,h1,h2,h3,h4⟩:=hty.info
 have hpos:j*s<cells.length:=by rw [hlen];exact Nat.mul_lt_mul_of_pos_right hj hty.pos
 obtain ⟨bb,o,rfl,_⟩:=hc (j*s) _ (getElem?_eq_getElem hpos)
 have hk:(0:Int)<=(j:Int)/\(j:Int)<(m:Int):=by omega
 simp only [execOp,hρ hx,hρ hi,Instr.indexAt,asIntOf]
 simp [run_underlying hty.und,sizeOf,typeInfo,h1,h3,hk,bE,go_sem,hj]
theorem Ev.Ih {x:Operand} {T:TypeId} {v u:Value} {m c:Nat} {cells:List Value} (hT:dA P T=true) (hx:aI L x=some (bE v c)) (h:Rd w v m cells) (hu:cells[c]? =some u):
  Ev P n L w ⟨d,.load T x,ty,pos,af,g⟩ u:= .of λ ρ hρ=>by
 obtain ⟨a,cap,rfl,_,hc⟩:=h
 obtain ⟨bb,o,rfl,hw⟩:=hc c u hu
 have hx':ρ x= .pointer (some ⟨bb,o+c,none⟩):=by rw [hρ hx];simp [bE,Addr.add_lit]
 unfold dA at hT
 cases hun:P.underlying T with
 |none=>simp [hun] at hT
 |some D=>cases D<;>simp [hun] at hT<;>simp [execOp,hx',Instr.loadAt,loadVar,isAgg,run_underlying hun,hw,go_sem]
theorem Ev.load {x:Operand} {T:TypeId} {a:Addr} {u:Value} (hT:dA P T=true) (hx:aI L x=some (.pointer (some a))) (hu:w.cell? a=some u):
  Ev P n L w ⟨d,.load T x,ty,pos,af,g⟩ u:= .of λ ρ hρ=>by
 unfold dA at hT
 cases hun:P.underlying T with
 |none=>simp [hun] at hT
 |some D=>cases D<;>simp [hun] at hT<;>simp [execOp,hρ hx,Instr.loadAt,loadVar,isAgg,run_underlying hun,hu,go_sem]
theorem Ev.fieldAddr {x:Operand} {T:TypeId} {f off o o' b:Nat} (hf:jJ P T f off=true) (hx:aI L x=some (.pointer (some ⟨b,o,none⟩))) (ho:o+off=o'):
  Ev P n L w ⟨d,.fieldAddr T x f,ty,pos,af,g⟩ (.pointer (some ⟨b,o',none⟩)):= .of λ ρ hρ=>by
 subst ho
 unfold jJ at hf
 cases hun:P.underlying T with
 |none=>simp [hun] at hf
 |some D=>
  cases D<;>simp [hun] at hf
  rename_i fs
  cases hfd:fs[f]? with
  |none=>simp [hfd] at hf
  |some fd=>
   simp only [hfd] at hf
   cases hin:P.info? fd.type with
   |none=>simp [hin] at hf
   |some i=>
    simp [hin] at hf
    simp [execOp,hρ hx,Instr.fieldAt,run_underlying hun,hfd,fieldPlace,sizeOf,typeInfo,hin,hf,go_sem]
theorem Eb {v:Value} {c off:Nat} {w:World} {m:Nat} {cells:List Value} (h:Rd w v m cells) (hc:c<cells.length):∃ b o,bE v c= .pointer (some ⟨b,o,none⟩)/\bE v (c+off)= .pointer (some ⟨b,o+off,none⟩):=by
 obtain ⟨a,cap,rfl,_,h⟩:=h
 obtain ⟨b,o,rfl,_⟩:=h c _ (getElem?_eq_getElem hc)
 exact ⟨b,o+c,by simp [bE,Addr.add_lit],by simp [bE,Addr.add_lit,Nat.add_assoc]⟩
theorem Ev.KQ {x:Operand} {T:TypeId} {f off c c' m:Nat} {v:Value} {cells:List Value} (hf:jJ P T f off=true) (hx:aI L x=some (bE v c)) (h:Rd w v m cells) (hc:c<cells.length) (ho:c+off=c'):
  Ev P n L w ⟨d,.fieldAddr T x f,ty,pos,af,g⟩ (bE v c'):=by
 subst ho
 obtain ⟨b,o,h1,h2⟩:=Eb (off:=off) h hc
 rw [h2]
 rw [h1] at hx
 exact Ev.fieldAddr hf hx rfl
def BoundIs (L:ay) (dflt:Nat):Option Operand->Nat->Prop
 |none,l=>l=dflt
 |some o,l=>∃ k,aI L o=some (.int k (l:Int))
theorem fG {isSl:Bool} {len cap l h:Nat} {low high:Option Value} (hl:match low with|none=>l=0|some v=>∃ k,v= .int k (l:Int)) (hh:match high with|none=>h=len|some v=>∃ k,v= .int k (h:Int))
  (h1:l<=h) (h2:h<=cap) (w:World):(Instr.sliceBounds isSl len cap low high none).run P w= .ok (l,h,cap) w:=by
 have h1':(0:Int)<=(l:Int)/\(l:Int)<=(h:Int):=by omega
 have h2':(0:Int)<=(h:Int)/\(h:Int)<=(cap:Int):=by omega
 cases low with
 |none=>
  cases high with
  |none=>simp at hl hh;subst hl;subst hh;simp [Instr.sliceBounds,go_sem]
  |some v=>simp at hl;obtain ⟨k,rfl⟩:=hh;subst hl;simp [Instr.sliceBounds,Instr.sliceBound,asIntOf,h2,go_sem]
 |some u=>
  obtain ⟨k,rfl⟩:=hl
  cases high with
  |none=>simp at hh;subst hh;simp [Instr.sliceBounds,Instr.sliceBound,asIntOf,h1,go_sem]
  |some v=>obtain ⟨k',rfl⟩:=hh;simp [Instr.sliceBounds,Instr.sliceBound,asIntOf,h1,h2,go_sem]
theorem BoundIs.of {L:ay} {ρ:Operand->Value} (hρ:∀ {x u},aI L x=some u->ρ x=u) {dflt l:Nat} {lo:Option Operand} (h:BoundIs L dflt lo l):match lo.map ρ with|none=>l=dflt|some v=>∃ k,v= .int k (l:Int):=by
 cases lo with
 |none=>exact h
 |some o=>obtain ⟨k,hk⟩:=h;exact ⟨k,hρ hk⟩
theorem Ev.slice {x:Operand} {lo hi:Option Operand} {t e s b:Nat} {z v:Value} {m l h:Nat} {cells:List Value} (hty:SlTy P t e s z b) (hx:aI L x=some v) (hr:Rd w v m cells)
  (hl:BoundIs L 0 lo l) (hh:BoundIs L m hi h) (h1:l<=h) (h2:h<=m):Ev P n L w ⟨d,.slice t x lo hi none,ty,pos,af,g⟩ (gu s v l h):= .of λ ρ hρ=>by
 obtain ⟨a,cap,rfl,hmc,hc⟩:=hr
 obtain ⟨inf,i1,i2,i3,i4⟩:=hty.info
 have hsb:=λ w=>fG (P:=P) (isSl:=true) (len:=m) (cap:=cap) (hl.of hρ) (hh.of hρ) h1 (by omega) w
 simp only [execOp,hρ hx,Instr.sliceAt,Instr.slice,Sem.run_bind,run_underlying hty.und,Result.andThen_ok,Option.map_none,hsb]
 simp [sizeOf,typeInfo,i1,i3,gu,go_sem]
theorem Ev.gI {x:Operand} {lo hi:Option Operand} {t l h:Nat} {s:ByteArray} (hu:P.underlying t=some .string) (hx:aI L x=some (.string s))
  (hl:BoundIs L 0 lo l) (hh:BoundIs L s.size hi h) (h1:l<=h) (h2:h<=s.size):Ev P n L w ⟨d,.slice t x lo hi none,ty,pos,af,g⟩ (.string (s.extract l h)):= .of λ ρ hρ=>by
 have hsb:=λ w=>fG (P:=P) (isSl:=false) (len:=s.size) (cap:=s.size) (hl.of hρ) (hh.of hρ) h1 h2 w
 simp only [execOp,hρ hx,Instr.sliceAt,Instr.slice,Sem.run_bind,run_underlying hu,Result.andThen_ok,Option.map_none,Option.isSome_none,Bool.false_eq_true,if_false,Sem.run_pure,hsb]
end
theorem OpE.val {P:Program} {n:Nat} {L:ay} {w w':World} {o:Oper} {v:Value} {K:Value->World->Prop} (h:∀ ρ:Operand->Value,(∀ {x u},aI L x=some u->ρ x=u)->(execOp ρ o).run P w= .ok (.value v) w')
  (hk:K v w'):OpE P n L w o K:=λ a ha _ _ hn=>by
 simp only [Oper.wp,h a.eval (λ hx=>ha.eval hx),Oper.upon];exact hn _ _ hk
theorem OpE.unit {P:Program} {n:Nat} {L:ay} {w w':World} {o:Oper} {K:Value->World->Prop} (h:∀ ρ:Operand->Value,(∀ {x u},aI L x=some u->ρ x=u)->(execOp ρ o).run P w= .ok .skip w')
  (hk:K undef w'):OpE P n L w o K:=λ a ha _ _ hn=>by
 simp only [Oper.wp,h a.eval (λ hx=>ha.eval hx),Oper.upon];exact hn _ _ hk
theorem Src.OX {P:Program} {w:World} {s tx e' m:Nat} {y:Value} {news:List Value} (hk:P.underlying tx=some (.slice e')) (h:Rd w y m news) (hl:news.length=m*s) (h1:∀ u∈news,u.oneCell'=true):Src P s tx y m news w:=by
 obtain ⟨a,cap,rfl,hn,hc⟩:=h
 cases a with
 |some a=>
  refine Src.ofSlice w hk a m cap news hl (λ j u hu=> ?_) h1
  obtain ⟨b,o,hb,hw⟩:=hc j u hu
  cases hb
  rw [Addr.add_lit];exact hw
 |none=>
  have hnil:news=[]:=by
   cases news with
   |nil=>rfl
   |cons u r=>obtain ⟨b,o,hb,_⟩:=hc 0 u rfl;cases hb
  subst hnil
  have hf:∀ w':World,(Builtin.firstCells s m (.slice none m cap)).run P w'= .ok #[] w':=λ _=>rfl
  exact ⟨.inl ⟨e',hk⟩,λ _=>rfl,hf w,hf w.drew,hl,by simp⟩
theorem uM {P:Program} {w:World} {t tx ty e s b m n:Nat} {z v y:Value} {cells news:List Value} (hty:SlTy P t e s z b) (hown:w.ownsRow 0 e s v n cells) (hs:Src P s tx y m news w)
  (h63:n+m<=maxLen) (hb:(n+m)*b<=140737488355328):
  ∃ v' w',(Builtin.append_ #[t,tx] ty #[v,y]).run P w= .ok v' w'/\w'.ownsRow 0 e s v' (n+m) (cells++news)/\Chg (bD v) w w'/\∀ k∈bD v',k∈bD v\/(w.heap.size<=k/\k<w'.heap.size):=by
 obtain ⟨inf,i1,i2,i3,i4⟩:=hty.info
 have hsmall:((n+m:Nat):Int)<=9223372036854775807:=by simp only [maxLen] at h63;omega
 subst i3;subst i4
 have hlen:(cells++news).length=(n+m)*inf.size:=by rw [length_append,hown.1,hs.newsLen,Nat.add_mul]
 have grown:∀ (base:Option Addr) (old:Nat),old<n+m->n<=old->(∀ w':World,w'.heap=w.heap->(Builtin.firstCells inf.size n (.slice base n old)).run P w'= .ok cells.toArray w')->
   ∃ v' w',(Builtin.append_ #[t,tx] ty #[.slice base n old,y]).run P w= .ok v' w'/\w'.ownsRow 0 e inf.size v' (n+m) (cells++news)/\Chg (bD (.slice base n old)) w w'/\∀ k∈bD v',k∈bD (.slice base n old)\/(w.heap.size<=k/\k<w'.heap.size):=by
  intro base old ho hno hf
  have hr:=run_append_grow_src (P:=P) w t tx ty e inf z hty.und i1 i2 base n old cells (hf _ rfl) y m news hs ho hsmall (growslice_fits ho hb)
  refine ⟨_,_,hr,⟨hlen,.inr ⟨_,_,_,rfl,Nat.zero_le _,heap_alloc_new w.drew _,grownCap_ge w (n+m) old e,grownCap_le_maxLen w (n+m) old e h63,?_,?_⟩⟩,?_,?_⟩
  ·simp only [Array.size_append,size_toArray,size_zeroCells,hty.zs,hlen,<-Nat.add_mul]
   congr 1
   have:=grownCap_ge w (n+m) old e
   omega
  ·simp only [Array.toList_append]
   rw [<-hlen];exact take_left
  ·exact ⟨rfl,rfl,rfl,by simp,λ k hk _=>heap_alloc_old w.drew _ hk⟩
  ·intro k hk
   simp [bD] at hk
   subst hk
   right;simp
 rcases hown.2 with ⟨rfl,rfl⟩|⟨g,cap,cur,rfl,hbg,hg,hnc,hcm,hcs,htake⟩
 ·have hx:cells=[]:=eq_nil_of_length_eq_zero (by simpa using hown.1)
  subst hx
  by_cases hm:m=0
  ·subst hm
   have hn:news=[]:=eq_nil_of_length_eq_zero (by simpa using hs.newsLen)
   subst hn
   have hc:=hs.cells
   refine ⟨.slice none 0 0,w,?_,World.ownsRow_nil w 0 e inf.size,⟨rfl,rfl,rfl,Nat.le_refl _,λ _ _ _=>rfl⟩,by simp [bD]⟩
   rcases hs.kind with ⟨e',hk⟩|hk<;>simp [Builtin.append_,run_underlying hty.und,run_underlying hk,sizeOf,typeInfo,i1,hs.len,hc]
  ·simp only [Nat.zero_add] at grown⊢
   exact grown none 0 (by omega) (Nat.le_refl _) (λ _ _=>by simp [Builtin.firstCells])
 ·by_cases hroom:n+m<=cap
  ·have hfit:0+n*inf.size+0+news.length<=cur.size:=by rw [hs.newsLen,hcs,Nat.zero_add,Nat.add_zero,<-Nat.add_mul];exact Nat.mul_le_mul_right _ hroom
   have hst:=run_storeCells_at (P:=P) g (0+n*inf.size) e news 0 cur w hg hfit hs.one
   have hr:(Builtin.append_ #[t,tx] ty #[.slice (some ⟨g,0,none⟩) n cap,y]).run P w= .ok (.slice (some ⟨g,0,none⟩) (n+m) cap) (w.setRow g (cur.toList.take (n*inf.size)++news++cur.toList.drop (n*inf.size+news.length)).toArray):=by
    simp only [Nat.zero_add,Nat.add_zero] at hst
    rcases hs.kind with ⟨e',hk⟩|hk<;>simp [Builtin.append_,run_underlying hty.und,run_underlying hk,sizeOf,typeInfo,i1,hs.len,hroom,hs.cells,Addr.add_lit,hst]
   refine ⟨_,_,hr,⟨hlen,.inr ⟨g,cap,_,rfl,hbg,setRow_heap w g cur _ e _ hg,hroom,hcm,?_,?_⟩⟩,⟨rfl,rfl,rfl,by simp,λ k _ hk=>setRow_other w g k _ (λ e=>hk (by simp [bD,e]))⟩,λ k hk=> .inl hk⟩
   ·simp only [Nat.zero_add,Nat.add_zero] at hfit
    simp only [size_toArray,length_append,length_take,length_drop,Array.length_toList]
    omega
   ·rw [htake,<-hlen]
    exact take_left
  ·refine grown (some ⟨g,0,none⟩) cap (by omega) hnc (λ w' hw'=> ?_)
   refine run_firstCells_some w' inf.size n _ _ cap cells hown.1 (λ j u hu=> ?_)
   have hcell:=hown.cells (g:=g) rfl j u hu
   simp only [World.cell?,hw'] at hcell⊢
   exact hcell
section
variable {P:Program} {n:Nat} {L:ay} {w w0:World} {cs:List Chunk} {K:Value->World->Prop} {d:Option Nat} {ty:TypeId} {pos:String} {af:Array Edge} {g:Option (Nat×Bool)}
theorem OpE.append {x y:Operand} {t tx e s b i m nn:Nat} {z v u:Value} {cells news:List Value} (hty:SlTy P t e s z b) (hs:Sat w0 cs w) (hi:cs[i]? =some (qh v e s nn cells)) (hx:aI L x=some v) (hy:aI L y=some u)
  (hsrc:Src P s tx u m news w) (h63:nn+m<=maxLen) (hb:(nn+m)*b<=140737488355328) (hk:∀ v' w',Sat w0 (cs.set i (qh v' e s (nn+m) (cells++news))) w'->Chg (bD v) w w'->K v' w'):
  OpE P n L w ⟨d,.call ⟨.builtin .append,#[x,y],#[t,tx]⟩,ty,pos,af,g⟩ K:=by
 obtain ⟨v',w',hr,ho,hc,hf⟩:=uM (ty:=ty) hty (hs.get hi) hsrc h63 hb
 refine .val (v:=v') (w':=w') (λ ρ hρ=> ?_) (hk v' w' (hs.set i hi hc ho hf) hc)
 have h1:=hρ hx
 have h2:=hρ hy
 simp only [BigFrame.execOp_builtin,BigFrame.builtin_append]
 simp only [map_toArray,map_cons,map_nil,h1,h2,Sem.run_bind,hr,Result.andThen_ok,Sem.run_pure]
theorem OpE.box {x:Operand} {T:TypeId} {v:Value} (hs:Sat w0 cs w) (hx:aI L x=some v)
  (hk:∀ b w',Sat w0 (cs++[aj b T v.cells.toList]) w'->Chg [] w w'->w.heap.size<=b->K (.pointer (some ⟨b,0,none⟩)) w'):OpE P n L w ⟨d,.box T x,ty,pos,af,g⟩ K:=by
 refine .val (v:= .pointer (some ⟨w.heap.size,0,none⟩)) (w':=w.alloc (.cells v.cells.toList.toArray T)) (λ ρ hρ=> ?_) (hk _ _ (hs.newObj T v.cells.toList) (.alloc _ _) (Nat.le_refl _))
 simp [execOp,hρ hx,Instr.box,newVar,newRow,go_sem]
theorem OpE.alloc {T:TypeId} {z:Value} (hs:Sat w0 cs w) (hz:(P.info? T).map (·.zero)=some (some z))
  (hk:∀ b w',Sat w0 (cs++[aj b T z.cells.toList]) w'->Chg [] w w'->w.heap.size<=b->K (.pointer (some ⟨b,0,none⟩)) w'):OpE P n L w ⟨d,.alloc T,ty,pos,af,g⟩ K:=by
 refine .val (v:= .pointer (some ⟨w.heap.size,0,none⟩)) (w':=w.alloc (.cells z.cells.toList.toArray T)) (λ ρ hρ=> ?_) (hk _ _ (hs.newObj T z.cells.toList) (.alloc _ _) (Nat.le_refl _))
 cases hi:P.info? T with
 |none=>simp [hi] at hz
 |some i=>
  simp [hi] at hz
  simp [execOp,Instr.alloc,zeroValue,typeInfo,hi,hz,newVar,newRow,go_sem]
theorem OpE.makeSlice {x y:Operand} {t e s b l c:Nat} {z:Value} {k k':IntKind} (hty:SlTy P t e s z b) (hs:Sat w0 cs w) (hx:aI L x=some (.int k (l:Int))) (hy:aI L y=some (.int k' (c:Int))) (hlc:l<=c)
  (hb:b*c<=281474976710656) (h63:c<=9223372036854775807)
  (hk:∀ v w',Sat w0 (cs++[qh v e s l ((madeCells z.cells (c*s)).toList.take (l*s))]) w'->Chg [] w w'->K v w'):OpE P n L w ⟨d,.makeSlice t x y,ty,pos,af,g⟩ K:=by
 obtain ⟨inf,i1,i2,i3,i4⟩:=hty.info
 have h8:(inf.bytes:Int)*(c:Int)<=281474976710656:=by rw [i4,<-Int.natCast_mul];omega
 have hr:=run_make (P:=P) (w:=w) t e inf z hty.und i1 i2 k k' (l:Int) (c:Int) (by omega) (by omega) h8 (by omega)
 rw [i3] at hr
 simp only [Int.toNat_natCast] at hr
 refine .val (λ ρ hρ=> ?_) (hk _ _ (hs.wK e s l c (madeCells z.cells (c*s)).toList (by unfold maxLen;omega) hlc (by rw [Array.length_toList,size_madeCells])) (.alloc _ _))
 simp only [execOp,hρ hx,hρ hy,Sem.run_bind,hr,Result.andThen_ok,Sem.run_pure,Array.toArray_toList]
theorem OpE.NB {x:Operand} {t e b:Nat} {z v:Value} (hty:SlTy P t e 1 z b) (hs:Sat w0 cs w) (hx:aI L x=some v) (h1:v.oneCell'=true)
  (hk:∀ u w',Sat w0 (cs++[qh u e 1 1 [v]]) w'->Chg [] w w'->K u w'):OpE P n L w ⟨d,.buildSlice t 1 #[(0,x)],ty,pos,af,g⟩ K:=by
 obtain ⟨inf,i1,i2,i3,i4⟩:=hty.info
 have hz:=hty.zs
 refine .val (λ ρ hρ=> ?_) (hk _ _ (hs.wK e 1 1 1 [v] (by unfold maxLen;omega) (Nat.le_refl _) rfl) (.alloc _ _))
 have hvc:v.cells= #[v]:=by cases v<;>first|rfl|cases h1
 have hz':∃ q,z.cells= #[q]:=by
  obtain ⟨q,hq⟩:=length_eq_one_iff.1 (by simpa using hz:z.cells.toList.length=1)
  exact ⟨q,by apply Array.ext';simpa using hq⟩
 obtain ⟨q,hq⟩:=hz'
 have hrun:(Instr.buildSlice t 1 #[(0,v)]).run P w= .ok (.slice (some ⟨w.heap.size,0,none⟩) 1 1) (w.alloc (.cells #[v] e)):=by
  simp [Instr.buildSlice,run_underlying hty.und,sizeOf,typeInfo,zeroValue,i1,i2,i3,Instr.fill,hvc,hq,newRow,Array.range_succ]
  simp [show Array.range 0=(#[]:Array Nat) from rfl]
 simp only [execOp,map_toArray,map_cons,map_nil,hρ hx,Sem.run_bind,hrun,Result.andThen_ok,Sem.run_pure]
theorem OpE.aM {x y:Operand} {T i b j:Nat} {v u0:Value} {U:TypeId} {cells:List Value} (hT:(P.info? T).map (·.size)=some 1) (hs:Sat w0 cs w) (hi:cs[i]? =some (aj b U cells)) (hx:aI L x=some (.pointer (some ⟨b,j,none⟩)))
  (hy:aI L y=some v) (h1:v.oneCell'=true) (hj:cells[j]? =some u0) (hk:∀ w',Sat w0 (cs.set i (aj b U (cells.set j v))) w'->Chg [b] w w'->K undef w'):OpE P n L w ⟨d,.store T x y,ty,pos,af,g⟩ K:=by
 have hc:=hs.cell hi hj
 have hf:=frozen_of_heap (hs.get hi) j
 cases hin:P.info? T with
 |none=>simp [hin] at hT
 |some inf=>
  simp [hin] at hT
  refine .unit (λ ρ hρ=> ?_) (hk _ (hs.setObj (j:=j) (u:=v) hi) (Chg.setCell w ⟨b,j,none⟩ v))
  have hvc:v.cells= #[v]:=by cases v<;>first|rfl|cases h1
  have hrun:(Instr.storeAt T (.pointer (some ⟨b,j,none⟩)) v).run P w= .ok () (w.setCell ⟨b,j,none⟩ v):=by
   simp [Instr.storeAt,Instr.sureAddr,storeVar,sizeOf,typeInfo,hin,hT,hvc,storeCells,run_store P w _ v .plain h1,hc,hf,Addr.add]
  simp only [execOp,hρ hx,hρ hy,Sem.run_bind,hrun,Result.andThen_ok,Sem.run_pure]
theorem OpE.D7 {x y:Operand} {T i e s m c:Nat} {v u u0:Value} {cells:List Value} (hT:(P.info? T).map (·.size)=some 1) (hs:Sat w0 cs w) (hi:cs[i]? =some (qh v e s m cells)) (hx:aI L x=some (bE v c))
  (hy:aI L y=some u) (h1:u.oneCell'=true) (hc:cells[c]? =some u0) (hk:∀ w',Sat w0 (cs.set i (qh v e s m (cells.set c u))) w'->Chg (bD v) w w'->K undef w'):OpE P n L w ⟨d,.store T x y,ty,pos,af,g⟩ K:=by
 have hown:=hs.get hi
 have hcl:c<cells.length:=(List.getElem?_eq_some_iff.1 hc).1
 obtain ⟨hl,⟨rfl,rfl⟩|⟨g,cap,cur,rfl,hg0,hh,hnc,hcm,hcs,ht⟩⟩:=id hown
 ·simp at hl;subst hl;simp at hcl
 have hcell:w.cell? ⟨g,c,none⟩=some u0:=by rw [World.ownsRow.cellAt hown c (by rw [<-hl];exact hcl)];exact hc
 have hf:=frozen_of_heap hh c
 cases hin:P.info? T with
 |none=>simp [hin] at hT
 |some inf=>
  simp [hin] at hT
  refine .unit (λ ρ hρ=> ?_) (hk _ (hs.OZ (j:=c) (u:=u) hi) (Chg.setCell w ⟨g,c,none⟩ u))
  have hvc:u.cells= #[u]:=by cases u<;>first|rfl|cases h1
  have hx':ρ x= .pointer (some ⟨g,c,none⟩):=by rw [hρ hx];simp [bE,Addr.add_lit]
  have hrun:(Instr.storeAt T (.pointer (some ⟨g,c,none⟩)) u).run P w= .ok () (w.setCell ⟨g,c,none⟩ u):=by
   simp [Instr.storeAt,Instr.sureAddr,storeVar,sizeOf,typeInfo,hin,hT,hvc,storeCells,run_store P w _ u .plain h1,hcell,hf,Addr.add]
  simp only [execOp,hx',hρ hy,Sem.run_bind,hrun,Result.andThen_ok,Sem.run_pure]
end
structure Enc (α:Type) where
 s:Nat
 enc:α->List Value
 len:∀ x,(enc x).length=s
 one:∀ x,∀ u∈enc x,u.oneCell'=true
def encI (k:IntKind):Enc Int:=⟨1,λ x=>[.int k x],λ _=>rfl,λ x u h=>by simp at h;subst h;rfl⟩
def a8 (k:IntKind):Enc Nat:=⟨1,λ x=>[.int k (x:Int)],λ _=>rfl,λ x u h=>by simp at h;subst h;rfl⟩
def aB:Enc ByteArray:=⟨1,λ x=>[.string x],λ _=>rfl,λ x u h=>by simp at h;subst h;rfl⟩
def Md:Enc Bool:=⟨1,λ x=>[.bool x],λ _=>rfl,λ x u h=>by simp at h;subst h;rfl⟩
namespace Enc
variable {α:Type} (E:Enc α)
def all (l:List α):List Value:=l.flatMap E.enc
@[simp] theorem all_nil:E.all []=[]:=rfl
theorem all_cons (x:α) (l:List α):E.all (x::l)=E.enc x++E.all l:=by simp [all]
theorem all_append (l m:List α):E.all (l++m)=E.all l++E.all m:=by simp [all]
theorem all_one (x:α):E.all [x]=E.enc x:=by simp [all]
theorem all_length (l:List α):(E.all l).length=l.length*E.s:=by
 induction l with
 |nil=>simp
 |cons x r ih=>rw [all_cons,length_append,ih,E.len,length_cons,Nat.add_mul];omega
theorem all_oneCell (l:List α):∀ u∈E.all l,u.oneCell'=true:=λ u hu=>by
 obtain ⟨x,_,hx⟩:=mem_flatMap.1 hu
 exact E.one x u hx
theorem all_get {l:List α} {k:Nat} {x:α} (h:l[k]? =some x) {off:Nat} (ho:off<E.s):(E.all l)[k*E.s+off]? =(E.enc x)[off]? :=by
 induction l generalizing k with
 |nil=>simp at h
 |cons y r ih=>
  rw [all_cons]
  cases k with
  |zero=>
   simp at h;subst h
   rw [getElem?_append_left (by rw [E.len];omega),Nat.zero_mul,Nat.zero_add]
  |succ k=>
   rw [getElem?_append_right (by rw [E.len,Nat.add_mul];omega),E.len]
   have e:(k+1)*E.s+off-E.s=k*E.s+off:=by rw [Nat.add_mul];omega
   rw [e]
   exact ih (by simpa using h)
theorem all_take (l:List α) (k:Nat):(E.all l).take (k*E.s)=E.all (l.take k):=by
 induction l generalizing k with
 |nil=>simp
 |cons y r ih=>
  cases k with
  |zero=>simp
  |succ k=>
   have e:(k+1)*E.s=(E.enc y).length+k*E.s:=by rw [E.len,Nat.add_mul];omega
   rw [all_cons,take_succ_cons,all_cons,e,take_length_add_append,ih]
theorem all_drop (l:List α) (k:Nat):(E.all l).drop (k*E.s)=E.all (l.drop k):=by
 induction l generalizing k with
 |nil=>simp
 |cons y r ih=>
  cases k with
  |zero=>simp
  |succ k=>
   have e:(k+1)*E.s=(E.enc y).length+k*E.s:=by rw [E.len,Nat.add_mul];omega
   rw [all_cons,drop_succ_cons,e,drop_length_add_append,ih]
end Enc
def RdL {α:Type} (w:World) (v:Value) (E:Enc α) (l:List α):Prop:=Rd w v l.length (E.all l)
def cL {α:Type} (v:Value) (e:Nat) (E:Enc α) (l:List α):Chunk:=qh v e E.s l.length (E.all l)
theorem RdL.ext {α:Type} {w w':World} {v:Value} {E:Enc α} {l:List α} (h:RdL w v E l) (he:Ext w w'):RdL w' v E l:=Rd.ext h he
theorem RdL.nil {α:Type} (w:World) (E:Enc α):RdL w (.slice none 0 0) E []:=Rd.nil w
theorem Sat.ah {α:Type} {w0 w:World} {cs:List Chunk} (h:Sat w0 cs w) {e:Nat} {v:Value} {E:Enc α} {l:List α} (i:Nat) (hi:cs[i]? =some (cL v e E l)):RdL w v E l:=h.rd hi
theorem RdL.a7 {α:Type} {w:World} {v:Value} {E:Enc α} {l:List α} (h:RdL w v E l):v.oneCell'=true:=Rd.a7 h
theorem RdL.sub {α:Type} {w:World} {v:Value} {E:Enc α} {l:List α} (hr:RdL w v E l) {a b:Nat} (h1:a<=b) (h2:b<=l.length):RdL w (gu E.s v a b) E ((l.take b).drop a):=by
 have:=Rd.sub hr (size:=E.s) h1 h2
 rw [E.all_take,E.all_drop] at this
 unfold RdL
 rw [show ((l.take b).drop a).length=b-a by simp;omega]
 exact this
section
variable {P:Program} {n:Nat} {L:ay} {w w0:World} {cs:List Chunk} {K:Value->World->Prop} {d:Option Nat} {ty:TypeId} {pos:String} {af:Array Edge} {g:Option (Nat×Bool)} {α:Type} {E:Enc α}
theorem Ev.P1 {x:Operand} {t e:TypeId} {v:Value} {l:List α} (hu:P.underlying t=some (.slice e)) (hx:aI L x=some v) (h:RdL w v E l):
  Ev P n L w ⟨d,.call ⟨.builtin .len,#[x],#[t]⟩,ty,pos,af,g⟩ (.int .i64 (l.length:Int)):=Ev.OP hu hx h
theorem Ev.iT {x i:Operand} {t e b:Nat} {z v:Value} {j:Nat} {l:List α} {k:IntKind} (hty:SlTy P t e E.s z b) (hx:aI L x=some v) (hi:aI L i=some (.int k (j:Int))) (h:RdL w v E l) (hj:j<l.length):
  Ev P n L w ⟨d,.indexAddr t x i,ty,pos,af,g⟩ (bE v (j*E.s)):=Ev.indexAddr hty hx hi h (E.all_length l) hj
theorem Ev.PE {x:Operand} {T:TypeId} {v u:Value} {j:Nat} {l:List α} {a:α} (hT:dA P T=true) (hx:aI L x=some (bE v (j*E.s))) (h:RdL w v E l) (ha:l[j]? =some a) (hs:0<E.s) (hu:(E.enc a)[0]? =some u):
  Ev P n L w ⟨d,.load T x,ty,pos,af,g⟩ u:=Ev.Ih hT hx h (by have:=E.all_get ha hs;rw [Nat.add_zero] at this;rw [this];exact hu)
theorem Ev.OM {x:Operand} {T:TypeId} {v u:Value} {j off:Nat} {l:List α} {a:α} (hT:dA P T=true) (hx:aI L x=some (bE v (j*E.s+off))) (h:RdL w v E l) (ha:l[j]? =some a) (hs:off<E.s) (hu:(E.enc a)[off]? =some u):
  Ev P n L w ⟨d,.load T x,ty,pos,af,g⟩ u:=Ev.Ih hT hx h (by rw [E.all_get ha hs];exact hu)
theorem Ev.P0 {x:Operand} {T:TypeId} {f off:Nat} {v:Value} {j:Nat} {l:List α} (hf:jJ P T f off=true) (hx:aI L x=some (bE v (j*E.s))) (h:RdL w v E l) (hj:j<l.length) (hs:0<E.s):
  Ev P n L w ⟨d,.fieldAddr T x f,ty,pos,af,g⟩ (bE v (j*E.s+off)):=
 Ev.KQ hf hx h (by rw [E.all_length];exact Nat.mul_lt_mul_of_pos_right hj hs) rfl
theorem Ev.bk {x:Operand} {lo hi:Option Operand} {t e b:Nat} {z v:Value} {a c:Nat} {l:List α} (hty:SlTy P t e E.s z b) (hx:aI L x=some v) (hr:RdL w v E l)
  (hl:BoundIs L 0 lo a) (hh:BoundIs L l.length hi c) (h1:a<=c) (h2:c<=l.length):Ev P n L w ⟨d,.slice t x lo hi none,ty,pos,af,g⟩ (gu E.s v a c):=Ev.slice hty hx hr hl hh h1 h2
theorem Src.Ie {s tx e':Nat} {y:Value} {l:List α} (hs:E.s=s) (hk:P.underlying tx=some (.slice e')) (h:RdL w y E l):Src P s tx y l.length (E.all l) w:=by
 subst hs
 exact Src.OX hk h (E.all_length l) (E.all_oneCell l)
theorem OpE.aL {x y:Operand} {t tx e b e':Nat} {z v u:Value} {l m:List α} (i:Nat) (hty:SlTy P t e E.s z b) (hs:Sat w0 cs w) (hi:cs[i]? =some (cL v e E l)) (hx:aI L x=some v) (hy:aI L y=some u)
  (hk:P.underlying tx=some (.slice e')) (hr:RdL w u E m) (h63:l.length+m.length<=9223372036854775807) (hb:(l.length+m.length)*b<=140737488355328) (hc:∀ v' w',Sat w0 (cs.set i (cL v' e E (l++m))) w'->Chg (bD v) w w'->K v' w'):
  OpE P n L w ⟨d,.call ⟨.builtin .append,#[x,y],#[t,tx]⟩,ty,pos,af,g⟩ K:=
 OpE.append hty hs hi hx hy (Src.Ie rfl hk hr) (by unfold maxLen;omega) hb λ v' w' h1 h2=>hc v' w' (by unfold cL;rw [E.all_append,length_append];exact h1) h2
theorem OpE.pV {x y:Operand} {t tx e b:Nat} {z v u:Value} {l m:List α} (i:Nat) (hty:SlTy P t e E.s z b) (hs:Sat w0 cs w) (hi:cs[i]? =some (cL v e E l)) (hx:aI L x=some v) (hy:aI L y=some u)
  (hr:Src P E.s tx u m.length (E.all m) w) (h63:l.length+m.length<=9223372036854775807) (hb:(l.length+m.length)*b<=140737488355328) (hc:∀ v' w',Sat w0 (cs.set i (cL v' e E (l++m))) w'->Chg (bD v) w w'->K v' w'):
  OpE P n L w ⟨d,.call ⟨.builtin .append,#[x,y],#[t,tx]⟩,ty,pos,af,g⟩ K:=
 OpE.append hty hs hi hx hy hr (by unfold maxLen;omega) hb λ v' w' h1 h2=>hc v' w' (by unfold cL;rw [E.all_append,length_append];exact h1) h2
theorem OpE.cM {x:Operand} {t e b:Nat} {z v:Value} (E:Enc α) (a:α) (hty:SlTy P t e E.s z b) (he:E.enc a=[v]) (hs:Sat w0 cs w) (hx:aI L x=some v)
  (hk:∀ u w',Sat w0 (cs++[cL u e E [a]]) w'->Chg [] w w'->K u w'):OpE P n L w ⟨d,.buildSlice t 1 #[(0,x)],ty,pos,af,g⟩ K:=by
 have h1:E.s=1:=by have:=E.len a;rw [he] at this;simpa using this.symm
 refine OpE.NB (h1▸hty) hs hx (E.one a v (by rw [he];simp)) λ u w' hS hC=>hk u w' ?_ hC
 unfold cL
 rw [E.all_one,he,h1];exact hS
theorem uN {z:Value} {a:α} (he:E.enc a=[z]) (h1:E.s=1) (c l:Nat) (hz:z.oneCell'=true) (h:l<=c):(madeCells z.cells (c*E.s)).toList.take (l*E.s)=E.all (List.replicate l a):=by
 have hvc:z.cells= #[z]:=by cases z<;>first|rfl|cases hz
 rw [h1,Nat.mul_one,Nat.mul_one,hvc,toList_madeCells_one,take_replicate,Nat.min_eq_left h]
 induction l with
 |zero=>simp
 |succ l ih=>rw [replicate_succ,replicate_succ,Enc.all_cons,he,<-ih (by omega)];rfl
theorem OpE.ee {x y:Operand} {t e b l c:Nat} {z:Value} {k k':IntKind} (E:Enc α) (a:α) (hty:SlTy P t e E.s z b) (he:E.enc a=[z]) (hs:Sat w0 cs w) (hx:aI L x=some (.int k (l:Int))) (hy:aI L y=some (.int k' (c:Int)))
  (hlc:l<=c) (hb:b*c<=281474976710656) (h63:c<=9223372036854775807) (hk:∀ v w',Sat w0 (cs++[cL v e E (List.replicate l a)]) w'->Chg [] w w'->K v w'):OpE P n L w ⟨d,.makeSlice t x y,ty,pos,af,g⟩ K:=by
 have h1:E.s=1:=by have:=E.len a;rw [he] at this;simpa using this.symm
 refine OpE.makeSlice hty hs hx hy hlc hb h63 λ v w' hS hC=>hk v w' ?_ hC
 rw [uN he h1 c l (E.one a z (by rw [he];simp)) hlc] at hS
 unfold cL
 rw [length_replicate]
 exact hS
theorem nB {l:List α} {j:Nat} {a:α} {u:Value} (he:E.enc a=[u]) (hj:j<l.length):(E.all l).set (j*E.s) u=E.all (l.set j a):=by
 have h1:E.s=1:=by have:=E.len a;rw [he] at this;simpa using this.symm
 have e1:l=l.take j++l[j]::l.drop (j+1):=by simp
 have e2:l.set j a=l.take j++a::l.drop (j+1):=by
  rw [set_eq_take_append_cons_drop];simp [hj]
 obtain ⟨q,hq⟩:=length_eq_one_iff.1 (by rw [E.len l[j],h1]:(E.enc l[j]).length=1)
 have hl:(E.all (l.take j)).length=j:=by rw [E.all_length,h1];simp;omega
 rw [e2,E.all_append,E.all_cons,he]
 conv=>lhs;rw [e1,E.all_append,E.all_cons,hq]
 rw [h1,Nat.mul_one,set_append_right _ _ (by omega),hl,Nat.sub_self]
 rfl
theorem OpE.dS {x y:Operand} {T e j:Nat} {v u:Value} {l:List α} {a:α} (i:Nat) (hT:(P.info? T).map (·.size)=some 1) (hs:Sat w0 cs w) (hi:cs[i]? =some (cL v e E l)) (hx:aI L x=some (bE v (j*E.s)))
  (hy:aI L y=some u) (he:E.enc a=[u]) (hj:j<l.length) (hk:∀ w',Sat w0 (cs.set i (cL v e E (l.set j a))) w'->Chg (bD v) w w'->K undef w'):OpE P n L w ⟨d,.store T x y,ty,pos,af,g⟩ K:=by
 have h1:E.s=1:=by have:=E.len a;rw [he] at this;simpa using this.symm
 have hget:(E.all l)[j*E.s]? =some _:=getElem?_eq_getElem (by rw [E.all_length];exact Nat.mul_lt_mul_of_pos_right hj (by omega))
 refine OpE.D7 hT hs hi hx hy (E.one a u (by rw [he];simp)) hget λ w' hS hC=>hk w' ?_ hC
 rw [nB he hj] at hS
 unfold cL
 rw [length_set];exact hS
theorem Sat.aH {w0 w:World} {cs:List Chunk} (h:Sat w0 cs w) (e:Nat) (E:Enc α):Sat w0 (cs++[cL (.slice none 0 0) e E []]) w:=h.Ny e E.s
theorem OpE.OJ {x y:Operand} {t tx e b:Nat} {z v u:Value} {l m:List α} (i:Nat) (hty:SlTy P t e E.s z b) (h1:E.s=1) (hs:Sat w0 cs w) (hi:cs[i]? =some (cL v e E l)) (hx:aI L x=some v) (hy:aI L y=some u)
  (hr:RdL w u E m) (hk:∀ w',Sat w0 (cs.set i (cL v e E (m.take l.length++l.drop m.length))) w'->Chg (bD v) w w'->K (.int .i64 ((min m.length l.length:Nat):Int)) w'):
  OpE P n L w ⟨d,.call ⟨.builtin .copy,#[x,y],#[t,tx]⟩,ty,pos,af,g⟩ K:=by
 obtain ⟨inf,i1,i2,i3,i4⟩:=hty.info
 have hsz:(P.info? e).map (·.size)=some 1:=by rw [i1];simp [i3,h1]
 have hown:=hs.get hi
 have run:∀ w':World,(Builtin.copy_ #[t,tx] ty #[v,u]).run P w= .ok (.int .i64 ((min m.length l.length:Nat):Int)) w'->K (.int .i64 ((min m.length l.length:Nat):Int)) w'->
   OpE P n L w ⟨d,.call ⟨.builtin .copy,#[x,y],#[t,tx]⟩,ty,pos,af,g⟩ K:=λ w' hrun hK=>by
  refine .val (λ ρ hρ=> ?_) hK
  have e1:=hρ hx
  have e2:=hρ hy
  simp only [BigFrame.execOp_builtin,BigFrame.builtin_copy]
  simp only [map_toArray,map_cons,map_nil,e1,e2,Sem.run_bind,hrun,Result.andThen_ok,Sem.run_pure]
 obtain ⟨ua,ucap,rfl,hucap,huc⟩:=id hr
 by_cases hz:min m.length l.length=0
 ·have hnone:(Builtin.copy_ #[t,tx] ty #[v,.slice ua m.length ucap]).run P w= .ok (.int .i64 ((min m.length l.length:Nat):Int)) w:=by
   rcases hown.2 with ⟨rfl,hl0⟩|⟨gg,cap,cur,rfl,_⟩
   ·rw [hz];exact run_copy_none w t tx ty e none ua 0 0 m.length ucap hty.und hsz (by simp)
   ·rw [hz];exact run_copy_none w t tx ty e _ ua l.length cap m.length ucap hty.und hsz hz
  refine run w hnone (hk w ?_ ⟨rfl,rfl,rfl,Nat.le_refl _,λ _ _ _=>rfl⟩)
  have hsame:m.take l.length++l.drop m.length=l:=by
   rcases Nat.eq_zero_or_pos l.length with h|h
   ·rw [eq_nil_of_length_eq_zero h];simp
   ·have:m.length=0:=by omega
    rw [eq_nil_of_length_eq_zero this];simp
  rw [hsame]
  exact hs.set i hi ⟨rfl,rfl,rfl,Nat.le_refl _,λ _ _ _=>rfl⟩ hown (λ _ hk=> .inl hk)
 ·obtain ⟨hlen,⟨rfl,hl0⟩|⟨gg,cap,cur,rfl,hg0,hh,hnc,hcm,hcs,ht⟩⟩:=hown
  ·omega
  have hun:∃ ub uo,ua=some ⟨ub,uo,none⟩:=by
   have hpos:0<(E.all m).length:=by rw [E.all_length,h1];omega
   obtain ⟨bb,o,ha,_⟩:=huc 0 _ (getElem?_eq_getElem hpos)
   exact ⟨bb,o,ha⟩
  obtain ⟨ub,uo,rfl⟩:=hun
  rw [h1,Nat.mul_one] at hlen hcs ht
  have hml:(E.all m).length=m.length:=by rw [E.all_length,h1,Nat.mul_one]
  have hrun:=run_copy_row (P:=P) w t tx ty e gg 0 l.length cap ⟨ub,uo,none⟩ m.length ucap cur e ((E.all m).take l.length) hty.und hsz hh
   (by rw [length_take,hml,Nat.min_comm])
   (λ j q hq=>by
    rw [getElem?_take] at hq
    split at hq
    ·obtain ⟨b2,o2,hb2,hc2⟩:=huc j q hq
     cases hb2;rw [Addr.add_lit];exact hc2
    ·cases hq)
   (by rw [length_take,hml,hcs];omega) (λ q hq=>E.all_oneCell m q (take_subset _ _ hq))
  have hn:((E.all m).take l.length).length=min m.length l.length:=by rw [length_take,hml];omega
  rw [hn] at hrun
  refine run _ hrun (hk _ (hs.set i hi ⟨rfl,rfl,rfl,by simp,λ k _ hk=>setRow_other w gg k _ (λ e=>hk (by simp [cL,qh,bD,e]))⟩ ?_ (λ _ hk=> .inl hk)) ⟨rfl,rfl,rfl,by simp,λ k _ hk=>setRow_other w gg k _ (λ e=>hk (by simp [bD,e]))⟩)
  have hl2:(m.take l.length++l.drop m.length).length=l.length:=by simp;omega
  refine ⟨E.all_length _,.inr ⟨gg,cap,_,?_,hg0,setRow_heap w gg cur _ e _ hh,by omega,hcm,?_,?_⟩⟩
  ·rw [hl2]
  ·simp only [size_toArray,length_append,length_take,length_drop,Array.length_toList,h1]
   omega
  ·rw [hl2,h1,Nat.mul_one,E.all_append]
   have e1:=E.all_take m l.length
   have e2:=E.all_drop l m.length
   rw [h1,Nat.mul_one] at e1 e2
   rw [<-e1,<-e2,<-ht]
   simp only [take_zero,nil_append,Nat.zero_add]
   rw [take_append,hn,take_of_length_le (by rw [hn];omega)]
   congr 1
   rcases Nat.le_total m.length l.length with h|h
   ·rw [Nat.min_eq_left h,drop_take]
   ·rw [Nat.min_eq_right h,Nat.sub_self,take_zero,drop_of_length_le (by rw [length_take];omega)]
end
theorem Sat.cF {α:Type} {w0 w:World} {cs:List Chunk} (h:Sat w0 cs w) (i:Nat) {v:Value} {e:Nat} {E:Enc α} {l l':List α} (hi:cs[i]? =some (cL v e E l)) (hq:l=l'):Sat w0 (cs.set i (cL v e E l')) w:=by
 subst hq
 obtain ⟨hil,hci⟩:=List.getElem?_eq_some_iff.1 hi
 rw [<-hci,set_getElem_self hil];exact h
end Go.Kw
