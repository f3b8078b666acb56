/-
 KW:A SMALL PROGRAM LOGIC OVER THE KIT'S RULES. A frame is a list of known slots,a region is walked operation by operation (in the text's order,or along a plan where the order is drawn).
 Our own text;it names no program.
-/
import Derived.Test.YtcmldpiicnobnaaGreatDoorAl
import Derived.WalkKit
import Derived.WalkLawsBesides
import Derived.WalkSpells
import Derived.OrdersHeld
import Derived.Deep.AppendSrc
import Derived.Deep.LoopGhost
import Derived.Laws.CopyOwn
set_option linter.all false
open Go.Proofs.YtcmldpiicnobnaaGreatDoor
open List hiding all all_append all_cons all_nil
namespace Go.Kw
open Go.RowKit
abbrev aA:=List (Nat×Value)
def look:aA->Nat->Option Value
 |[],_=>none
 |(t,v)::r,u=>cond (Nat.beq t u) (some v) (look r u)
def aH(L:aA):Operand->Option Value
 | .tmp t=>look L t
 | .const v=>some v
 | .global g=>some (.pointer (some ⟨g,0,none⟩))
 | .func f=>some (.func (.func f) #[] #[])
def pE(L:aA):List Operand->Option (List Value)
 |[]=>some []
 |x::r=>(aH L x).bind λ v=>(pE L r).map (v:: ·)
structure Fits(n:Nat)(L:aA)(a:Act):Prop where
 size:a.tmps.size=n
 slot:∀ t v,look L t=some v->a.tmps[t]? =some v
 defers:a.defers=[]
def Fits.eval{n:Nat}{L:aA}{a:Act}(h:Fits n L a){x:Operand}{v:Value}(hx:aH L x=some v):a.eval x=v:=by
 cases x with
 |tmp t=>have:=h.slot t v hx;simp[Act.eval,PC,this]
 |const u=>simpa[aH,Act.eval]using hx
 |global g=>simpa[aH,Act.eval]using hx
 |func f=>simpa[aH,Act.eval]using hx
def Fits.FG{n:Nat}{L:aA}{a:Act}(h:Fits n L a):∀ {xs:List Operand} {vs:List Value},pE L xs=some vs->xs.map a.eval=vs
 |[],vs,hx=>by simpa[pE]using hx
 |x::r,vs,hx=>by
  simp only[pE,Qc,P3]at hx;obtain⟨v,hv,us,hus,rfl⟩:=hx;simp[h.eval hv,h.FG hus]
def ij{L:aA}{d t:Nat}{v:Value}:look ((d,v)::L) t=if d=t then some v else look L t:=by
 simp only[look];by_cases e:d=t
 ·subst e;simp
 ·have:Nat.beq d t=false:=by
   cases h:Nat.beq d t with
   |false=>rfl
   |true=>exact absurd (Pv h) e
  simp[e,this]
def Fits.put{n:Nat}{L:aA}{a:Act}(h:Fits n L a){d:Nat}{v:Value}(hd:d<n):Fits n ((d,v)::L) (a.put (some d) v):=by
 refine⟨by simp[Act.put,h.size],λ t u hu=>?_,h.defers⟩;rw[ij]at hu;simp only[Act.put,Array.getElem?_setIfInBounds];by_cases e:d=t
 ·subst e;simp at hu;simp[hu,h.size,hd]
 ·simp only[e,Py]at hu⊢;exact h.slot t u hu
def Weak:aA->aA->Prop
 |[],_=>True
 |(t,v)::r,L=>look L t=some v/\Weak r L
theorem Weak.look{L' L:aA}(h:Weak L' L):∀ {t v},Kw.look L' t=some v->Kw.look L t=some v:=by
 induction L' with
 |nil=>intro t v h;simp[Kw.look]at h
 |cons p r ih=>
  intro t v hv;obtain⟨d,u⟩:=p;rw[ij]at hv;by_cases e:d=t
  ·subst e;simp at hv;subst hv;exact h.1
  ·simp[e]at hv;exact ih h.2 hv
theorem Fits.weaken{n:Nat}{L L':aA}{a:Act}(h:Fits n L a)(hw:Weak L' L):Fits n L' a:=
 ⟨h.size,λ t v hv=>h.slot t v (hw.look hv),h.defers⟩
structure Qs where
 nrm:aA->World->Prop
 ret:aA->World->Prop
 ext:List (Nat×(aA->World->Prop))
 gto:List (Nat×(aA->World->Prop))
def ko:List (Nat×(aA->World->Prop))->Nat->aA->World->Prop
 |[],_=>λ _ _=>False
 |(t,R)::r,u=>cond (Nat.beq t u) R (ko r u)
def LX(n:Nat)(Q:Qs):Exit->Act->World->Prop
 | .normal,a,w=>∃ L,Fits n L a/\Q.nrm L w
 | .ret,a,w=>∃ L,Fits n L a/\Q.ret L w
 | .exit id,a,w=>∃ L,Fits n L a/\ko Q.ext id L w
 | .goto l,a,w=>∃ L,Fits n L a/\ko Q.gto l L w
 |_,_,_=>False
def CW(P:Program)(n:Nat)(c:Code)(Q:Qs)(L:aA)(w:World):Prop:=∀ a,Fits n L a->c.wp P (LX n Q) a w
section
variable {P:Program} {n:Nat} {Q:Qs} {L:aA} {w:World}
theorem CW.weaken{c:Code}(L':aA)(hw:Weak L' L)(h:CW P n c Q L' w):CW P n c Q L w:=λ a ha=>h a (ha.weaken hw)
def CW.MU(h:Q.nrm L w):CW P n .skip Q L w:=λ _ ha=>wp_skip ⟨L,ha,h⟩
def CW.O3(h:Q.ret L w):CW P n .ret Q L w:=λ _ ha=>wp_ret ⟨L,ha,h⟩
def CW.J5{id:Nat}(h:ko Q.ext id L w):CW P n (.exit id) Q L w:=λ _ ha=>wp_exit ⟨L,ha,h⟩
def CW.NT{x y:Code}(h:CW P n x {Q with nrm:=λ L w=>CW P n y Q L w} L w):CW P n (.seq x y) Q L w:=λ a ha=>
 wp_seq (RF (h a ha) λ e a' w' q=>by
  cases e<;>first|(obtain⟨L',hL,hc⟩:=q;exact hc a' hL)|exact q)
def CW.Ic{x y:Code}(R:aA->World->Prop)(h:CW P n x {Q with nrm:=R} L w)(h2:∀ L' w',R L' w'->CW P n y Q L' w'):CW P n (.seq x y) Q L w:=λ a ha=>
 wp_seq (RF (h a ha) λ e a' w' q=>by
  cases e<;>first|(obtain⟨L',hL,hc⟩:=q;exact h2 L' w' hc a' hL)|exact q)
def CW.O6{c:Code}(R:aA->World->Prop)(h:CW P n c {Q with nrm:=R} L w)(h2:∀ L' w',R L' w'->Q.nrm L' w'):CW P n c Q L w:=λ a ha=>
 RF (h a ha) λ e a' w' q=>by
  cases e<;>first|(obtain⟨L',hL,hc⟩:=q;exact⟨L',hL,h2 L' w' hc⟩)|exact q
def CW.An{c:Operand}{x y:Code}{b:Bool}(hc:aH L c=some (.bool b))(ht:b=true->CW P n x Q L w)(hf:b=false->CW P n y Q L w):CW P n (.cond c x y) Q L w:=
 λ a ha=>wp_cond_split (ha.eval hc) (λ h=>ht h a ha) (λ h=>hf h a ha)
def CW.Lf{c:Operand}{x y:Code}{p:Prop}{dp:Decidable p}(hc:aH L c=some (.bool (@decide p dp)))(ht:p->CW P n x Q L w)(hf:¬ p->CW P n y Q L w):CW P n (.cond c x y) Q L w:=
 CW.An hc (λ h=>ht (Pl h)) (λ h=>hf (Qy h))
def CW.Lg{c:Operand}{x y:Code}{b:Bool}(hc:aH L c=some (.bool b))(hb:b=true)(ht:CW P n x Q L w):CW P n (.cond c x y) Q L w:=
 CW.An hc (λ _=>ht) (λ h=>absurd (hb.symm.trans h) (by simp))
def CW.La{c:Operand}{x y:Code}{b:Bool}(hc:aH L c=some (.bool b))(hb:b=false)(hf:CW P n y Q L w):CW P n (.cond c x y) Q L w:=
 CW.An hc (λ h=>absurd (hb.symm.trans h) (by simp)) (λ _=>hf)
def iB{E:List (Nat×(aA->World->Prop))}{i id:Nat}{R:aA->World->Prop}:ko ((i,R)::E) id=if i=id then R else ko E id:=by
 simp only[ko];by_cases e:i=id
 ·subst e;simp
 ·have:Nat.beq i id=false:=by
   cases h:Nat.beq i id with
   |false=>rfl
   |true=>exact absurd (Pv h) e
  simp[e,this]
def CW.Lo{id:Nat}{c:Code}(h:CW P n c {Q with ext:=(id,Q.nrm)::Q.ext} L w):CW P n (.block id c) Q L w:=λ a ha=>
 wp_block (RF (h a ha) λ e a' w' q=>by
  cases e with
  |exit id'=>
   obtain⟨L',hL,hc⟩:=q;simp only[iB]at hc;simp only[Exit.inBlock];by_cases hid:id'=id
   ·subst hid;rw[Ow J]at hc⊢;exact⟨L',hL,hc⟩
   ·rw[OB hid];rw[OB (λ e=>hid e.symm)]at hc;exact⟨L',hL,hc⟩
  |normal=>exact q
  |ret=>exact q
  |goto l=>exact q
  |panic c=>exact q
  |outgrown=>exact q)
def CW.ML{c:Code}{α:Type}(K:α->aA)(I:α->World->Prop)(μ:α->Nat)(x₀:α)(h0:Weak (K x₀) L)(hI:I x₀ w)
  (round:∀ x w,I x w->CW P n c {Q with nrm:=λ L' w'=>∃ x',Weak (K x') L'/\I x' w'/\μ x'<μ x} (K x) w):CW P n (.loop c) Q L w:=λ a ha=>by
 refine wp_loop_ghost (λ m a w=>∃ x,Fits n (K x) a/\I x w/\μ x=m) (μ x₀) ⟨x₀,ha.weaken h0,hI,J⟩ ?_;rintro m a w ⟨x,hF,hx,rfl⟩;refine RF (round x w hx a hF) λ e a' w' q=>?_;cases e with
 |normal=>
  obtain⟨L',hL,x',hw',hI',hlt⟩:=q;exact⟨μ x',hlt,x',hL.weaken hw',hI',J⟩
 |ret=>exact q
 |exit id=>exact q
 |goto l=>exact q
 |panic c=>exact q
 |outgrown=>exact q
end
def RQ(n:Nat)(K:aA->World->Prop):Exit->Act->World->Prop
 | .normal,a,w=>∃ L,Fits n L a/\K L w
 |_,_,_=>False
def RT(P:Program)(n:Nat)(ops:List Oper)(l:List Oper)(K:aA->World->Prop)(L:aA)(w:World):Prop:=
 ∀ a,Fits n L a->wpList P ops.toArray (RQ n K) l a w
def Ev(P:Program)(n:Nat)(L:aA)(w:World)(o:Oper)(v:Value):Prop:=
 ∀ a,Fits n L a->(execOp a.eval o).run P w= .ok (.value v) w
def OpE(P:Program)(n:Nat)(L:aA)(w:World)(o:Oper)(K:Value->World->Prop):Prop:=
 ∀ a,Fits n L a->∀ (next:Act->World->Prop) (Q:Exit->Act->World->Prop),(∀ v w',K v w'->next (a.put o.dst v) w')->o.wp P a w next Q
def putK(d:Option Nat)(v:Value)(L:aA):aA:=
 match d with
 |some t=>(t,v)::L
 |none=>L
def bI(n:Nat):Option Nat->Bool
 |some t=>Nat.ble (t+1) n
 |none=>true
theorem Fits.putK{n:Nat}{L:aA}{a:Act}(h:Fits n L a){d:Option Nat}{v:Value}(hd:bI n d=true):Fits n (Kw.putK d v L) (a.put d v):=by
 cases d with
 |none=>exact h
 |some t=>exact h.put (Pk hd)
def uS(ops:List Oper)(j:Nat):Option Nat:=
 match ops[j]? with
 |some o=>o.dst
 |none=>none
def Fits.yielded{n:Nat}{L:aA}{a:Act}(h:Fits n L a){ops:List Oper}{j d:Nat}{b:Bool}(hj:uS ops j=some d)(hd:look L d=some (.bool b)):Go.yielded ops.toArray a.tmps j=some b:=by
 have h1:=h.slot d _ hd;unfold uS at hj;unfold Go.yielded;cases ho:ops[j]? with
 |none=>simp[ho]at hj
 |some o=>simp only[ho]at hj;simp[ho,hj,h1]
def Fits.x7{n:Nat}{L:aA}{a:Act}(h:Fits n L a){ops:List Oper}{j d:Nat}(hj:uS ops j=some d)(hd:look L d=some undef):Go.yielded ops.toArray a.tmps j=none:=by
 have h1:=h.slot d _ hd;unfold uS at hj;unfold Go.yielded;cases ho:ops[j]? with
 |none=>simp[ho]at hj
 |some o=>simp only[ho]at hj;simp[ho,hj,h1,undef]
section
variable {P:Program} {n:Nat} {Q:Qs} {L:aA} {w:World} {K:aA->World->Prop} {ops:List Oper}
def RQ.lift{n:Nat}{Q:Qs}:∀ e a w,RQ n Q.nrm e a w->LX n Q e a w:=λ e a w h=>by
 cases e<;>first|exact h|exact(h:False).elim
def CW.Ii{id:Nat}{l:List Oper}(h:RT P n l l Q.nrm L w):CW P n (.region id l.toArray false) Q L w:=λ a ha=>
 RF (wp_region_list (by simpa using h a ha)) RQ.lift
theorem RT.nil(h:K L w):RT P n ops [] K L w:=λ _ ha=>wpList_nil ⟨L,ha,h⟩
theorem RT.ev{o:Oper}{r:List Oper}{v:Value}(hg:o.guard=none)(hd:bI n o.dst=true)(he:Ev P n L w o v)(h:RT P n ops r K (putK o.dst v L) w):RT P n ops (o::r) K L w:=λ a ha=>by
 refine wpList_plain hg λ K' hK=>?_;simp only[Oper.wp,he a ha,Oper.upon];exact hK _ _ (h _ (ha.putK hd))
def iC(n:Nat)(o:Oper):Bool:=o.guard.isNone&&bI n o.dst
def dO{n:Nat}{o:Oper}(h:iC n o=true):o.guard=none:=by
 unfold iC at h;simp only[OK,QJ]at h;exact h.1
def dP{n:Nat}{o:Oper}(h:iC n o=true):bI n o.dst=true:=by
 unfold iC at h;simp only[OK]at h;exact h.2
def fL(n:Nat)(ops:List Oper)(i:Nat):Option Oper:=match ops[i]? with
 |some o=>cond (iC n o) (some o) none
 |none=>none
def cW{n:Nat}{ops:List Oper}{i:Nat}{o:Oper}(h:fL n ops i=some o):ops[i]? =some o/\iC n o=true:=by
 unfold fL at h;cases hq:ops[i]? with
 |none=>rw[hq]at h;cases h
 |some q=>
  rw[hq]at h;cases hp:iC n q with
  |false=>simp[hp]at h
  |true=>simp[hp]at h;subst h;exact⟨J,hp⟩
theorem RT.e{o:Oper}{r:List Oper}{v:Value}(hg:iC n o=true)(he:Ev P n L w o v)(h:RT P n ops r K (putK o.dst v L) w):RT P n ops (o::r) K L w:=RT.ev (dO hg) (dP hg) he h
theorem RT.FN{o:Oper}{r:List Oper}(hg:o.guard=none)(hd:bI n o.dst=true)(he:OpE P n L w o λ v w'=>RT P n ops r K (putK o.dst v L) w'):RT P n ops (o::r) K L w:=λ a ha=>
 wpList_plain hg λ _ hK=>he a ha _ _ λ _ _ h=>hK _ _ (h _ (ha.putK hd))
theorem RT.f{o:Oper}{r:List Oper}(hg:iC n o=true)(he:OpE P n L w o λ v w'=>RT P n ops r K (putK o.dst v L) w'):RT P n ops (o::r) K L w:=RT.FN (dO hg) (dP hg) he
theorem RT.yes{o:Oper}{r:List Oper}{j d:Nat}{b b':Bool}(hg:o.guard=some (j,b))(hj:uS ops j=some d)(hb:look L d=some (.bool b'))(hbb:b'=b)
  (h:RT P n ops ({o with guard:=none}::r) K L w):RT P n ops (o::r) K L w:=λ a ha=>by
 subst hbb;have h':=h a ha;unfold wpList at h'⊢;have:Region.wanted o (yielded ops.toArray a.tmps)=true:=by simp[Region.wanted,hg,ha.yielded hj hb]
 have h2:Region.wanted {o with guard:=none} (yielded ops.toArray a.tmps)=true:=by simp[Region.wanted]
 simp only[this,h2,Qa]at h'⊢;exact h'
theorem RT.no{o:Oper}{r:List Oper}{j d:Nat}{b b':Bool}(hg:o.guard=some (j,b))(hj:uS ops j=some d)(hb:look L d=some (.bool b'))(hne:b'= !b)(hd:bI n o.dst=true)
  (h:RT P n ops r K (putK o.dst undef L) w):RT P n ops (o::r) K L w:=λ a ha=>by
 have:Region.wanted o (yielded ops.toArray a.tmps)=false:=by
  simp only[Region.wanted,hg,ha.yielded hj hb];subst hne;cases b<;>simp
 exact wpList_skip this (h _ (ha.putK hd))
def RT.Oq{o:Oper}{r:List Oper}{j d:Nat}{b:Bool}(hg:o.guard=some (j,b))(hj:uS ops j=some d)(hb:look L d=some undef)(hd:bI n o.dst=true)
  (h:RT P n ops r K (putK o.dst undef L) w):RT P n ops (o::r) K L w:=λ a ha=>
 wpList_skip (by simp only[Region.wanted,hg,ha.x7 hj hb];rfl) (h _ (ha.putK hd))
def cy(b:Option Nat)(S1 S2:World->Prop)(l:Array Bool)(w:World):Prop:=
 match b with
 |none=>S2 w
 |some b=>if l.getD b true=true then S2 w else S1 w
def iD(P:Program)(ops:Array Oper)(Q:Exit->Act->World->Prop)(b:Option Nat)(S1 S2:World->Prop):Nat->Array Bool->Act->World->Prop
 |0,listed,a,w=>Region.ready .any ops listed=[]/\Q .normal a w
 |fuel+1,listed,a,w=>
  (Region.ready .any ops listed=[]->Q .normal a w)/\
  ∀ i∈Region.ready .any ops listed,wpOp P ops Q i (λ a' w'=>cy b S1 S2 (listed.setIfInBounds i true) w'/\iD P ops Q b S1 S2 fuel (listed.setIfInBounds i true) a' w') a w
def kX{P:Program}{ops:Array Oper}{Q:Exit->Act->World->Prop}{b:Option Nat}{S1 S2:World->Prop}:∀ (fuel:Nat) (listed:Array Bool) (a:Act) (w:World),iD P ops Q b S1 S2 fuel listed a w->wpAny P .any ops Q fuel listed a w
 |0,_,_,_,h=>h
 |fuel+1,_,_,_,h=>⟨h.1,λ i hi=>Qx (λ a' w' h'=>kX fuel _ a' w' h'.2) (h.2 i hi)⟩
def uU{P:Program}{ops:Array Oper}{Q:Exit->Act->World->Prop}{b:Option Nat}{S1 S2:World->Prop}{listed:Array Bool}{a:Act}{w:World}(hr:Region.ready .any ops listed=[])(h:Q .normal a w):
  ∀ fuel,iD P ops Q b S1 S2 fuel listed a w
 |0=>⟨hr,h⟩
 |_+1=>⟨λ _=>h,by rw[hr];simp⟩
def fM{P:Program}{ops:Array Oper}{Q:Exit->Act->World->Prop}{b:Option Nat}{S1 S2 T:World->Prop}{i:Nat}{oi:Oper}{v:Value}(hi:ops[i]? =some oi)(hsel:∀ (j:Nat) (o:Oper) cs b,ops[j]? =some o->o.op≠.select cs b)
  (hQ:∀ c a w,Q (.panic c) (a.put oi.dst v) w->Q (.panic c) a w) (I:Array Bool->Prop)
  (hI:∀ l j oj,I l->ops[j]? =some oj->j≠i->(∀ e∈oj.after,Region.binds .any e=true->e.on≠i)->I (l.setIfInBounds j true))
  (hT:∀ l w,I l->cy b S1 S2 l w->T w) (hc:∀ l w,I l->(cy b S1 S2 (l.setIfInBounds i true) w↔cy b S1 S2 l w)):
  ∀ (fuel:Nat) (listed:Array Bool) (a:Act) (w:World),I listed->
   (∀ j oj,ops[j]? =some oj->j≠i->listed.getD j true=false->(∀ e∈oj.after,Region.binds .any e=true->e.on≠i)->oi.apart ops oj=true)->
   i∈Region.ready .any ops listed->YieldsIf P ops T oi v a->cy b S1 S2 listed w->
   iD P ops Q b S1 S2 fuel (listed.setIfInBounds i true) (a.put oi.dst v) w->iD P ops Q b S1 S2 (fuel+1) listed a w:=by
 intro fuel;induction fuel with
 |zero=>
  intro listed a w hIl _ hr hy hS H;refine⟨λ h=>(by rw[h]at hr;cases hr),λ j hj=>?_⟩;by_cases hji:j=i
  ·subst hji;exact hy.wpOp hi (hT _ _ hIl hS) ⟨(hc _ _ hIl).2 hS,H⟩
  ·have:=ready_mono hj hji;rw[H.1]at this;cases this
 |succ fuel ih=>
  intro listed a w hIl hfree hr hy hS H;refine⟨λ h=>(by rw[h]at hr;cases hr),λ j hj=>?_⟩;by_cases hji:j=i
  ·subst hji;exact hy.wpOp hi (hT _ _ hIl hS) ⟨(hc _ _ hIl).2 hS,H⟩
  ·have h1:=H.2 j (ready_mono hj hji);obtain⟨hjun,oj,hoj,hall⟩:=mem_ready.1 hj;have hnot:∀ e∈oj.after,Region.binds .any e=true->e.on≠i:=λ e he hb heq=>by
    have h1:=hall e he hb;have h0:=(mem_ready.1 hr).1;rw[heq]at h1;rcases OI i listed.size with h'|h'
    ·simp[h']at h0 h1;rw[h0]at h1;cases h1
    ·simp[QV h']at h1
   have h2:=wpOp_putIf hoj (hfree j oj hoj hji hjun hnot) (λ cs b=>hsel i oi cs b hi) (λ cs b=>hsel j oj cs b hoj) hQ hy h1;have hfree':∀ k ok,ops[k]? =some ok->k≠i->(listed.setIfInBounds j true).getD k true=false->
     (∀ e∈ok.after,Region.binds .any e=true->e.on≠i)->oi.apart ops ok=true:=λ k ok hk hki hun hno=>by
    refine hfree k ok hk hki ?_ hno;by_cases hjk:j=k
    ·subst hjk;exact hjun
    ·rw[QK true hjk]at hun;exact hun
   have hIj:=hI listed j oj hIl hoj hji hnot;refine Qx (λ a' w' h3=>?_) h2;have h4:=h3.2.1;rw[Array.setIfInBounds_comm _ _ (Ne.symm hji)]at h4;have hTw:=(hc _ _ hIj).1 h4;refine⟨hTw,ih (listed.setIfInBounds j true) a' w' hIj hfree' (ready_mono hr (Ne.symm hji)) h3.1 hTw ?_⟩;rw[Array.setIfInBounds_comm _ _ hji];exact h3.2.2
inductive Plan where
 |fin
 |free (i:Nat) (p:Plan)
 |loose (i:Nat) (p:Plan)
 |one (i:Nat) (p:Plan)
 |bar (i:Nat) (p:Plan)
 |two (i j:Nat) (p q:Plan)
 |three (i j k:Nat) (p q r:Plan)
def Plan.fB:Plan->Option Nat
 | .fin=>none
 | .free _ p| .one _ p| .loose _ p=>p.fB
 | .bar i _=>some i
 | .two _ _ p _=>p.fB
 | .three _ _ _ _ _ _=>none
def uV(ops:Array Oper)(i:Nat):Option Nat->Bool
 |none=>true
 |some b=>(i !=b)&&(match ops[b]? with|some o=>o.after.any λ e=>Region.binds .any e&&e.on==i|none=>false)
def Plan.ok(ops:Array Oper):Plan->Array Bool->Bool
 | .fin,l=>(Region.ready .any ops l).isEmpty
 | .free i p,l=>Region.free .any ops l i&&(Region.ready .any ops l).contains i&&uV ops i p.fB&&p.ok ops (l.setIfInBounds i true)
 | .loose i p,l=>Region.free .any ops l i&&(Region.ready .any ops l).contains i&&p.fB !=some i&&p.ok ops (l.setIfInBounds i true)
 | .one i p,l=>Region.ready .any ops l==[i]&&p.fB !=some i&&p.ok ops (l.setIfInBounds i true)
 | .bar i p,l=>Region.ready .any ops l==[i]&&p.fB.isNone&&p.ok ops (l.setIfInBounds i true)
 | .two i j p q,l=>Region.ready .any ops l==[i,j]&&p.fB==q.fB&&p.fB !=some i&&p.fB !=some j&&p.ok ops (l.setIfInBounds i true)&&q.ok ops (l.setIfInBounds j true)
 | .three i j k p q r,l=>Region.ready .any ops l==[i,j,k]&&p.fB.isNone&&q.fB.isNone&&r.fB.isNone&&p.ok ops (l.setIfInBounds i true)&&q.ok ops (l.setIfInBounds j true)&&r.ok ops (l.setIfInBounds k true)
def Plan.depth:Plan->Nat
 | .fin=>0
 | .free _ p| .one _ p| .bar _ p| .loose _ p=>p.depth+1
 | .two _ _ p q=>max p.depth q.depth+1
 | .three _ _ _ p q r=>max (max p.depth q.depth) r.depth+1
def C7:List (World->Prop)->World->Prop
 |[]=>λ _=>True
 |S::_=>S
def planWp(P:Program)(n:Nat)(ops:List Oper)(K:aA->World->Prop):List (World->Prop)->Plan->Act->World->Prop
 |_,.fin,a,w=>RQ n K .normal a w
 |S,.free i p,a,w=>∃ o v,ops[i]? =some o/\YieldsIf P ops.toArray (C7 S) o v a/\C7 S w/\planWp P n ops K S p (a.put o.dst v) w
 |S,.loose i p,a,w=>∃ o v,ops[i]? =some o/\YieldsIf P ops.toArray (C7 S.tail) o v a/\C7 S w/\planWp P n ops K S p (a.put o.dst v) w
 |S,.one i p,a,w=>wpOp P ops.toArray (RQ n K) i (λ a' w'=>∃ T:World->Prop,(∀ u,T u->C7 S u)/\T w'/\planWp P n ops K (T::S.tail) p a' w') a w
 |S,.bar i p,a,w=>wpOp P ops.toArray (RQ n K) i (λ a' w'=>C7 S.tail w'/\planWp P n ops K S.tail p a' w') a w
 |S,.two i j p q,a,w=>wpOp P ops.toArray (RQ n K) i (λ a' w'=>∃ T:World->Prop,(∀ u,T u->C7 S u)/\T w'/\planWp P n ops K (T::S.tail) p a' w') a w/\wpOp P ops.toArray (RQ n K) j (λ a' w'=>∃ T:World->Prop,(∀ u,T u->C7 S u)/\T w'/\planWp P n ops K (T::S.tail) q a' w') a w
 |S,.three i j k p q r,a,w=>wpOp P ops.toArray (RQ n K) i (λ a' w'=>∃ T:World->Prop,(∀ u,T u->C7 S u)/\T w'/\planWp P n ops K (T::S.tail) p a' w') a w/\wpOp P ops.toArray (RQ n K) j (λ a' w'=>∃ T:World->Prop,(∀ u,T u->C7 S u)/\T w'/\planWp P n ops K (T::S.tail) q a' w') a w/\wpOp P ops.toArray (RQ n K) k (λ a' w'=>∃ T:World->Prop,(∀ u,T u->C7 S u)/\T w'/\planWp P n ops K (T::S.tail) r a' w') a w
def xO{b:Option Nat}{S1 S2 T1 T2:World->Prop}(h1:∀ u,T1 u->S1 u)(h2:∀ u,T2 u->S2 u){l:Array Bool}{w:World}(h:cy b T1 T2 l w):cy b S1 S2 l w:=by
 cases b with
 |none=>exact h2 w h
 |some b=>
  simp only[cy]at h⊢;by_cases q:l.getD b true=true
  ·rw[Ow q]at h⊢;exact h2 w h
  ·rw[OB q]at h⊢;exact h1 w h
def cw{P:Program}{ops:Array Oper}{Q:Exit->Act->World->Prop}{b:Option Nat}{S1 S2 T1 T2:World->Prop}(h1:∀ u,T1 u->S1 u)(h2:∀ u,T2 u->S2 u):∀ (fuel:Nat) (l:Array Bool) (a:Act) (w:World),iD P ops Q b T1 T2 fuel l a w->iD P ops Q b S1 S2 fuel l a w
 |0,_,_,_,h=>h
 |fuel+1,_,_,_,h=>⟨h.1,λ i hi=>Qx (λ a' w' h'=>⟨xO h1 h2 h'.1,cw h1 h2 fuel _ a' w' h'.2⟩) (h.2 i hi)⟩
def gS{l:Array Bool}{i:Nat}:(l.setIfInBounds i true).getD i true=true:=by
 by_cases h:i<l.size<;>simp[h]
def bh{l:Array Bool}{i j:Nat}(h:l.getD j true=true):(l.setIfInBounds i true).getD j true=true:=by
 by_cases hij:i=j
 ·subst hij;exact gS
 ·rw[QK true hij];exact h
def planWp.hJ{S1:World->Prop}{b:Option Nat}(hsel:Region.noSelect ops.toArray=true):∀ (S2:World->Prop) (S:List (World->Prop)),C7 S=S2->S.tail=[]->∀ (p:Plan) (l:Array Bool) (fuel:Nat) (a:Act) (w:World),p.fB=none->(∀ b0,b=some b0->l.getD b0 true=true)->p.ok ops.toArray l=true->p.depth<=fuel->
  planWp P n ops K S p a w->iD P ops.toArray (RQ n K) b S1 S2 fuel l a w
 |S2,S,hS,hS2,.fin,l,fuel,a,w,_,_,hok,_,h=>uU (by simpa[Plan.ok]using hok) h fuel
 |S2,S,hS,hS2,.free i p,l,fuel+1,a,w,hb,hl,hok,hd,h=>by
  obtain⟨o,v,ho,hy,hw,hp⟩:=h;simp only[Plan.ok,OK]at hok;rw[hS]at hy hw;have hI:∀ l w,(∀ b0,b=some b0->l.getD b0 true=true)->(cy b S1 S2 l w↔S2 w):=λ l w h=>by
   cases b with
   |none=>rfl
   |some b=>simp only[cy,h b J,Qa]
  have hI2:∀ l w,(∀ b0,b=some b0->l.getD b0 true=true)->(cy b S1 S2 (l.setIfInBounds i true) w↔cy b S1 S2 l w):=λ l w h=>(hI _ w λ b0 e=>bh (h b0 e)).trans (hI l w h).symm;exact fM (T:=S2) (by simpa using ho) (R2 hsel) (λ _ _ _ h=>h) (λ l=>∀ b0,b=some b0->l.getD b0 true=true) (λ l j oj h _ _ _ b0 e=>bh (h b0 e)) (λ l w h h'=>(hI l w h).1 h')
   hI2 fuel l a w hl (Rz (by simpa using ho) hok.1.1.1) (by simpa using hok.1.1.2) hy ((hI l w hl).2 hw)
   (planWp.hJ hsel S2 S hS hS2 p _ fuel _ w hb (λ b0 e=>bh (hl b0 e)) hok.2 (by simpa[Plan.depth]using hd) hp)
 |S2,S,hS,hS2,.loose i p,l,fuel+1,a,w,hb,hl,hok,hd,h=>by
  obtain⟨o,v,ho,hy,hw,hp⟩:=h;simp only[Plan.ok,OK]at hok;rw[hS]at hw;rw[hS2]at hy;have hI:∀ l w,(∀ b0,b=some b0->l.getD b0 true=true)->(cy b S1 S2 l w↔S2 w):=λ l w h=>by
   cases b with
   |none=>rfl
   |some b=>simp only[cy,h b J,Qa]
  have hI2:∀ l w,(∀ b0,b=some b0->l.getD b0 true=true)->(cy b S1 S2 (l.setIfInBounds i true) w↔cy b S1 S2 l w):=λ l w h=>(hI _ w λ b0 e=>bh (h b0 e)).trans (hI l w h).symm;exact fM (T:=λ _=>True) (by simpa using ho) (R2 hsel) (λ _ _ _ h=>h) (λ l=>∀ b0,b=some b0->l.getD b0 true=true) (λ l j oj h _ _ _ b0 e=>bh (h b0 e)) (λ l w h h'=>trivial)
   hI2 fuel l a w hl (Rz (by simpa using ho) hok.1.1.1) (by simpa using hok.1.1.2) hy ((hI l w hl).2 hw)
   (planWp.hJ hsel S2 S hS hS2 p _ fuel _ w hb (λ b0 e=>bh (hl b0 e)) hok.2 (by simpa[Plan.depth]using hd) hp)
 |S2,S,hS,hS2,.one i p,l,fuel+1,a,w,hb,hl,hok,hd,h=>by
  simp only[Plan.ok,OK,Qd]at hok;refine⟨λ h0=>absurd (hok.1.1▸h0) (by simp),λ j hj=>?_⟩;rw[hok.1.1]at hj;simp only[OF]at hj;subst hj;refine Qx (λ a' w' h'=>?_) h;obtain⟨T,hT,hTw,hp⟩:=h';rw[hS]at hT;refine⟨?_,cw (λ _ h=>h) hT _ _ _ _ (planWp.hJ hsel T (T::S.tail) J hS2 p _ fuel a' w' hb (λ b0 e=>bh (hl b0 e)) hok.2 (by simpa[Plan.depth]using hd) hp)⟩;have:=hT _ hTw;cases b with
  |none=>exact this
  |some b=>simp only[cy,bh (hl b J),Qa];exact this
 |S2,S,hS,hS2,.two i j p q,l,fuel+1,a,w,hb,hl,hok,hd,h=>by
  simp only[Plan.fB]at hb;simp only[Plan.ok,OK,Qd]at hok;obtain⟨⟨⟨⟨⟨hr,hpq⟩,_⟩,_⟩,hop⟩,hoq⟩:=hok;simp only[Plan.depth]at hd;refine⟨λ h0=>absurd (hr▸h0) (by simp),λ k hk=>?_⟩;rw[hr]at hk;simp only[LD,KY,OE]at hk;have hc:∀ k w',S2 w'->cy b S1 S2 (l.setIfInBounds k true) w':=λ k w' h'=>by
   cases b with
   |none=>exact h'
   |some b=>simp only[cy,bh (hl b J),Qa];exact h'
  rcases hk with rfl|rfl
  ·exact Qx (λ a' w' ⟨T,hT,hTw,hp⟩=>⟨hc _ _ (hS▸hT _ hTw),cw (λ _ h=>h) (hS▸hT) _ _ _ _ (planWp.hJ hsel T (T::S.tail) J hS2 p _ fuel a' w' hb (λ b0 e=>bh (hl b0 e)) hop (by omega) hp)⟩) h.1
  ·exact Qx (λ a' w' ⟨T,hT,hTw,hp⟩=>⟨hc _ _ (hS▸hT _ hTw),cw (λ _ h=>h) (hS▸hT) _ _ _ _ (planWp.hJ hsel T (T::S.tail) J hS2 q _ fuel a' w' (hpq▸hb) (λ b0 e=>bh (hl b0 e)) hoq (by omega) hp)⟩) h.2
 |S2,S,hS,hS2,.three i j m p q r,l,fuel+1,a,w,hb,hl,hok,hd,h=>by
  simp only[Plan.ok,OK,Qd,QJ]at hok;obtain⟨⟨⟨⟨⟨⟨hr,hbp⟩,hbq⟩,hbr⟩,hop⟩,hoq⟩,hor⟩:=hok;simp only[Plan.depth]at hd;refine⟨λ h0=>absurd (hr▸h0) (by simp),λ k hk=>?_⟩;rw[hr]at hk;simp only[LD,KY,OE]at hk;have hc:∀ k w',S2 w'->cy b S1 S2 (l.setIfInBounds k true) w':=λ k w' h'=>by
   cases b with
   |none=>exact h'
   |some b=>simp only[cy,bh (hl b J),Qa];exact h'
  rcases hk with rfl|rfl|rfl
  ·exact Qx (λ a' w' ⟨T,hT,hTw,hp⟩=>⟨hc _ _ (hS▸hT _ hTw),cw (λ _ h=>h) (hS▸hT) _ _ _ _ (planWp.hJ hsel T (T::S.tail) J hS2 p _ fuel a' w' hbp (λ b0 e=>bh (hl b0 e)) hop (by omega) hp)⟩) h.1
  ·exact Qx (λ a' w' ⟨T,hT,hTw,hp⟩=>⟨hc _ _ (hS▸hT _ hTw),cw (λ _ h=>h) (hS▸hT) _ _ _ _ (planWp.hJ hsel T (T::S.tail) J hS2 q _ fuel a' w' hbq (λ b0 e=>bh (hl b0 e)) hoq (by omega) hp)⟩) h.2.1
  ·exact Qx (λ a' w' ⟨T,hT,hTw,hp⟩=>⟨hc _ _ (hS▸hT _ hTw),cw (λ _ h=>h) (hS▸hT) _ _ _ _ (planWp.hJ hsel T (T::S.tail) J hS2 r _ fuel a' w' hbr (λ b0 e=>bh (hl b0 e)) hor (by omega) hp)⟩) h.2.2
 |S2,S,hS,hS2,.bar i p,l,fuel,a,w,hb,_,_,_,_=>by simp[Plan.fB]at hb
 |S2,S,hS,hS2,.free i p,l,0,_,_,_,_,_,hd,_=>by simp[Plan.depth]at hd
 |S2,S,hS,hS2,.one i p,l,0,_,_,_,_,_,hd,_=>by simp[Plan.depth]at hd
 |S2,S,hS,hS2,.loose i p,l,0,_,_,_,_,_,hd,_=>by simp[Plan.depth]at hd
 |S2,S,hS,hS2,.two i j p q,l,0,_,_,_,_,_,hd,_=>by simp[Plan.depth]at hd
 |S2,S,hS,hS2,.three i j k p q r,l,0,_,_,_,_,_,hd,_=>by simp[Plan.depth]at hd
def planWp.nW{S2:World->Prop}{b:Nat}(hsel:Region.noSelect ops.toArray=true):∀ (S1:World->Prop),(∀ w,S1 w->S2 w)->∀ (p:Plan) (l:Array Bool) (fuel:Nat) (a:Act) (w:World),p.fB=some b->l.getD b true=false->p.ok ops.toArray l=true->p.depth<=fuel->
  planWp P n ops K [S1,S2] p a w->iD P ops.toArray (RQ n K) (some b) S1 S2 fuel l a w
 |S1,h12,.free i p,l,fuel+1,a,w,hb,hl,hok,hd,h=>by
  obtain⟨o,v,ho,hy,hw,hp⟩:=h;simp only[Plan.fB]at hb;simp only[Plan.ok,OK,hb,uV]at hok;have hib:i≠b:=by simpa using hok.1.2.1
  have hbi:∃ ob,ops.toArray[b]? =some ob/\∃ e∈ob.after,Region.binds .any e=true/\e.on=i:=by
   have h2:=hok.1.2.2;cases hob:ops.toArray[b]? with
   |none=>rw[hob]at h2;cases h2
   |some ob=>
    rw[hob]at h2;obtain⟨e,he,h3⟩:=Array.any_eq_true'.1 h2;simp only[OK,Qd]at h3;exact⟨ob,J,e,he,h3.1,h3.2⟩
  obtain⟨ob,hob,e,he,hbe,hei⟩:=hbi;have hT:∀ l w,l.getD b true=false->(cy (some b) S1 S2 l w↔S1 w):=λ l w h=>by
   simp only[cy,h,Pm,Py]
  exact fM (T:=S1) (by simpa using ho) (R2 hsel) (λ _ _ _ h=>h) (λ l=>l.getD b true=false)
   (λ l j oj h hoj hji hno=>by
    have hjb:j≠b:=λ e2=>by subst e2;rw[hob]at hoj;cases hoj;exact hno e he hbe hei
    rw[QK true hjb];exact h)
   (λ l w h=>(hT l w h).1) (λ l w h=>by simp only[cy,QK true hib]) fuel l a w hl (Rz (by simpa using ho) hok.1.1.1) (by simpa using hok.1.1.2) hy ((hT l w hl).2 hw)
   (planWp.nW hsel S1 h12 p _ fuel _ w hb (by rw[QK true hib];exact hl) hok.2 (by simpa[Plan.depth]using hd) hp)
 |S1,h12,.loose i p,l,fuel+1,a,w,hb,hl,hok,hd,h=>by
  obtain⟨o,v,ho,hy,hw,hp⟩:=h;simp only[Plan.fB]at hb;simp only[Plan.ok,OK,hb]at hok;have hib:i≠b:=λ e=>by have:=hok.1.2;subst e;simp at this
  exact fM (T:=S2) (by simpa using ho) (R2 hsel) (λ _ _ _ h=>h) (λ _=>True) (λ _ _ _ _ _ _ _=>trivial)
   (λ l w _ h=>by
    simp only[cy]at h;by_cases hq:l.getD b true=true
    ·rw[Ow hq]at h;exact h
    ·rw[OB hq]at h;exact h12 _ h) (λ l w h=>by simp only[cy,QK true hib]) fuel l a w trivial (Rz (by simpa using ho) hok.1.1.1) (by simpa using hok.1.1.2) hy
   (by simp only[cy,hl,Pm,Py];exact hw)
   (planWp.nW hsel S1 h12 p _ fuel _ w hb (by rw[QK true hib];exact hl) hok.2 (by simpa[Plan.depth]using hd) hp)
 |S1,h12,.one i p,l,fuel+1,a,w,hb,hl,hok,hd,h=>by
  simp only[Plan.fB]at hb;simp only[Plan.ok,OK,Qd,hb]at hok;have hib:i≠b:=λ e=>by have:=hok.1.2;subst e;simp at this
  refine⟨λ h0=>absurd (hok.1.1▸h0) (by simp),λ j hj=>?_⟩;rw[hok.1.1]at hj;simp only[OF]at hj;subst hj;have hl2:(l.setIfInBounds j true).getD b true=false:=by rw[QK true hib];exact hl
  exact Qx (λ a' w' ⟨T,hT,hTw,hp⟩=>⟨by simp only[cy,hl2,Pm,Py];exact hT _ hTw,cw hT (λ _ h=>h) _ _ _ _ (planWp.nW hsel T (λ w h=>h12 w (hT w h)) p _ fuel a' w' hb hl2 hok.2 (by simpa[Plan.depth]using hd) hp)⟩) h
 |S1,h12,.bar i p,l,fuel+1,a,w,hb,hl,hok,hd,h=>by
  simp only[Plan.fB,PJ]at hb;subst hb;simp only[Plan.ok,OK,Qd,QJ]at hok;refine⟨λ h0=>absurd (hok.1.1▸h0) (by simp),λ j hj=>?_⟩;rw[hok.1.1]at hj;simp only[OF]at hj;subst hj;exact Qx (λ a' w' h'=>⟨by simp only[cy,gS,Qa];exact h'.1,
   planWp.hJ hsel S2 [S2] J J p _ fuel a' w' hok.1.2 (λ b0 e=>by cases e;exact gS) hok.2 (by simpa[Plan.depth]using hd) h'.2⟩) h
 |S1,h12,.fin,l,fuel,a,w,hb,_,_,_,_=>by simp[Plan.fB]at hb
 |S1,h12,.two i j p q,l,fuel+1,a,w,hb,hl,hok,hd,h=>by
  simp only[Plan.fB]at hb;simp only[Plan.ok,OK,Qd,hb]at hok;obtain⟨⟨⟨⟨⟨hr,hpq⟩,hni⟩,hnj⟩,hop⟩,hoq⟩:=hok;have hib:i≠b:=λ e=>by subst e;simp at hni
  have hjb:j≠b:=λ e=>by subst e;simp at hnj
  simp only[Plan.depth]at hd;refine⟨λ h0=>absurd (hr▸h0) (by simp),λ k hk=>?_⟩;rw[hr]at hk;simp only[LD,KY,OE]at hk;have hl2:∀ k,k≠b->(l.setIfInBounds k true).getD b true=false:=λ k hk=>by rw[QK true hk];exact hl
  rcases hk with rfl|rfl
  ·exact Qx (λ a' w' ⟨T,hT,hTw,hp⟩=>⟨by simp only[cy,hl2 _ hib,Pm,Py];exact hT _ hTw,cw hT (λ _ h=>h) _ _ _ _ (planWp.nW hsel T (λ w h=>h12 w (hT w h)) p _ fuel a' w' hb (hl2 _ hib) hop (by omega) hp)⟩) h.1
  ·exact Qx (λ a' w' ⟨T,hT,hTw,hp⟩=>⟨by simp only[cy,hl2 _ hjb,Pm,Py];exact hT _ hTw,cw hT (λ _ h=>h) _ _ _ _ (planWp.nW hsel T (λ w h=>h12 w (hT w h)) q _ fuel a' w' hpq.symm (hl2 _ hjb) hoq (by omega) hp)⟩) h.2
 |S1,h12,.free i p,l,0,_,_,_,_,_,hd,_=>by simp[Plan.depth]at hd
 |S1,h12,.one i p,l,0,_,_,_,_,_,hd,_=>by simp[Plan.depth]at hd
 |S1,h12,.loose i p,l,0,_,_,_,_,_,hd,_=>by simp[Plan.depth]at hd
 |S1,h12,.bar i p,l,0,_,_,_,_,_,hd,_=>by simp[Plan.depth]at hd
 |S1,h12,.two i j p q,l,0,_,_,_,_,_,hd,_=>by simp[Plan.depth]at hd
 |S1,h12,.three i j k p q r,l,fuel,a,w,hb,_,_,_,_=>by simp[Plan.fB]at hb
def RP(P:Program)(n:Nat)(ops:List Oper)(S:List (World->Prop))(p:Plan)(K:aA->World->Prop)(L:aA)(w:World):Prop:=
 ∀ a,Fits n L a->planWp P n ops K S p a w
def Plan.u9(ops:List Oper)(p:Plan):Bool:=
 p.ok ops.toArray (Array.replicate ops.length false)&&Nat.ble p.depth ops.length&&Region.noSelect ops.toArray&&p.fB.isNone
def Plan.wY(ops:List Oper)(b:Nat)(p:Plan):Bool:=
 p.ok ops.toArray (Array.replicate ops.length false)&&Nat.ble p.depth ops.length&&Region.noSelect ops.toArray&&(p.fB==some b)&&Nat.blt b ops.length
def CW.MR{id:Nat}{l:List Oper}(S:World->Prop)(p:Plan)(hm:P.follows .mixedOrders=true)(hok:p.u9 l=true)
  (h:RP P n l [S] p Q.nrm L w.drew):CW P n (.region id l.toArray true) Q L w:=λ a ha=>by
 simp only[Plan.u9,OK,QJ]at hok;refine RF (wp_region_any hm (kX (b:=none) (S1:=S) (S2:=S) _ _ _ _ ?_)) RQ.lift;have:=planWp.hJ (b:=none) (S1:=S) hok.1.2 S [S] J J p (Array.replicate l.length false) l.length a _ hok.2 (λ _ e=>by cases e) hok.1.1.1 (Pk hok.1.1.2) (h a ha);simpa using this
def CW.Lm{id:Nat}{l:List Oper}(S1 S2:World->Prop)(b:Nat)(p:Plan)(h12:∀ w,S1 w->S2 w)(hm:P.follows .mixedOrders=true)(hok:p.wY l b=true)
  (h:RP P n l [S1,S2] p Q.nrm L w.drew):CW P n (.region id l.toArray true) Q L w:=λ a ha=>by
 simp only[Plan.wY,OK,Qd]at hok;have hb:b<l.length:=by have:=hok.2;simp only[Nat.blt_eq]at this;exact this
 refine RF (wp_region_any hm (kX (b:=some b) (S1:=S1) (S2:=S2) _ _ _ _ ?_)) RQ.lift;have:=planWp.nW (S2:=S2) hok.1.1.2 S1 h12 p (Array.replicate l.length false) l.length a _ hok.1.2 (by simp[hb]) hok.1.1.1.1 (Pk hok.1.1.1.2) (h a ha);simpa using this
variable {S:World->Prop} {SS:List (World->Prop)} {p q:Plan}
theorem RP.fin(h:K L w):RP P n ops SS .fin K L w:=λ _ ha=>⟨L,ha,h⟩
theorem RP.ev{i:Nat}{o:Oper}{v:Value}(ho:ops[i]? =some o)(hg:o.guard=none)(hd:bI n o.dst=true)(he:∀ w',S w'->Ev P n L w' o v)(hS:S w)
  (h:RP P n ops (S::SS) p K (putK o.dst v L) w):RP P n ops (S::SS) (.free i p) K L w:=λ a ha=>
 ⟨o,v,ho,.inl ⟨by simp[Region.wanted,hg],λ w' hw'=>he w' hw' a ha⟩,hS,h _ (ha.putK hd)⟩
theorem RP.e{i:Nat}{o:Oper}{v:Value}(ho:fL n ops i=some o)(he:∀ w',S w'->Ev P n L w' o v)(hS:S w)
  (h:RP P n ops (S::SS) p K (putK o.dst v L) w):RP P n ops (S::SS) (.free i p) K L w:=RP.ev (cW ho).1 (dO (cW ho).2) (dP (cW ho).2) he hS h
def OpE.same{o:Oper}{S:World->Prop}{R:(World->Prop)->Value->World->Prop}{P:Program}{n:Nat}{L:aA}{w:World}(he:OpE P n L w o λ v w'=>S w'/\R S v w'):OpE P n L w o λ v w'=>∃ T:World->Prop,(∀ u,T u->S u)/\T w'/\R T v w':=
 λ a ha next Q hk=>he a ha next Q λ v w' h=>hk v w' ⟨S,λ _ h=>h,h.1,h.2⟩
def iE{i:Nat}{o:Oper}(ho:ops[i]? =some o)(hg:o.guard=none)(hd:bI n o.dst=true)(he:OpE P n L w o λ v w'=>∃ T:World->Prop,(∀ u,T u->S u)/\T w'/\RP P n ops (T::SS) p K (putK o.dst v L) w'){a:Act}(ha:Fits n L a):
  wpOp P ops.toArray (RQ n K) i (λ a' w'=>∃ T:World->Prop,(∀ u,T u->S u)/\T w'/\planWp P n ops K (T::SS) p a' w') a w:=by
 have ho':ops.toArray[i]? =some o:=by simpa using ho
 unfold wpOp;simp only[ho',Region.wanted,hg,Qa];exact .inl (he a ha _ _ λ v w' ⟨T,h1,h2,h3⟩=>⟨T,h1,h2,h3 _ (ha.putK hd)⟩)
def Gw{i:Nat}{o:Oper}(ho:ops[i]? =some o)(hg:o.guard=none)(hd:bI n o.dst=true)(he:OpE P n L w o λ v w'=>S w'/\RP P n ops (S::SS) p K (putK o.dst v L) w'){a:Act}(ha:Fits n L a):
  wpOp P ops.toArray (RQ n K) i (λ a' w'=>S w'/\planWp P n ops K (S::SS) p a' w') a w:=by
 have ho':ops.toArray[i]? =some o:=by simpa using ho
 unfold wpOp;simp only[ho',Region.wanted,hg,Qa];exact .inl (he a ha _ _ λ v w' h=>⟨h.1,h.2 _ (ha.putK hd)⟩)
theorem RP.FN{i:Nat}{o:Oper}(ho:ops[i]? =some o)(hg:o.guard=none)(hd:bI n o.dst=true)(he:OpE P n L w o λ v w'=>S w'/\RP P n ops (S::SS) p K (putK o.dst v L) w'):RP P n ops (S::SS) (.one i p) K L w:=
 λ _ ha=>iE ho hg hd (OpE.same (R:=λ T v w'=>RP P n ops (T::SS) p K (putK o.dst v L) w') he) ha
theorem RP.f{i:Nat}{o:Oper}(ho:fL n ops i=some o)(he:OpE P n L w o λ v w'=>S w'/\RP P n ops (S::SS) p K (putK o.dst v L) w'):RP P n ops (S::SS) (.one i p) K L w:=
 RP.FN (cW ho).1 (dO (cW ho).2) (dP (cW ho).2) he
def RP.two{i j:Nat}{oi oj:Oper}(ho:ops[i]? =some oi)(hg:oi.guard=none)(hd:bI n oi.dst=true)(ho':ops[j]? =some oj)(hg':oj.guard=none)(hd':bI n oj.dst=true)
  (he:OpE P n L w oi λ v w'=>S w'/\RP P n ops (S::SS) p K (putK oi.dst v L) w') (he':OpE P n L w oj λ v w'=>S w'/\RP P n ops (S::SS) q K (putK oj.dst v L) w'):RP P n ops (S::SS) (.two i j p q) K L w:=
 λ _ ha=>⟨iE ho hg hd (OpE.same (R:=λ T v w'=>RP P n ops (T::SS) p K (putK oi.dst v L) w') he) ha,iE ho' hg' hd' (OpE.same (R:=λ T v w'=>RP P n ops (T::SS) q K (putK oj.dst v L) w') he') ha⟩
theorem RP.three{i j k:Nat}{oi oj ok:Oper}{p q r:Plan}(ho:ops[i]? =some oi)(hg:oi.guard=none)(hd:bI n oi.dst=true)(ho':ops[j]? =some oj)(hg':oj.guard=none)(hd':bI n oj.dst=true)(hk:ops[k]? =some ok)(hgk:ok.guard=none)(hdk:bI n ok.dst=true)
  (h1:OpE P n L w oi λ v w'=>S w'/\RP P n ops (S::SS) p K (putK oi.dst v L) w') (h2:OpE P n L w oj λ v w'=>S w'/\RP P n ops (S::SS) q K (putK oj.dst v L) w') (h3:OpE P n L w ok λ v w'=>S w'/\RP P n ops (S::SS) r K (putK ok.dst v L) w'):RP P n ops (S::SS) (.three i j k p q r) K L w:=
 λ _ ha=>⟨iE ho hg hd (OpE.same (R:=λ T v w'=>RP P n ops (T::SS) p K (putK oi.dst v L) w') h1) ha,iE ho' hg' hd' (OpE.same (R:=λ T v w'=>RP P n ops (T::SS) q K (putK oj.dst v L) w') h2) ha,iE hk hgk hdk (OpE.same (R:=λ T v w'=>RP P n ops (T::SS) r K (putK ok.dst v L) w') h3) ha⟩
def RP.C6{i:Nat}{o:Oper}(ho:ops[i]? =some o)(hg:o.guard=none)(hd:bI n o.dst=true)(he:OpE P n L w o λ v w'=>∃ T:World->Prop,(∀ u,T u->S u)/\T w'/\RP P n ops (T::SS) p K (putK o.dst v L) w'):RP P n ops (S::SS) (.one i p) K L w:=
 λ _ ha=>iE ho hg hd he ha
def RP.x8{i j:Nat}{oi oj:Oper}(ho:ops[i]? =some oi)(hg:oi.guard=none)(hd:bI n oi.dst=true)(ho':ops[j]? =some oj)(hg':oj.guard=none)(hd':bI n oj.dst=true)
  (he:OpE P n L w oi λ v w'=>∃ T:World->Prop,(∀ u,T u->S u)/\T w'/\RP P n ops (T::SS) p K (putK oi.dst v L) w') (he':OpE P n L w oj λ v w'=>∃ T:World->Prop,(∀ u,T u->S u)/\T w'/\RP P n ops (T::SS) q K (putK oj.dst v L) w'):RP P n ops (S::SS) (.two i j p q) K L w:=
 λ _ ha=>⟨iE ho hg hd he ha,iE ho' hg' hd' he' ha⟩
def RP.loose{i:Nat}{o:Oper}{v:Value}{S2:World->Prop}(ho:ops[i]? =some o)(hg:o.guard=none)(hd:bI n o.dst=true)(he:∀ w',S2 w'->Ev P n L w' o v)(hS:S w)
  (h:RP P n ops (S::S2::SS) p K (putK o.dst v L) w):RP P n ops (S::S2::SS) (.loose i p) K L w:=λ a ha=>
 ⟨o,v,ho,.inl ⟨by simp[Region.wanted,hg],λ w' hw'=>he w' hw' a ha⟩,hS,h _ (ha.putK hd)⟩
def RP.bar{i:Nat}{o:Oper}{S2:World->Prop}(ho:ops[i]? =some o)(hg:o.guard=none)(hd:bI n o.dst=true)(he:OpE P n L w o λ v w'=>S2 w'/\RP P n ops (S2::SS) p K (putK o.dst v L) w'):RP P n ops (S::S2::SS) (.bar i p) K L w:=
 λ _ ha=>Gw ho hg hd he ha
theorem OpE.ev{o:Oper}{v:Value}{K:Value->World->Prop}(he:Ev P n L w o v)(h:K v w):OpE P n L w o K:=λ a ha _ _ hk=>by
 simp only[Oper.wp,he a ha,Oper.upon];exact hk _ _ h
end
section
variable {P:Program} {n:Nat} {N R:aA->World->Prop} {X G:List (Nat×(aA->World->Prop))} {L:aA} {w:World}
def CW.skip(h:N L w):CW P n .skip ⟨N,R,X,G⟩ L w:=CW.MU h
def CW.ret(h:R L w):CW P n .ret ⟨N,R,X,G⟩ L w:=CW.O3 h
def CW.ak{id:Nat}{M:aA->World->Prop}(h:M L w):CW P n (.exit id) ⟨N,R,(id,M)::X,G⟩ L w:=CW.J5 (by simp only[iB,Ow];exact h)
def xP{E:List (Nat×(aA->World->Prop))}{i id:Nat}{M:aA->World->Prop}(h:(i==id)=false):ko ((i,M)::E) id=ko E id:=by
 rw[iB,OB (by simpa using h)]
def CW.Je{id i1:Nat}{M M1:aA->World->Prop}(h1:(i1==id)=false)(h:M L w):CW P n (.exit id) ⟨N,R,(i1,M1)::(id,M)::X,G⟩ L w:=CW.J5 (by
 show ko _ id L w;rw[xP h1,iB,Ow J];exact h)
def CW.seq{x y:Code}(h:CW P n x ⟨λ L w=>CW P n y ⟨N,R,X,G⟩ L w,R,X,G⟩ L w):CW P n (.seq x y) ⟨N,R,X,G⟩ L w:=CW.NT h
def CW.yr{x y:Code}(M:aA->World->Prop)(h:CW P n x ⟨M,R,X,G⟩ L w)(h2:∀ L' w',M L' w'->CW P n y ⟨N,R,X,G⟩ L' w'):CW P n (.seq x y) ⟨N,R,X,G⟩ L w:=CW.Ic M h h2
theorem CW.oQ{c:Code}(M:aA->World->Prop)(h:CW P n c ⟨M,R,X,G⟩ L w)(h2:∀ L' w',M L' w'->N L' w'):CW P n c ⟨N,R,X,G⟩ L w:=CW.O6 M h h2
def CW.cond{c:Operand}{x y:Code}{b:Bool}(hc:aH L c=some (.bool b))(ht:b=true->CW P n x ⟨N,R,X,G⟩ L w)(hf:b=false->CW P n y ⟨N,R,X,G⟩ L w):CW P n (.cond c x y) ⟨N,R,X,G⟩ L w:=CW.An hc ht hf
def CW.a8{c:Operand}{x y:Code}{p:Prop}{dp:Decidable p}(hc:aH L c=some (.bool (@decide p dp)))(ht:p->CW P n x ⟨N,R,X,G⟩ L w)(hf:¬ p->CW P n y ⟨N,R,X,G⟩ L w):CW P n (.cond c x y) ⟨N,R,X,G⟩ L w:=CW.Lf hc ht hf
def CW.kz{c:Operand}{x y:Code}{b:Bool}(hc:aH L c=some (.bool b))(hb:b=true)(ht:CW P n x ⟨N,R,X,G⟩ L w):CW P n (.cond c x y) ⟨N,R,X,G⟩ L w:=CW.Lg hc hb ht
def CW.az{c:Operand}{x y:Code}{b:Bool}(hc:aH L c=some (.bool b))(hb:b=false)(hf:CW P n y ⟨N,R,X,G⟩ L w):CW P n (.cond c x y) ⟨N,R,X,G⟩ L w:=CW.La hc hb hf
def CW.block{id:Nat}{c:Code}(h:CW P n c ⟨N,R,(id,N)::X,G⟩ L w):CW P n (.block id c) ⟨N,R,X,G⟩ L w:=CW.Lo h
def CW.loop{c:Code}{α:Type}(K:α->aA)(I:α->World->Prop)(μ:α->Nat)(x₀:α)(h0:Weak (K x₀) L)(hI:I x₀ w)
  (round:∀ x w,I x w->CW P n c ⟨λ L' w'=>∃ x',Weak (K x') L'/\I x' w'/\μ x'<μ x,R,X,G⟩ (K x) w):CW P n (.loop c) ⟨N,R,X,G⟩ L w:=CW.ML K I μ x₀ h0 hI round
def CW.region{id:Nat}{l:List Oper}(h:RT P n l l N L w):CW P n (.region id l.toArray false) ⟨N,R,X,G⟩ L w:=CW.Ii h
def CW.Jg{id:Nat}{l:List Oper}(S1 S2:World->Prop)(b:Nat)(p:Plan)(h12:∀ w,S1 w->S2 w)(hm:P.follows .mixedOrders=true)(hok:p.wY l b=true)
  (h:RP P n l [S1,S2] p N L w.drew):CW P n (.region id l.toArray true) ⟨N,R,X,G⟩ L w:=CW.Lm S1 S2 b p h12 hm hok h
def CW.draw{id:Nat}{l:List Oper}(S:World->Prop)(p:Plan)(hm:P.follows .mixedOrders=true)(hok:p.u9 l=true)
  (h:RP P n l [S] p N L w.drew):CW P n (.region id l.toArray true) ⟨N,R,X,G⟩ L w:=CW.MR S p hm hok h
end
def Ol(Φ:Value->World->Prop):Ending->World->Prop:=λ e w'=>∃ v,e= .returned v/\Φ v w'
def CallsV(P:Program)(f:FuncId)(args:List Value)(w:World)(Φ:Value->World->Prop):Prop:=Calls P f args.toArray w (Ol Φ)
theorem CallsV.mono{P:Program}{f:FuncId}{args:List Value}{w:World}{Φ Ψ:Value->World->Prop}(h:CallsV P f args w Φ)(hk:∀ v w',Φ v w'->Ψ v w'):CallsV P f args w Ψ:=
 Qh h λ _ w' ⟨v,he,hv⟩=>⟨v,he,hk v w' hv⟩
def Enters(P:Program)(f:FuncId):Prop:=∀ args w,(callFunc f args).run P w= .ok (.enter f args) w
theorem Enters.of{P : Program}{f : FuncId}{fn : Func}(hf : P.funcs[f]? = some fn)(hb : fn.body.isNone = false)(hn : (fn.name == "runtime.NumGoroutine") = false) : Enters P f := fun args w => by
 have h1 : fn.name ≠ "runtime.NumGoroutine" := by simpa using hn
 have h2:fn.body≠none:=by intro h;rw[h]at hb;cases hb
 have hp:∀ w,(program).run P w= .ok P w:=λ _=>J;simp[callFunc,hp,hf,h1,h2]
section
variable {P:Program} {n:Nat} {L:aA} {w:World} {K:Value->World->Prop}
def OpE.call{d:Option Nat}{f:FuncId}{xs:List Operand}{ats:Array TypeId}{ty:TypeId}{pos:String}{af:Array Edge}{g:Option (Nat×Bool)}{vs:List Value}
  (hf:Enters P f) (hx:pE L xs=some vs) (h:CallsV P f vs w K):OpE P n L w ⟨d,.call ⟨.value (.func f),xs.toArray,ats⟩,ty,pos,af,g⟩ K:=λ a ha next Q hk=>by
 have he:=ha.FG hx;have hrun:(execOp a.eval ⟨d,.call ⟨.value (.func f),xs.toArray,ats⟩,ty,pos,af,g⟩).run P w= .ok (.enter f vs.toArray) w:=by
  have hm:xs.toArray.map a.eval=vs.toArray:=by simp[he]
  have:=hf vs.toArray w;simp only[execOp,resolve,hm,Act.eval,Deferred.ofValue,bind,Sem.bind,pure,invoke];simpa[Sem.run]using this
 simp only[Oper.wp,hrun,Oper.upon];refine Qh h λ e w' ⟨v,he',hv⟩=>?_;subst he';exact hk v w' hv
def OpE.sN{d:Option Nat}{t:Nat}{f:FuncId}{cap:Array Value}{xs:List Operand}{ats:Array TypeId}{ty:TypeId}{pos:String}{af:Array Edge}{g:Option (Nat×Bool)}{vs:List Value}
  (hf:Enters P f) (ht:look L t=some (.func (.func f) #[] cap)) (hx:pE L xs=some vs) (h:CallsV P f (vs++cap.toList) w K):OpE P n L w ⟨d,.call ⟨.value (.tmp t),xs.toArray,ats⟩,ty,pos,af,g⟩ K:=λ a ha next Q hk=>by
 have he:=ha.FG hx;have hv:a.eval (.tmp t)= .func (.func f) #[] cap:=ha.eval ht;have hrun:(execOp a.eval ⟨d,.call ⟨.value (.tmp t),xs.toArray,ats⟩,ty,pos,af,g⟩).run P w= .ok (.enter f (vs++cap.toList).toArray) w:=by
  have hm:xs.toArray.map a.eval=vs.toArray:=by simp[he]
  have:=hf (vs++cap.toList).toArray w;have hc: #[]++vs.toArray++cap=(vs++cap.toList).toArray:=by simp
  simp only[execOp,resolve,hm,hv,Deferred.ofValue,bind,Sem.bind,pure,invoke,hc];simpa only[Sem.run]using this
 simp only[Oper.wp,hrun,Oper.upon];refine Qh h λ e w' ⟨v,he',hv⟩=>?_;subst he';exact hk v w' hv
end
def aG(P:Program)(n:Nat)(fn:Func)(Φ:Value->World->Prop)(L:aA)(w:World):Prop:=∀ a,Fits n L a->∃ v,(results fn a.tmps).run P w= .ok v w/\Φ v w
def initK:List Value->Nat->aA
 |[],_=>[]
 |v::r,i=>(i,v)::initK r (i+1)
def pF:∀ (l:List Value) (i t:Nat) (v:Value),look (initK l i) t=some v->i<=t/\l[t-i]? =some v
 |[],i,t,v,h=>by simp[initK,look]at h
 |x::r,i,t,v,h=>by
  simp only[initK]at h;rw[ij]at h;by_cases e:i=t
  ·subst e;simp at h;subst h;exact⟨KP _,by simp⟩
  ·simp only[e,Py]at h;obtain⟨h1,h2⟩:=pF r (i+1) t v h;refine⟨by omega,?_⟩;have:t-i=(t-(i+1))+1:=by omega
   rw[this];simpa using h2
def ay{P:Program}{f:FuncId}{fn:Func}{c:Code}{args:List Value}{w:World}{Φ:Value->World->Prop}(hf:P.funcs[f]? =some fn)(hb:fn.body=some c)
  (hn:Nat.ble args.length fn.ntmps=true) (h:CW P fn.ntmps c ⟨aG P fn.ntmps fn Φ,aG P fn.ntmps fn Φ,[],[]⟩ (initK args 0) w):CallsV P f args w Φ:=by
 refine calls_of_wp hf hb (RF (h _ ⟨?_,?_,J⟩) ?_)
 ·have:=Pk hn;simp;omega
 ·intro t v hv;obtain⟨_,h2⟩:=pF args 0 t v hv;simp only[QT]at h2;rw[Array.getElem?_append];have hlt:t<args.length:=by
   rcases OI t args.length with h|h
   ·exact h
   ·simp[OX h]at h2
  simp[hlt]at h2⊢;exact h2
 ·intro e a' w' q;cases e with
  |normal=>obtain⟨L',hL,hp⟩:=q;obtain⟨v,hv,hΦ⟩:=hp a' hL;exact⟨hL.defers,v,hv,v,J,hΦ⟩
  |ret=>obtain⟨L',hL,hp⟩:=q;obtain⟨v,hv,hΦ⟩:=hp a' hL;exact⟨hL.defers,v,hv,v,J,hΦ⟩
  |exit id=>obtain⟨L',hL,hp⟩:=q;exact hp
  |goto l=>obtain⟨L',hL,hp⟩:=q;exact hp
  |panic c=>exact q.elim
  |outgrown=>exact q.elim
section
variable {P:Program} {n:Nat} {fn:Func} {Φ:Value->World->Prop} {L:aA} {w:World}
def pG(hr:fn.results= #[])(h:Φ (.tuple #[]) w):aG P n fn Φ L w:=λ _ _=>⟨_,results_none hr _ _ _,h⟩
def LY{t:Nat}{v:Value}(hr:fn.results= #[.tmp t])(hv:look L t=some v)(h:Φ v w):aG P n fn Φ L w:=λ a ha=>
 ⟨_,results_tmp hr _ _ _,by have:=ha.slot t v hv;simpa[PC,this]using h⟩
def LZ{t u:Nat}{v x:Value}(hr:fn.results= #[.tmp t,.tmp u])(hv:look L t=some v)(hx:look L u=some x)(h:Φ (.tuple #[v,x]) w):aG P n fn Φ L w:=λ a ha=>
 ⟨_,results_tmp2 hr _ _ _,by have h1:=ha.slot t v hv;have h2:=ha.slot u x hx;simpa[PC,h1,h2]using h⟩
def kq{t u s:Nat}{v x y:Value}(hr:fn.results= #[.tmp t,.tmp u,.tmp s])(hv:look L t=some v)(hx:look L u=some x)(hy:look L s=some y)(h:Φ (.tuple #[v,x,y]) w):aG P n fn Φ L w:=λ a ha=>
 ⟨_,results_tmp3 hr _ _ _,by have h1:=ha.slot t v hv;have h2:=ha.slot u x hx;have h3:=ha.slot s y hy;simpa[PC,h1,h2,h3]using h⟩
def CW.aC{N:aA->World->Prop}{X G:List (Nat×(aA->World->Prop))}{t:Nat}{v:Value}(hr:fn.results= #[.tmp t])(hv:look L t=some v)(h:Φ v w):CW P n .ret ⟨N,aG P n fn Φ,X,G⟩ L w:=CW.ret (LY hr hv h)
def CW.bp{N:aA->World->Prop}{X G:List (Nat×(aA->World->Prop))}{t u:Nat}{v x:Value}(hr:fn.results= #[.tmp t,.tmp u])(hv:look L t=some v)(hx:look L u=some x)(h:Φ (.tuple #[v,x]) w):CW P n .ret ⟨N,aG P n fn Φ,X,G⟩ L w:=CW.ret (LZ hr hv hx h)
end
section
variable {P:Program} {n:Nat} {L:aA} {w:World} {d:Option Nat} {ty:TypeId} {pos:String} {af:Array Edge} {g:Option (Nat×Bool)}
theorem Ev.of{o:Oper}{v:Value}(h:∀ ρ:Operand->Value,(∀ {x u},aH L x=some u->ρ x=u)->(execOp ρ o).run P w= .ok (.value v) w):Ev P n L w o v:=λ a ha=>h a.eval λ hx=>ha.eval hx
def Ev.move{x:Operand}{v:Value}(hx:aH L x=some v):Ev P n L w ⟨d,.move x,ty,pos,af,g⟩ v:=.of λ ρ hρ=>by
 simp[execOp,hρ hx,go_sem]
def Ev.assign{x:Operand}{v:Value}(hx:aH L x=some v):Ev P n L w ⟨d,.assign x,ty,pos,af,g⟩ v:=.of λ ρ hρ=>by
 simp[execOp,hρ hx,go_sem]
def lV:List Nat->aA->Option aA
 |[],_=>some []
 |t::ts,L=>(look L t).bind λ v=>(lV ts L).map λ r=>(t,v)::r
def pH:∀ (ts:List Nat) {L L':aA},lV ts L=some L'->Weak L' L
 |[],L,L',h=>by simp[lV]at h;subst h;trivial
 |t::ts,L,L',h=>by
  simp only[lV,Qc,P3]at h;obtain⟨v,hv,r,hr,rfl⟩:=h;exact⟨hv,pH ts hr⟩
def CW.trim{c:Code}{Q:Qs}{L':aA}(ts:List Nat)(h:lV ts L=some L')(hk:CW P n c Q L' w):CW P n c Q L w:=CW.weaken L' (pH ts h) hk
def wk{L' L:aA}(h:L'.map (λ p=>look L p.1)=L'.map (λ p=>some p.2)):Weak L' L:=by
 induction L' with
 |nil=>trivial
 |cons p r ih=>
  obtain⟨t,v⟩:=p;simp only[P5,Sj]at h;exact⟨h.1,ih h.2⟩
def Ds:List Nat->aA->aA
 |_,[]=>[]
 |S,(u,v)::r=>cond (S.any (Nat.beq u)) (Ds S r) ((u,v)::Ds (u::S) r)
def yV(t:Nat)(L:aA):aA:=Ds [t] L
def CW.cu{id:Nat}{l:List Oper}{y:Code}{Q:Qs}{R:aA->World->Prop}{X G:List (Nat×(aA->World->Prop))}(t:Nat)(p:Prop)[dp:Decidable p](h:RT P n l l (λ L' w'=>w'=w/\look L' t=some (.bool (decide p))/\Weak (yV t L) L') L w)(h2:CW P n y Q ((t,.bool (decide p))::yV t L) w):
  CW P n (.region id l.toArray false) ⟨λ L w=>CW P n y Q L w,R,X,G⟩ L w:=by
 refine CW.oQ (λ L' w'=>w'=w/\look L' t=some (.bool (decide p))/\Weak (yV t L) L') (CW.region h) ?_;rintro L' w' ⟨rfl,h3,h4⟩;exact CW.weaken _ (show Weak ((t,.bool (decide p))::yV t L) L' from⟨h3,h4⟩) h2
theorem Ev.jG{c x y:Operand}{v:Value}(hc:aH L c=some (.bool true))(hx:aH L x=some v):Ev P n L w ⟨d,.pick c x y,ty,pos,af,g⟩ v:=.of λ ρ hρ=>by
 simp[execOp,hρ hx,hρ hc,go_sem]
def Ev.MT{c x y:Operand}{v:Value}(hc:aH L c=some (.bool false))(hy:aH L y=some v):Ev P n L w ⟨d,.pick c x y,ty,pos,af,g⟩ v:=.of λ ρ hρ=>by
 simp[execOp,hρ hy,hρ hc,go_sem]
def Ev.nilCheck{x:Operand}{p:Addr}(hx:aH L x=some (.pointer (some p))):Ev P n L w ⟨d,.nilCheck x,ty,pos,af,g⟩ (.pointer (some p)):=.of λ ρ hρ=>by
 simp[execOp,hρ hx,go_sem]
def Ev.extract{x:Operand}{i:Nat}{vs:Array Value}{v:Value}(hx:aH L x=some (.tuple vs))(hv:vs[i]? =some v):Ev P n L w ⟨d,.extract x i,ty,pos,af,g⟩ v:=.of λ ρ hρ=>by
 simp[execOp,hρ hx,Instr.extract,hv,go_sem]
def bq(z:Int):Prop:= -9223372036854775808<=z/\z<=9223372036854775807
def wrap_i64{z:Int}(h:bq z):IntKind.i64.wrap z=z:=IntWalk.i64_in _ h
section ints
variable {x y:Operand} {k:IntKind} {a b:Int} {xt yt:TypeId}
def Ev.bin{op:BinOp}{u v r:Value}(hx:aH L x=some u)(hy:aH L y=some v)(hg:eqGuard op xt x y u v=pure ())(hr:∀ w:World,(binOp op xt u v).run P w= .ok r w):
  Ev P n L w ⟨d,.binOp op xt x y yt,ty,pos,af,g⟩ r:=.of λ ρ hρ=>by
 simp only[execOp,hρ hx,hρ hy,hg];simp[go_sem,hr]
theorem Ev.add(hx:aH L x=some (.int .i64 a))(hy:aH L y=some (.int .i64 b))(h:bq (a+b)):Ev P n L w ⟨d,.binOp .add xt x y yt,ty,pos,af,g⟩ (.int .i64 (a+b)):=
 .bin hx hy (Pf ..) λ w=>by simp[go_sem,Op.intArith,wrap_i64 h]
theorem Ev.sub(hx:aH L x=some (.int .i64 a))(hy:aH L y=some (.int .i64 b))(h:bq (a-b)):Ev P n L w ⟨d,.binOp .sub xt x y yt,ty,pos,af,g⟩ (.int .i64 (a-b)):=
 .bin hx hy (Pf ..) λ w=>by simp[go_sem,Op.intArith,wrap_i64 h]
def Ev.mul(hx:aH L x=some (.int .i64 a))(hy:aH L y=some (.int .i64 b))(h:bq (a*b)):Ev P n L w ⟨d,.binOp .mul xt x y yt,ty,pos,af,g⟩ (.int .i64 (a*b)):=
 .bin hx hy (Pf ..) λ w=>by simp[go_sem,Op.intArith,wrap_i64 h]
theorem Ev.addW(hx:aH L x=some (.int k a))(hy:aH L y=some (.int k b)):Ev P n L w ⟨d,.binOp .add xt x y yt,ty,pos,af,g⟩ (.int k (k.wrap (a+b))):=
 .bin hx hy (Pf ..) λ w=>by simp[go_sem,Op.intArith]
def Ev.lss(hx:aH L x=some (.int k a))(hy:aH L y=some (.int k b)):Ev P n L w ⟨d,.binOp .lss xt x y yt,ty,pos,af,g⟩ (.bool (decide (a<b))):=
 .bin hx hy (Pf ..) λ w=>by simp[go_sem]
def Ev.leq(hx:aH L x=some (.int k a))(hy:aH L y=some (.int k b)):Ev P n L w ⟨d,.binOp .leq xt x y yt,ty,pos,af,g⟩ (.bool (decide (a<=b))):=
 .bin hx hy (Pf ..) λ w=>by simp[go_sem]
def Ev.gtr(hx:aH L x=some (.int k a))(hy:aH L y=some (.int k b)):Ev P n L w ⟨d,.binOp .gtr xt x y yt,ty,pos,af,g⟩ (.bool (decide (b<a))):=
 .bin hx hy (Pf ..) λ w=>by simp[go_sem]
def Ev.geq(hx:aH L x=some (.int k a))(hy:aH L y=some (.int k b)):Ev P n L w ⟨d,.binOp .geq xt x y yt,ty,pos,af,g⟩ (.bool (decide (b<=a))):=
 .bin hx hy (Pf ..) λ w=>by simp[go_sem]
def Ev.eql(hx:aH L x=some (.int k a))(hy:aH L y=some (.int k b)):Ev P n L w ⟨d,.binOp .eql xt x y yt,ty,pos,af,g⟩ (.bool (decide (a=b))):=
 .bin hx hy (Pf ..) λ w=>by simp[go_sem];rfl
def Ev.neq(hx:aH L x=some (.int k a))(hy:aH L y=some (.int k b)):Ev P n L w ⟨d,.binOp .neq xt x y yt,ty,pos,af,g⟩ (.bool (decide (a≠b))):=
 .bin hx hy (Pf ..) λ w=>by simp[go_sem];rfl
def Ev.quo{a b:Nat}(hx:aH L x=some (.int .i64 (a:Int)))(hy:aH L y=some (.int .i64 (b:Int)))(hb:0<b)(h:bq a):Ev P n L w ⟨d,.binOp .quo xt x y yt,ty,pos,af,g⟩ (.int .i64 ((a/b:Nat):Int)):=
 .bin hx hy (Pf ..) λ w=>by
  have h0:(b:Int)≠0:=by omega
  have h1:((a:Int).tdiv (b:Int))=((a/b:Nat):Int):=by rw[Int.tdiv_eq_ediv_of_nonneg (by omega)];simp
  have h2:IntKind.i64.wrap ((a/b:Nat):Int)=((a/b:Nat):Int):=by
   have h3:=QD a b;have h4:=h.2;generalize a/b=q at*;exact wrap_i64 ⟨by omega,by omega⟩
  simp only[binOp,Op.intDiv,h0,Py,h1,h2,go_sem];simp[go_sem]
def Ev.rem{a b:Nat}(hx:aH L x=some (.int k (a:Int)))(hy:aH L y=some (.int k (b:Int)))(hb:0<b):Ev P n L w ⟨d,.binOp .rem xt x y yt,ty,pos,af,g⟩ (.int k ((a%b:Nat):Int)):=
 .bin hx hy (Pf ..) λ w=>by
  have h0:(b:Int)≠0:=by omega
  have h1:((a:Int).tmod (b:Int))=((a%b:Nat):Int):=by rw[Int.tmod_eq_emod_of_nonneg (by omega)];simp
  simp only[binOp,Op.intDiv,h0,Py,h1,go_sem];simp[go_sem]
end ints
end
def pI{k:IntKind}(hk:k.signed=false){a:Nat}(h:a<2^k.bits):k.wrap (a:Int)=a:=by
 have h2:((a:Int))<((2^k.bits:Nat):Int):=by omega
 simp only[IntKind.wrap,hk,Bool.false_and,Pm,Py];have:((2:Int)^k.bits)=((2^k.bits:Nat):Int):=by norm_cast
 rw[this,<-Int.natCast_emod,P6 h]
def JR{P:Program}{k:IntKind}(hk:k.signed=false){a b:Nat}(ha:a<2^k.bits)(hb:b<2^k.bits)(w:World):(Op.intBits .or k a b).run P w= .ok (.int k ((a|||b:Nat):Int)) w:=by
 have:=pI hk (Rb ha hb);simp only[Op.intBits,QI,BitVec.toNat_or,QP,P6 ha,P6 hb,this];rfl
def yW{P:Program}{k:IntKind}(hk:k.signed=false){a b:Nat}(ha:a<2^k.bits)(hb:b<2^k.bits)(w:World):(Op.intBits .xor k a b).run P w= .ok (.int k ((a^^^b:Nat):Int)) w:=by
 have:=pI hk (Nat.xor_lt_two_pow ha hb);simp only[Op.intBits,QI,BitVec.toNat_xor,QP,P6 ha,P6 hb,this];rfl
def Gx{P:Program}{k:IntKind}(hk:k.signed=false){a b:Nat}(ha:a<2^k.bits)(hb:b<2^k.bits)(w:World):(Op.intBits .and k a b).run P w= .ok (.int k ((a&&&b:Nat):Int)) w:=by
 have:=pI hk (Nat.and_lt_two_pow a hb);simp only[Op.intBits,QI,BitVec.toNat_and,QP,P6 ha,P6 hb,this];rfl
def tm{a:Nat}(h:a<2^63):IntKind.i64.wrap (a:Int)=a:=IntWalk.i64_in _ ⟨by omega,by omega⟩
def Gy{P:Program}{a b:Nat}(ha:a<2^63)(hb:b<2^63)(w:World):(Op.intBits .or .i64 a b).run P w= .ok (.int .i64 ((a|||b:Nat):Int)) w:=by
 have:=tm (Rb ha hb);have ha':a<2^IntKind.i64.bits:=by simp only[IntKind.bits];omega
 have hb':b<2^IntKind.i64.bits:=by simp only[IntKind.bits];omega
 simp only[Op.intBits,QI,BitVec.toNat_or,QP,P6 ha',P6 hb',this];rfl
def Gz{P:Program}{k yk:IntKind}{a b:Nat}(ha:a<2^k.bits)(w:World):(Op.shift .shr k a yk b).run P w= .ok (.int k ((a/2^b:Nat):Int)) w:=by
 have h1:((a:Int).fdiv (2^(min b k.bits)))=((a/2^b:Nat):Int):=by
  have e:((2:Int)^(min b k.bits))=((2^(min b k.bits):Nat):Int):=by norm_cast
  rw[e,Int.fdiv_eq_ediv_of_nonneg _ (Int.natCast_nonneg _),<-Int.natCast_ediv];congr 1;rcases Nat.le_total b k.bits with h|h
  ·rw[Pq h]
  ·rw[Nat.min_eq_right h,Rk ha,Rk (QQ ha (Pz (by decide) h))]
 have h0:¬ ((b:Int)<0):=by omega
 simp only[Op.shift,h0,Py,Qb,h1];rfl
def yX{P:Program}{k yk:IntKind}{a b:Nat}(hb:b<=k.bits)(w:World):(Op.shift .shl k a yk b).run P w= .ok (.int k (k.wrap ((a*2^b:Nat):Int))) w:=by
 have h0:¬ ((b:Int)<0):=by omega
 have e:((a:Int)*2^b)=((a*2^b:Nat):Int):=by push_cast;rfl
 simp only[Op.shift,h0,Py,Qb,Pq hb,e];rfl
def ni{k:IntKind}(hk:k.signed=false)(a:Nat):k.wrap (a:Int)=((a%2^k.bits:Nat):Int):=by
 simp only[IntKind.wrap,hk,Bool.false_and,Pm,Py];have:((2:Int)^k.bits)=((2^k.bits:Nat):Int):=by norm_cast
 rw[this,<-Int.natCast_emod]
section
variable {P:Program} {n:Nat} {L:aA} {w:World} {d:Option Nat} {ty:TypeId} {pos:String} {af:Array Edge} {g:Option (Nat×Bool)} {x y:Operand} {k:IntKind} {xt yt:TypeId}
def Ev.Ov{a b:Nat}(hx:aH L x=some (.int k (a:Int)))(hy:aH L y=some (.int k (b:Int)))(hk:k.signed=false)(ha:a<2^k.bits)(hb:b<2^k.bits):Ev P n L w ⟨d,.binOp .or xt x y yt,ty,pos,af,g⟩ (.int k ((a|||b:Nat):Int)):=
 .bin hx hy (Pf ..) λ w=>by rw[binOp_or];exact JR hk ha hb w
def Ev.NZ{a b:Nat}(hx:aH L x=some (.int k (a:Int)))(hy:aH L y=some (.int k (b:Int)))(hk:k.signed=false)(ha:a<2^k.bits)(hb:b<2^k.bits):Ev P n L w ⟨d,.binOp .and xt x y yt,ty,pos,af,g⟩ (.int k ((a&&&b:Nat):Int)):=
 .bin hx hy (Pf ..) λ w=>by rw[binOp_and];exact Gx hk ha hb w
def Ev.C4{a b:Nat}(hx:aH L x=some (.int k (a:Int)))(hy:aH L y=some (.int k (b:Int)))(hk:k.signed=false)(ha:a<2^k.bits)(hb:b<2^k.bits):Ev P n L w ⟨d,.binOp .xor xt x y yt,ty,pos,af,g⟩ (.int k ((a^^^b:Nat):Int)):=
 .bin hx hy (Pf ..) λ w=>by rw[binOp_xor];exact yW hk ha hb w
def Ev.Oj{a b:Nat}(hx:aH L x=some (.int .i64 (a:Int)))(hy:aH L y=some (.int .i64 (b:Int)))(ha:a<2^63)(hb:b<2^63):Ev P n L w ⟨d,.binOp .or xt x y yt,ty,pos,af,g⟩ (.int .i64 ((a|||b:Nat):Int)):=
 .bin hx hy (Pf ..) λ w=>by rw[binOp_or];exact Gy ha hb w
def Ev.MO{k':IntKind}{a b:Nat}(hx:aH L x=some (.int k (a:Int)))(hy:aH L y=some (.int k' (b:Int)))(ha:a<2^k.bits):Ev P n L w ⟨d,.binOp .shr xt x y yt,ty,pos,af,g⟩ (.int k ((a/2^b:Nat):Int)):=
 .bin hx hy (Pf ..) λ w=>by rw[binOp_shr];exact Gz ha w
def Ev.NK{k':IntKind}{a b:Nat}(hx:aH L x=some (.int k (a:Int)))(hy:aH L y=some (.int k' (b:Int)))(hk:k.signed=false)(hb:b<=k.bits):Ev P n L w ⟨d,.binOp .shl xt x y yt,ty,pos,af,g⟩ (.int k ((a*2^b%2^k.bits:Nat):Int)):=
 .bin hx hy (Pf ..) λ w=>by rw[binOp_shl,yX hb,ni hk]
def Ev.Ib{k':IntKind}{a b:Nat}(hx:aH L x=some (.int .i64 (a:Int)))(hy:aH L y=some (.int k' (b:Int)))(hb:b<=64)(hr:a*2^b<2^63):Ev P n L w ⟨d,.binOp .shl xt x y yt,ty,pos,af,g⟩ (.int .i64 ((a*2^b:Nat):Int)):=
 .bin hx hy (Pf ..) λ w=>by rw[binOp_shl,yX (by simpa[IntKind.bits]using hb),tm hr]
def Ev.L5{a b:Nat}(hx:aH L x=some (.int k (a:Int)))(hy:aH L y=some (.int k (b:Int)))(hk:k.signed=false):Ev P n L w ⟨d,.binOp .add xt x y yt,ty,pos,af,g⟩ (.int k (((a+b)%2^k.bits:Nat):Int)):=by
 have:=Ev.addW (P:=P) (n:=n) (w:=w) (d:=d) (xt:=xt) (yt:=yt) (ty:=ty) (pos:=pos) (af:=af) (g:=g) hx hy;rwa[<-Int.natCast_add,ni hk]at this
def Ev.cO{b:Bool}(hx:aH L x=some (.bool b)):Ev P n L w ⟨d,.unOp .not xt x,ty,pos,af,g⟩ (.bool (!b)):=.of λ ρ hρ=>by
 simp[execOp,hρ hx,Op.unary,go_sem]
def rQ{s t:TypeId}{k':IntKind}{a:Int}(hs:(P.underlying s).isSome=true)(ht:P.underlying t=some (.int k'))(w:World):(convert s t (.int k a)).run P w= .ok (.int k' (k'.wrap a)) w:=by
 obtain⟨d,hd'⟩:=Option.isSome_iff_exists.mp hs;simp[convert,OH hd',OH ht,Conv.intToInt]
def Ev.J7{s t:TypeId}{k':IntKind}{a:Int}(hs:(P.underlying s).isSome=true)(ht:P.underlying t=some (.int k'))(hx:aH L x=some (.int k a))(ha:k'.wrap a=a):Ev P n L w ⟨d,.convert s t x,ty,pos,af,g⟩ (.int k' a):=.of λ ρ hρ=>by
 simp only[execOp,hρ hx,ON,rQ hs ht,ha,Ox,OR]
def Ev.eD{s t:TypeId}{k':IntKind}{a:Nat}(hs:(P.underlying s).isSome=true)(ht:P.underlying t=some (.int k'))(hx:aH L x=some (.int k (a:Int)))(hk:k'.signed=false):Ev P n L w ⟨d,.convert s t x,ty,pos,af,g⟩ (.int k' ((a%2^k'.bits:Nat):Int)):=.of λ ρ hρ=>by
 simp only[execOp,hρ hx,ON,rQ hs ht,ni hk,Ox,OR]
def Ev.Lb{a b:Nat}(hx:aH L x=some (.int .i64 (a:Int)))(hy:aH L y=some (.int .i64 (b:Int)))(h:a+b<=9223372036854775807):Ev P n L w ⟨d,.binOp .add xt x y yt,ty,pos,af,g⟩ (.int .i64 ((a+b:Nat):Int)):=by
 have:=Ev.add (P:=P) (n:=n) (w:=w) (d:=d) (xt:=xt) (yt:=yt) (ty:=ty) (pos:=pos) (af:=af) (g:=g) hx hy ⟨by omega,by omega⟩;rwa[<-Int.natCast_add]at this
def Ev.NH{a b:Nat}(hx:aH L x=some (.int .i64 (a:Int)))(hy:aH L y=some (.int .i64 (b:Int)))(hba:b<=a)(h:a<=9223372036854775807):Ev P n L w ⟨d,.binOp .sub xt x y yt,ty,pos,af,g⟩ (.int .i64 ((a-b:Nat):Int)):=by
 have:=Ev.sub (P:=P) (n:=n) (w:=w) (d:=d) (xt:=xt) (yt:=yt) (ty:=ty) (pos:=pos) (af:=af) (g:=g) hx hy ⟨by omega,by omega⟩;rwa[<-Int.natCast_sub hba]at this
def Ev.NW{a b:Nat}(hx:aH L x=some (.int .i64 (a:Int)))(hy:aH L y=some (.int .i64 (b:Int)))(h:a*b<=9223372036854775807):Ev P n L w ⟨d,.binOp .mul xt x y yt,ty,pos,af,g⟩ (.int .i64 ((a*b:Nat):Int)):=by
 have:=Ev.mul (P:=P) (n:=n) (w:=w) (d:=d) (xt:=xt) (yt:=yt) (ty:=ty) (pos:=pos) (af:=af) (g:=g) hx hy (by rw[<-Sk];exact⟨by omega,by omega⟩);rwa[<-Sk]at this
def Ev.NV{a b:Nat}(hx:aH L x=some (.int k (a:Int)))(hy:aH L y=some (.int k (b:Int))):Ev P n L w ⟨d,.binOp .lss xt x y yt,ty,pos,af,g⟩ (.bool (decide (a<b))):=by
 have:=Ev.lss (P:=P) (n:=n) (w:=w) (d:=d) (xt:=xt) (yt:=yt) (ty:=ty) (pos:=pos) (af:=af) (g:=g) hx hy;simpa only[Int.ofNat_lt]using this
def Ev.NN{a b:Nat}(hx:aH L x=some (.int k (a:Int)))(hy:aH L y=some (.int k (b:Int))):Ev P n L w ⟨d,.binOp .leq xt x y yt,ty,pos,af,g⟩ (.bool (decide (a<=b))):=by
 have:=Ev.leq (P:=P) (n:=n) (w:=w) (d:=d) (xt:=xt) (yt:=yt) (ty:=ty) (pos:=pos) (af:=af) (g:=g) hx hy;simpa only[Int.ofNat_le]using this
def Ev.NU{a b:Nat}(hx:aH L x=some (.int k (a:Int)))(hy:aH L y=some (.int k (b:Int))):Ev P n L w ⟨d,.binOp .gtr xt x y yt,ty,pos,af,g⟩ (.bool (decide (b<a))):=by
 have:=Ev.gtr (P:=P) (n:=n) (w:=w) (d:=d) (xt:=xt) (yt:=yt) (ty:=ty) (pos:=pos) (af:=af) (g:=g) hx hy;simpa only[Int.ofNat_lt]using this
def Ev.NX{a b:Nat}(hx:aH L x=some (.int k (a:Int)))(hy:aH L y=some (.int k (b:Int))):Ev P n L w ⟨d,.binOp .geq xt x y yt,ty,pos,af,g⟩ (.bool (decide (b<=a))):=by
 have:=Ev.geq (P:=P) (n:=n) (w:=w) (d:=d) (xt:=xt) (yt:=yt) (ty:=ty) (pos:=pos) (af:=af) (g:=g) hx hy;simpa only[Int.ofNat_le]using this
def Ev.O5{a b:Nat}(hx:aH L x=some (.int k (a:Int)))(hy:aH L y=some (.int k (b:Int))):Ev P n L w ⟨d,.binOp .eql xt x y yt,ty,pos,af,g⟩ (.bool (decide (a=b))):=by
 have:=Ev.eql (P:=P) (n:=n) (w:=w) (d:=d) (xt:=xt) (yt:=yt) (ty:=ty) (pos:=pos) (af:=af) (g:=g) hx hy;simpa only[Int.ofNat_inj]using this
def Ev.O2{a b:Nat}(hx:aH L x=some (.int k (a:Int)))(hy:aH L y=some (.int k (b:Int))):Ev P n L w ⟨d,.binOp .neq xt x y yt,ty,pos,af,g⟩ (.bool (decide (a≠b))):=by
 have:=Ev.neq (P:=P) (n:=n) (w:=w) (d:=d) (xt:=xt) (yt:=yt) (ty:=ty) (pos:=pos) (af:=af) (g:=g) hx hy;simpa only[ne_eq,Int.ofNat_inj]using this
def Ev.km{p:Prop}{dp:Decidable p}(hx:aH L x=some (.bool (@decide p dp))):Ev P n L w ⟨d,.unOp .not xt x,ty,pos,af,g⟩ (.bool (decide (¬ p))):=by
 have:=Ev.cO (P:=P) (n:=n) (w:=w) (d:=d) (xt:=xt) (ty:=ty) (pos:=pos) (af:=af) (g:=g) hx;simpa only[decide_not]using this
end
def Rd(w:World)(v:Value)(n:Nat)(cells:List Value):Prop:=
 ∃ a cap,v= .slice a n cap/\n<=cap/\∀ j u,cells[j]? =some u->∃ b o,a=some ⟨b,o,none⟩/\w.cell? ⟨b,o+j,none⟩=some u
def Ext(w w':World):Prop:=∀ a u,w.cell? a=some u->w'.cell? a=some u
theorem Ext.gE{w w':World}(h:Below w.heap.size w w'):Ext w w':=λ a _ hu=>(h.cell (World.block_lt_of_cell? w a hu)).trans hu
theorem Rd.ext{w w':World}{v:Value}{n:Nat}{cells:List Value}(h:Rd w v n cells)(he:Ext w w'):Rd w' v n cells:=by
 obtain⟨a,cap,hv,hn,hc⟩:=h;exact⟨a,cap,hv,hn,λ j u hu=>let ⟨b,o,ha,hw⟩:=hc j u hu;⟨b,o,ha,he _ _ hw⟩⟩
theorem Rd.nil(w:World):Rd w (.slice none 0 0) 0 []:=⟨none,0,J,KP _,λ j u h=>by simp at h⟩
def br:Value->Nat->Value
 | .slice (some a) _ _,c=>.pointer (some (a.add c))
 |_,_=>undef
def gk(size:Nat):Value->Nat->Nat->Value
 | .slice a _ cap,l,h=>.slice (if cap=l then a else a.map (·.add (l*size))) (h-l) (cap-l)
 |_,_,_=>undef
theorem Rd.sub{w:World}{v:Value}{n:Nat}{cells:List Value}(hr:Rd w v n cells){size l h:Nat}(hl:l<=h)(hh:h<=n):
  Rd w (gk size v l h) (h-l) ((cells.take (h*size)).drop (l*size)):=by
 obtain⟨a,cap,rfl,hn,hc⟩:=hr;refine⟨_,_,J,by omega,λ j u hu=>?_⟩;have hj:j<((cells.take (h*size)).drop (l*size)).length:=by
  rcases OI j _ with hlt|hge
  ·exact hlt
  ·rw[OX hge]at hu;cases hu
 have hlt:l<h:=by
  rcases OI l h with h1|h1
  ·exact h1
  ·have:l=h:=by omega
   subst this;simp at hj
 rw[Q0,Pg]at hu;split at hu
 ·obtain⟨b,o,ha,hw⟩:=hc _ u hu;subst ha;rw[OB (by omega)];simp only[PY,Ph];exact⟨b,_,J,by rw[Qi];exact hw⟩
 ·cases hu
structure Chunk where
 foot:List Nat
 holds:World->Prop
 stable:∀ w w',(∀ k∈foot,w'.heap[k]? =w.heap[k]?)->holds w->holds w'
structure Sat(w0:World)(cs:List Chunk)(w:World):Prop where
 old:Below w0.heap.size w0 w
 holds:∀ c∈cs,c.holds w/\∀ k∈c.foot,w0.heap.size<=k/\k<w.heap.size
 apart:cs.Pairwise λ c d=>∀ k∈c.foot,k∉d.foot
structure Chg(S:List Nat)(w w':World):Prop where
 os:w'.os=w.os
 tape:w'.tape=w.tape
 output:w'.output=w.output
 size:w.heap.size<=w'.heap.size
 block:∀ k,k<w.heap.size->k∉S->w'.heap[k]? =w.heap[k]?
theorem Chg.gE{w w':World}(h:Below w.heap.size w w'):Chg [] w w':=⟨h.os,h.tape,h.output,h.size,λ k hk _=>h.block k hk⟩
theorem Chg.alloc(w:World)(o:Obj):Chg [] w (w.alloc o):=.gE ((Below.refl _ _).alloc (KP _) o)
def Chg.setCell(w:World)(a:Addr)(v:Value):Chg [a.block] w (w.setCell a v):=
 ⟨J,J,J,by simp,λ k hk hn=>Below.heap_setCell w a v k (by simpa using hn)⟩
theorem Sat.start(w:World):Sat w [] w:=⟨Below.refl _ _,by simp,by simp⟩
theorem Sat.ext{w0 w:World}{cs:List Chunk}(h:Sat w0 cs w):Ext w0 w:=.gE h.old
def Sat.drew{w0 w:World}{cs:List Chunk}(h:Sat w0 cs w):Sat w0 cs w.drew:=
 ⟨h.old.drew,λ c hc=>⟨c.stable w _ (λ _ _=>J) (h.holds c hc).1,(h.holds c hc).2⟩,h.apart⟩
theorem Sat.sub{w0 w:World}{cs ds:List Chunk}(h:Sat w0 cs w)(hp:ds.Sublist cs):Sat w0 ds w:=
 ⟨h.old,λ c hc=>h.holds c (hp.subset hc),h.apart.sublist hp⟩
def fo:List Nat->Nat->List Chunk->Option (List Chunk)
 |[],_,_=>some []
 |_::_,_,[]=>none
 |i::r,k,c::cs=>cond (Nat.beq i k) (match fo r (k+1) cs with
  |some l=>some (c::l)
  |none=>none) (fo (i::r) (k+1) cs)
def jL:∀ (cs:List Chunk) (is:List Nat) (k:Nat) (l:List Chunk),fo is k cs=some l->l.Sublist cs
 |cs,[],k,l,h=>by simp only[fo,PJ]at h;subst h;exact nil_sublist _
 |[],i::r,k,l,h=>by simp[fo]at h
 |c::cs,i::r,k,l,h=>by
  simp only[fo]at h;cases hb:Nat.beq i k with
  |true=>
   rw[hb]at h;simp only[QE]at h;split at h
   ·rename_i l' hl;cases h;exact(jL cs r (k+1) l' hl).cons_cons c
   ·cases h
  |false=>rw[hb]at h;exact(jL cs (i::r) (k+1) l h).cons c
def Sat.pick{w0 w:World}{cs cs':List Chunk}(h:Sat w0 cs w)(is:List Nat)(hp:fo is 0 cs=some cs'):Sat w0 cs' w:=h.sub (jL _ _ _ _ hp)
def uf:List Chunk->Option (List Chunk)
 |[]=>some []
 |c::cs=>match uf cs with
  |some l=>some (c::l)
  |none=>none
def jg:∀ (cs l:List Chunk),uf cs=some l->l=cs
 |[],l,h=>by simp only[uf,PJ]at h;exact h.symm
 |c::cs,l,h=>by
  simp only[uf]at h;split at h
  ·rename_i l' hl;cases h;rw[jg cs l' hl]
  ·cases h
def Sat.nf{w0 w:World}{cs cs':List Chunk}(h:Sat w0 cs w)(hp:uf cs=some cs'):Sat w0 cs' w:=by rw[jg _ _ hp];exact h
def CW.ec{P:Program}{n:Nat}{N R:aA->World->Prop}{X G:List (Nat×(aA->World->Prop))}{L:aA}{w w0 w1:World}{cs c1 c2:List Chunk}{id:Nat}{l:List Oper}(is ks:List Nat)(_hs:Sat w0 cs w1)(_h1:fo is 0 cs=some c1)(h2:fo ks 0 c1=some c2)(b:Nat)(p:Plan)(hm:P.follows .mixedOrders=true)(hok:p.wY l b=true)
  (h:RP P n l [λ w'=>Sat w0 c1 w',λ w'=>Sat w0 c2 w'] p N L w.drew):CW P n (.region id l.toArray true) ⟨N,R,X,G⟩ L w:=CW.Jg (λ w'=>Sat w0 c1 w') (λ w'=>Sat w0 c2 w') b p (λ w' h=>h.pick ks h2) hm hok h
theorem Sat.get{w0 w:World}{cs:List Chunk}(h:Sat w0 cs w){i:Nat}{c:Chunk}(hi:cs[i]? =some c):c.holds w:=(h.holds c (OD hi)).1
theorem Sat.lo{w0 w:World}{cs:List Chunk}(h:Sat w0 cs w){i:Nat}{c:Chunk}(hi:cs[i]? =some c){k:Nat}(hk:k∈c.foot):w0.heap.size<=k/\k<w.heap.size:=(h.holds c (OD hi)).2 k hk
def Sat.ud{w0 w:World}{cs:List Chunk}(h:Sat w0 cs w){i j:Nat}{c d:Chunk}(hi:cs[i]? =some c)(hj:cs[j]? =some d)(hne:i≠j){k:Nat}(hk:k∈c.foot):k∉d.foot:=by
 have hp:=PU.1 h.apart;obtain⟨hil,rfl⟩:=sp.1 hi;obtain⟨hjl,rfl⟩:=sp.1 hj;rcases Nat.lt_or_gt_of_ne hne with hlt|hgt
 ·exact hp i j hil hjl hlt k hk
 ·exact λ hk2=>hp j i hjl hil hgt k hk2 hk
theorem Sat.set{w0 w w':World}{cs:List Chunk}(h:Sat w0 cs w)(i:Nat){c c':Chunk}(hi:cs[i]? =some c)(hw:Chg c.foot w w')(hc:c'.holds w')
  (hf:∀ k∈c'.foot,k∈c.foot\/(w.heap.size<=k/\k<w'.heap.size)):Sat w0 (cs.set i c') w':=by
 obtain⟨hil,hci⟩:=sp.1 hi;have hlo:∀ k∈c.foot,w0.heap.size<=k/\k<w.heap.size:=λ k hk=>h.lo hi hk;refine⟨?_,?_,?_⟩
 ·refine h.old.trans ⟨hw.os,hw.tape,hw.output,hw.size,λ k hk=>hw.block k (QQ hk h.old.size) λ hm=>?_⟩;have:=(hlo _ hm).1;omega
 ·intro e he;rw[QB]at he;obtain⟨j,hj⟩:=he;rw[Q1]at hj;by_cases hij:i=j
  ·subst hij;simp[hil]at hj;subst hj;refine⟨hc,λ k hk=>?_⟩;have:=hw.size;have:=h.old.size;rcases hf k hk with h1|h1
   ·have:=hlo _ h1;omega
   ·omega
  ·rw[OB hij]at hj;have hm:=OD hj;obtain⟨h1,h2⟩:=h.holds e hm;refine⟨e.stable w w' (λ k hk=>hw.block k (h2 k hk).2 (h.ud hj hi (Ne.symm hij) hk)) h1,λ k hk=>?_⟩;have:=h2 k hk;have:=hw.size;omega
 ·rw[PU];intro a b ha hb hab k hk hk2;simp only[Oz]at ha hb;rw[getElem_set]at hk hk2;have hnew:∀ j (hj:j<cs.length),j≠i->∀ k,k∈c'.foot->k∉cs[j].foot:=λ j hj hne k hk hk2=>by
   rcases hf k hk with h1|h1
   ·exact h.ud hi (py hj) (Ne.symm hne) h1 hk2
   ·have:=h.lo (py hj) hk2;omega
  split at hk<;>split at hk2
  ·omega
  ·exact hnew b hb (by omega) k hk hk2
  ·exact hnew a ha (by omega) k hk2 hk
  ·exact h.ud (py ha) (py hb) (by omega) hk hk2
def Sat.au{w0 w w':World}{cs ds:List Chunk}(h:Sat w0 cs w)(k:Sat w ds w'):Sat w0 (cs++ds) w':=by
 refine⟨h.old.trans (k.old.mono h.old.size),?_,?_⟩
 ·intro c hc;rcases OM.1 hc with hc|hc
  ·obtain⟨h1,h2⟩:=h.holds c hc;refine⟨c.stable w w' (λ j hj=>k.old.block j (h2 j hj).2) h1,λ j hj=>?_⟩;have:=h2 j hj;have:=k.old.size;omega
  ·obtain⟨h1,h2⟩:=k.holds c hc;refine⟨h1,λ j hj=>?_⟩;have:=h2 j hj;have:=h.old.size;omega
 ·rw[PQ];refine⟨h.apart,k.apart,λ c hc d hd j hj hj2=>?_⟩;have:=(h.holds c hc).2 j hj;have:=(k.holds d hd).2 j hj2;omega
theorem Sat.add{w0 w w':World}{cs:List Chunk}{c:Chunk}(h:Sat w0 cs w)(hw:Chg [] w w')(hc:c.holds w')(hf:∀ k∈c.foot,w.heap.size<=k/\k<w'.heap.size):Sat w0 (cs++[c]) w':=
 h.au ⟨⟨hw.os,hw.tape,hw.output,hw.size,λ k hk=>hw.block k hk (by simp)⟩,by simpa using⟨hc,hf⟩,by simp⟩
theorem Sat.step{w0 w w':World}{cs:List Chunk}(h:Sat w0 cs w)(hw:Chg [] w w'):Sat w0 cs w':=by
 have:=h.au (ds:=[]) ⟨⟨hw.os,hw.tape,hw.output,hw.size,λ k hk=>hw.block k hk (by simp)⟩,by simp,by simp⟩;simpa using this
theorem Sat.perm{w0 w:World}{cs ds:List Chunk}(h:Sat w0 cs w)(hp:cs.Perm ds):Sat w0 ds w:=
 ⟨h.old,λ c hc=>h.holds c (hp.mem_iff.2 hc),hp.pairwise h.apart (λ{_ _} h k hk h2=>h k h2 hk)⟩
theorem Sat.oQ{w0 w:World}{A cs ds:List Chunk}(h:Sat w0 ((A++cs)++ds) w):Sat w0 ((A++ds)++cs) w:=
 h.perm (by rw[No,No];exact(RE).append_left A)
def oD:Chunk:=⟨[],λ _=>True,λ _ _ _ h=>h⟩
def pJ{α:Type}(l:List α)(d:α):(List.range l.length).map (λ i=>l.getD i d)=l:=by
 apply Rn
 ·simp
 ·intro i h1 h2;simp at h1;simp[h1]
def Sat.order{w0 w:World}{A cs:List Chunk}(idx:List Nat)(hp:idx.isPerm (List.range idx.length)=true)(h:Sat w0 (A++cs) w)(hl:A.length=idx.length:=by rfl):Sat w0 (idx.map (λ i=>A.getD i oD)++cs) w:=by
 rw[<-hl]at hp;refine h.perm (List.Perm.append_right cs ?_);have:=(isPerm_iff.1 hp).map (λ i=>A.getD i oD);rw[pJ]at this;exact this.symm
def Sat.tail{w0 w:World}{A:List Chunk}(h:Sat w0 A w):Sat w0 (A++[]) w:=by rw[PF];exact h
def Sat.ax{w0 w:World}{A:List Chunk}(h:Sat w0 (A++[]) w):Sat w0 A w:=by rw[PF]at h;exact h
def Sat.cut{w0 w:World}{A cs:List Chunk}(k:Nat)(h:Sat w0 (A++cs) w):Sat w0 (A.take k++(A.drop k++cs)) w:=by rw[<-No,P0];exact h
def Sat.join{w0 w:World}{A B cs:List Chunk}(h:Sat w0 (A++(B++cs)) w):Sat w0 ((A++B)++cs) w:=by rw[No];exact h
def aw(g:Nat)(T:TypeId)(cells:List Value):Chunk where
 foot:=[g]
 holds w:=w.heap[g]? =some (.cells cells.toArray T (0,0))
 stable w w' h hc:=by rw[h g (by simp)];exact hc
def cell_of_heap{w:World}{g:Nat}{T:TypeId}{cells:Array Value}{fr:Nat×Nat}(h:w.heap[g]? =some (.cells cells T fr))(j:Nat):w.cell? ⟨g,j,none⟩=cells[j]? :=by
 simp[World.cell?,h]
def frozen_of_heap{w:World}{g:Nat}{T:TypeId}{cells:Array Value}(h:w.heap[g]? =some (.cells cells T (0,0)))(j:Nat):w.frozen? ⟨g,j,none⟩=false:=by
 simp[World.frozen?,h]
def Sat.cell{w0 w:World}{cs:List Chunk}(h:Sat w0 cs w){i g T j:Nat}{cells:List Value}{u:Value}(hi:cs[i]? =some (aw g T cells))(hu:cells[j]? =some u):w.cell? ⟨g,j,none⟩=some u:=by
 have:=h.get hi;rw[cell_of_heap this];simpa using hu
def heap_setCell{w:World}{g j:Nat}{T:TypeId}{cells:Array Value}{fr:Nat×Nat}{u:Value}(h:w.heap[g]? =some (.cells cells T fr)):(w.setCell ⟨g,j,none⟩ u).heap[g]? =some (.cells (cells.setIfInBounds j u) T fr):=by
 simp[World.setCell,QX,h]
def bz:Value->List Nat
 | .slice (some a) _ _=>[a.block]
 |_=>[]
def qO(v:Value)(E size n:Nat)(cells:List Value):Chunk where
 foot:=bz v
 holds w:=w.ownsRow 0 E size v n cells
 stable w w' h hc:=by
  refine⟨hc.1,?_⟩;rcases hc.2 with h2|⟨g,cap,cur,rfl,hg,hh,r⟩
  ·exact .inl h2
  ·exact .inr ⟨g,cap,cur,J,hg,by rw[h g (by simp[bz])];exact hh,r⟩
def Rd.nT{w:World}{base E size n:Nat}{v:Value}{cells:List Value}(h:w.ownsRow base E size v n cells):Rd w v n cells:=by
 obtain⟨hl,⟨rfl,rfl⟩|⟨g,cap,cur,rfl,_,hh,hnc,_,hcs,ht⟩⟩:=h
 ·have:cells=[]:=OW (by simpa using hl);subst this;exact Rd.nil w
 ·refine⟨_,_,J,hnc,λ j u hu=>⟨g,0,J,?_⟩⟩;rw[Pa,cell_of_heap hh];rw[<-ht,Pg]at hu;split at hu
  ·simpa using hu
  ·cases hu
def Sat.rd{w0 w:World}{cs:List Chunk}(h:Sat w0 cs w){i E size n:Nat}{v:Value}{cells:List Value}(hi:cs[i]? =some (qO v E size n cells)):Rd w v n cells:=.nT (h.get hi)
def Sat.L4{w0 w:World}{cs:List Chunk}(h:Sat w0 cs w)(E size:Nat):Sat w0 (cs++[qO (.slice none 0 0) E size 0 []]) w:=
 h.add ⟨J,J,J,KP _,λ _ _ _=>J⟩ (World.ownsRow_nil ..) (by simp[qO,bz])
def Sat.newObj{w0 w:World}{cs:List Chunk}(h:Sat w0 cs w)(T:TypeId)(cells:List Value):Sat w0 (cs++[aw w.heap.size T cells]) (w.alloc (.cells cells.toArray T)):=
 h.add (.alloc _ _) (QY w _) (by simp[aw])
def Sat.ou{w0 w:World}{cs:List Chunk}(h:Sat w0 cs w)(E size n cap:Nat)(cur:List Value)(hc:cap<=maxLen)(hn:n<=cap)(hl:cur.length=cap*size):
  Sat w0 (cs++[qO (.slice (some ⟨w.heap.size,0,none⟩) n cap) E size n (cur.take (n*size))]) (w.alloc (.cells cur.toArray E)):=
 h.add (.alloc _ _) ⟨by rw[M2,hl,Pq (PS _ hn)],.inr ⟨_,cap,_,J,IN _,QY w _,hn,hc,by simpa using hl,by simp⟩⟩ (by simp[qO,bz])
def Sat.setObj{w0 w:World}{cs:List Chunk}(h:Sat w0 cs w){i g T j:Nat}{cells:List Value}{u:Value}(hi:cs[i]? =some (aw g T cells)):Sat w0 (cs.set i (aw g T (cells.set j u))) (w.setCell ⟨g,j,none⟩ u):=
 h.set i hi (Chg.setCell w ⟨g,j,none⟩ u) (by have:=heap_setCell (j:=j) (u:=u) (h.get hi);simpa[aw]using this) (λ _ hk=>.inl hk)
def Sat.MY{w0 w:World}{cs:List Chunk}(h:Sat w0 cs w){i g E size n cap j:Nat}{cells:List Value}{u:Value}(hi:cs[i]? =some (qO (.slice (some ⟨g,0,none⟩) n cap) E size n cells)):
  Sat w0 (cs.set i (qO (.slice (some ⟨g,0,none⟩) n cap) E size n (cells.set j u))) (w.setCell ⟨g,j,none⟩ u):=
 h.set i hi (Chg.setCell w ⟨g,j,none⟩ u) ((h.get hi).stored j u).1 (λ _ hk=>.inl hk)
structure SlTy(P:Program)(t e s:Nat)(z:Value)(b:Nat):Prop where
 und:P.underlying t=some (.slice e)
 info:∃ i,P.info? e=some i/\i.zero=some z/\i.size=s/\i.bytes=b
 zs:z.cells.size=s
 pos:0<s
theorem SlTy.of{P:Program}{t e s:Nat}{z:Value}{b:Nat}(h:P.underlying t=some (.slice e))(hi:(P.info? e).map (λ i=>(i.zero,i.size,i.bytes))=some (some z,s,b))(hz:z.cells.size=s)(hp:0<s):SlTy P t e s z b:=
 ⟨h,by obtain⟨i,h1,h2,h3,h4⟩:=info_parts hi;exact⟨i,h1,h2,h3,h4⟩,hz,hp⟩
def jh(P:Program)(T:TypeId):Bool:=
 match P.underlying T with
 |some (.struct _)|some (.array ..)|none=>false
 |_=>true
def db(P:Program)(T:TypeId)(s:Nat):Bool:=
 (match P.underlying T with
 |some (.struct _)|some (.array ..)=>true
 |_=>false)&&(P.info? T).map (·.size)==some s
def qW(P:Program)(T:TypeId)(f off:Nat):Bool:=
 match P.underlying T with
 |some (.struct fs)=>match fs[f]? with
  |some fd=>fd.offset==off&&(match (P.info? fd.type).map (·.size)with|some s=>s !=0|none=>false)
  |none=>false
 |_=>false
theorem Rd.a7{w:World}{v:Value}{n:Nat}{cells:List Value}(h:Rd w v n cells):v.oneCell'=true:=by
 obtain⟨a,cap,rfl,_⟩:=h;rfl
section
variable {P:Program} {n:Nat} {L:aA} {w:World} {d:Option Nat} {ty:TypeId} {pos:String} {af:Array Edge} {g:Option (Nat×Bool)}
def Ev.N6{x:Operand}{t:TypeId}{v:Value}{m:Nat}{cells:List Value}{e:TypeId}(hu:P.underlying t=some (.slice e))(hx:aH L x=some v)(h:Rd w v m cells):
  Ev P n L w ⟨d,.call ⟨.builtin .len,#[x],#[t]⟩,ty,pos,af,g⟩ (.int .i64 (m:Int)):=.of λ ρ hρ=>by
 obtain⟨a,cap,rfl,_⟩:=h;simp[execOp,hρ hx,resolve,invoke,Builtin.len_,OH hu,go_sem,goInt]
def Ev.bj{x:Operand}{t:TypeId}{s:ByteArray}(hu:P.underlying t=some .string)(hx:aH L x=some (.string s)):
  Ev P n L w ⟨d,.call ⟨.builtin .len,#[x],#[t]⟩,ty,pos,af,g⟩ (.int .i64 (s.size:Int)):=.of λ ρ hρ=>by
 simp[execOp,hρ hx,resolve,invoke,Builtin.len_,OH hu,go_sem,goInt]
def Ev.Lc{x y:Operand}{a b:Int}{k:IntKind}{ts:Array TypeId}(hx:aH L x=some (.int k a))(hy:aH L y=some (.int k b)):
  Ev P n L w ⟨d,.call ⟨.builtin .min,#[x,y],ts⟩,ty,pos,af,g⟩ (.int k (min a b)):=.of λ ρ hρ=>by
 simp only[execOp,hρ hx,hρ hy,resolve,invoke,go_sem];simp[Builtin.min_,Builtin.min2,hρ hx,hρ hy,go_sem];omega
def Ev.FJ{x y:Operand}{a b:Int}{k:IntKind}{ts:Array TypeId}(hx:aH L x=some (.int k a))(hy:aH L y=some (.int k b)):
  Ev P n L w ⟨d,.call ⟨.builtin .max,#[x,y],ts⟩,ty,pos,af,g⟩ (.int k (max a b)):=.of λ ρ hρ=>by
 simp[execOp,hρ hx,hρ hy,resolve,invoke,Builtin.max_,Builtin.max2,go_sem];omega
def Ev.NY{x y:Operand}{a b:Nat}{k:IntKind}{ts:Array TypeId}(hx:aH L x=some (.int k (a:Int)))(hy:aH L y=some (.int k (b:Int))):
  Ev P n L w ⟨d,.call ⟨.builtin .min,#[x,y],ts⟩,ty,pos,af,g⟩ (.int k ((min a b:Nat):Int)):=by
 have:=Ev.Lc (P:=P) (n:=n) (w:=w) (d:=d) (ts:=ts) (ty:=ty) (pos:=pos) (af:=af) (g:=g) hx hy;rwa[show min (a:Int) (b:Int)=((min a b:Nat):Int) by omega]at this
def Ev.NO{x y:Operand}{a b:Nat}{k:IntKind}{ts:Array TypeId}(hx:aH L x=some (.int k (a:Int)))(hy:aH L y=some (.int k (b:Int))):
  Ev P n L w ⟨d,.call ⟨.builtin .max,#[x,y],ts⟩,ty,pos,af,g⟩ (.int k ((max a b:Nat):Int)):=by
 have:=Ev.FJ (P:=P) (n:=n) (w:=w) (d:=d) (ts:=ts) (ty:=ty) (pos:=pos) (af:=af) (g:=g) hx hy;rwa[show max (a:Int) (b:Int)=((max a b:Nat):Int) by omega]at this
def Ev.indexAddr{x i:Operand}{t e s b:Nat}{z v:Value}{m j:Nat}{cells:List Value}{k:IntKind}(hty:SlTy P t e s z b)(hx:aH L x=some v)(hi:aH L i=some (.int k (j:Int)))(h:Rd w v m cells)
  (hlen:cells.length=m*s) (hj:j<m):Ev P n L w ⟨d,.indexAddr t x i,ty,pos,af,g⟩ (br v (j*s)):=.of λ ρ hρ=>by
 obtain⟨a,cap,rfl,_,hc⟩:=h;obtain⟨inf,h1,h2,h3,h4⟩:=hty.info;have hpos:j*s<cells.length:=by rw[hlen];exact QG hj hty.pos
 obtain⟨bb,o,rfl,_⟩:=hc (j*s) _ (py hpos);have hk:(0:Int)<=(j:Int)/\(j:Int)<(m:Int):=by omega
 simp only[execOp,hρ hx,hρ hi,Instr.indexAt,asIntOf];simp[OH hty.und,sizeOf,typeInfo,h1,h3,hk,br,go_sem,hj]
def Ev.FF{x:Operand}{T:TypeId}{v u:Value}{m c:Nat}{cells:List Value}(hT:jh P T=true)(hx:aH L x=some (br v c))(h:Rd w v m cells)(hu:cells[c]? =some u):
  Ev P n L w ⟨d,.load T x,ty,pos,af,g⟩ u:=.of λ ρ hρ=>by
 obtain⟨a,cap,rfl,_,hc⟩:=h;obtain⟨bb,o,rfl,hw⟩:=hc c u hu;have hx':ρ x= .pointer (some ⟨bb,o+c,none⟩):=by rw[hρ hx];simp[br,Ph]
 unfold jh at hT;cases hun:P.underlying T with
 |none=>simp[hun]at hT
 |some D=>cases D<;>simp[hun]at hT<;>simp[execOp,hx',Instr.loadAt,loadVar,isAgg,OH hun,hw,go_sem]
def Ev.load{x:Operand}{T:TypeId}{a:Addr}{u:Value}(hT:jh P T=true)(hx:aH L x=some (.pointer (some a)))(hu:w.cell? a=some u):
  Ev P n L w ⟨d,.load T x,ty,pos,af,g⟩ u:=.of λ ρ hρ=>by
 unfold jh at hT;cases hun:P.underlying T with
 |none=>simp[hun]at hT
 |some D=>cases D<;>simp[hun]at hT<;>simp[execOp,hρ hx,Instr.loadAt,loadVar,isAgg,OH hun,hu,go_sem]
def Ev.fieldAddr{x:Operand}{T:TypeId}{f off o o' b:Nat}(hf:qW P T f off=true)(hx:aH L x=some (.pointer (some ⟨b,o,none⟩)))(ho:o+off=o'):
  Ev P n L w ⟨d,.fieldAddr T x f,ty,pos,af,g⟩ (.pointer (some ⟨b,o',none⟩)):=.of λ ρ hρ=>by
 subst ho;unfold qW at hf;cases hun:P.underlying T with
 |none=>simp[hun]at hf
 |some D=>
  cases D<;>simp[hun]at hf
  rename_i fs
  cases hfd:fs[f]? with
  |none=>simp[hfd]at hf
  |some fd=>
   simp only[hfd]at hf;cases hin:P.info? fd.type with
   |none=>simp[hin]at hf
   |some i=>
    simp[hin]at hf;simp[execOp,hρ hx,Instr.fieldAt,OH hun,hfd,fieldPlace,sizeOf,typeInfo,hin,hf,go_sem]
def Bm{v:Value}{c off:Nat}{w:World}{m:Nat}{cells:List Value}(h:Rd w v m cells)(hc:c<cells.length):∃ b o,br v c= .pointer (some ⟨b,o,none⟩)/\br v (c+off)= .pointer (some ⟨b,o+off,none⟩):=by
 obtain⟨a,cap,rfl,_,h⟩:=h;obtain⟨b,o,rfl,_⟩:=h c _ (py hc);exact⟨b,o+c,by simp[br,Ph],by simp[br,Ph,Qi]⟩
def Ev.Ig{x:Operand}{T:TypeId}{f off c c' m:Nat}{v:Value}{cells:List Value}(hf:qW P T f off=true)(hx:aH L x=some (br v c))(h:Rd w v m cells)(hc:c<cells.length)(ho:c+off=c'):
  Ev P n L w ⟨d,.fieldAddr T x f,ty,pos,af,g⟩ (br v c'):=by
 subst ho;obtain⟨b,o,h1,h2⟩:=Bm (off:=off) h hc;rw[h2];rw[h1]at hx;exact Ev.fieldAddr hf hx J
def BoundIs(L:aA)(dflt:Nat):Option Operand->Nat->Prop
 |none,l=>l=dflt
 |some o,l=>∃ k,aH L o=some (.int k (l:Int))
def fC{isSl:Bool}{len cap l h:Nat}{low high:Option Value}(hl:match low with|none=>l=0|some v=>∃ k,v= .int k (l:Int))(hh:match high with|none=>h=len|some v=>∃ k,v= .int k (h:Int))
  (h1:l<=h) (h2:h<=cap) (w:World):(Instr.sliceBounds isSl len cap low high none).run P w= .ok (l,h,cap) w:=by
 have h1':(0:Int)<=(l:Int)/\(l:Int)<=(h:Int):=by omega
 have h2':(0:Int)<=(h:Int)/\(h:Int)<=(cap:Int):=by omega
 cases low with
 |none=>
  cases high with
  |none=>simp at hl hh;subst hl;subst hh;simp[Instr.sliceBounds,go_sem]
  |some v=>simp at hl;obtain⟨k,rfl⟩:=hh;subst hl;simp[Instr.sliceBounds,Instr.sliceBound,asIntOf,h2,go_sem]
 |some u=>
  obtain⟨k,rfl⟩:=hl;cases high with
  |none=>simp at hh;subst hh;simp[Instr.sliceBounds,Instr.sliceBound,asIntOf,h1,go_sem]
  |some v=>obtain⟨k',rfl⟩:=hh;simp[Instr.sliceBounds,Instr.sliceBound,asIntOf,h1,h2,go_sem]
theorem BoundIs.of{L:aA}{ρ:Operand->Value}(hρ:∀ {x u},aH L x=some u->ρ x=u){dflt l:Nat}{lo:Option Operand}(h:BoundIs L dflt lo l):match lo.map ρ with|none=>l=dflt|some v=>∃ k,v= .int k (l:Int):=by
 cases lo with
 |none=>exact h
 |some o=>obtain⟨k,hk⟩:=h;exact⟨k,hρ hk⟩
def Ev.slice{x:Operand}{lo hi:Option Operand}{t e s b:Nat}{z v:Value}{m l h:Nat}{cells:List Value}(hty:SlTy P t e s z b)(hx:aH L x=some v)(hr:Rd w v m cells)
  (hl:BoundIs L 0 lo l) (hh:BoundIs L m hi h) (h1:l<=h) (h2:h<=m):Ev P n L w ⟨d,.slice t x lo hi none,ty,pos,af,g⟩ (gk s v l h):=.of λ ρ hρ=>by
 obtain⟨a,cap,rfl,hmc,hc⟩:=hr;obtain⟨inf,i1,i2,i3,i4⟩:=hty.info;have hsb:=λ w=>fC (P:=P) (isSl:=true) (len:=m) (cap:=cap) (hl.of hρ) (hh.of hρ) h1 (by omega) w;simp only[execOp,hρ hx,Instr.sliceAt,Instr.slice,ON,OH hty.und,Ox,Rx,hsb];simp[sizeOf,typeInfo,i1,i3,gk,go_sem]
def Ev.fA{x:Operand}{lo hi:Option Operand}{t l h:Nat}{s:ByteArray}(hu:P.underlying t=some .string)(hx:aH L x=some (.string s))
  (hl:BoundIs L 0 lo l) (hh:BoundIs L s.size hi h) (h1:l<=h) (h2:h<=s.size):Ev P n L w ⟨d,.slice t x lo hi none,ty,pos,af,g⟩ (.string (s.extract l h)):=.of λ ρ hρ=>by
 have hsb:=λ w=>fC (P:=P) (isSl:=false) (len:=s.size) (cap:=s.size) (hl.of hρ) (hh.of hρ) h1 h2 w;simp only[execOp,hρ hx,Instr.sliceAt,Instr.slice,ON,OH hu,Ox,Rx,Option.isSome_none,Pm,Py,OR,hsb]
end
theorem OpE.val{P:Program}{n:Nat}{L:aA}{w w':World}{o:Oper}{v:Value}{K:Value->World->Prop}(h:∀ ρ:Operand->Value,(∀ {x u},aH L x=some u->ρ x=u)->(execOp ρ o).run P w= .ok (.value v) w')
  (hk:K v w'):OpE P n L w o K:=λ a ha _ _ hn=>by
 simp only[Oper.wp,h a.eval (λ hx=>ha.eval hx),Oper.upon];exact hn _ _ hk
def OpE.unit{P:Program}{n:Nat}{L:aA}{w w':World}{o:Oper}{K:Value->World->Prop}(h:∀ ρ:Operand->Value,(∀ {x u},aH L x=some u->ρ x=u)->(execOp ρ o).run P w= .ok .skip w')
  (hk:K undef w'):OpE P n L w o K:=λ a ha _ _ hn=>by
 simp only[Oper.wp,h a.eval (λ hx=>ha.eval hx),Oper.upon];exact hn _ _ hk
def Src.MN{P:Program}{w:World}{s tx e' m:Nat}{y:Value}{news:List Value}(hk:P.underlying tx=some (.slice e'))(h:Rd w y m news)(hl:news.length=m*s)(h1:∀ u∈news,u.oneCell'=true):Src P s tx y m news w:=by
 obtain⟨a,cap,rfl,hn,hc⟩:=h;cases a with
 |some a=>
  refine Src.ofSlice w hk a m cap news hl (λ j u hu=>?_) h1;obtain⟨b,o,hb,hw⟩:=hc j u hu;cases hb;rw[Ph];exact hw
 |none=>
  have hnil:news=[]:=by
   cases news with
   |nil=>rfl
   |cons u r=>obtain⟨b,o,hb,_⟩:=hc 0 u J;cases hb
  subst hnil;have hf:∀ w':World,(Builtin.firstCells s m (.slice none m cap)).run P w'= .ok #[] w':=λ _=>J;exact⟨.inl ⟨e',hk⟩,λ _=>J,hf w,hf w.drew,hl,by simp⟩
def qX{P:Program}{w:World}{t tx ty e s b m n:Nat}{z v y:Value}{cells news:List Value}(hty:SlTy P t e s z b)(hown:w.ownsRow 0 e s v n cells)(hs:Src P s tx y m news w)
  (h63:n+m<=maxLen) (hb:(n+m)*b<=140737488355328):
  ∃ v' w',(Builtin.append_ #[t,tx] ty #[v,y]).run P w= .ok v' w'/\w'.ownsRow 0 e s v' (n+m) (cells++news)/\Chg (bz v) w w'/\∀ k∈bz v',k∈bz v\/(w.heap.size<=k/\k<w'.heap.size):=by
 obtain⟨inf,i1,i2,i3,i4⟩:=hty.info;have hsmall:((n+m:Nat):Int)<=9223372036854775807:=by simp only[maxLen]at h63;omega
 subst i3;subst i4;have hlen:(cells++news).length=(n+m)*inf.size:=by rw[AT,hown.1,hs.newsLen,Pp]
 have grown:∀ (base:Option Addr) (old:Nat),old<n+m->n<=old->(∀ w':World,w'.heap=w.heap->(Builtin.firstCells inf.size n (.slice base n old)).run P w'= .ok cells.toArray w')->
   ∃ v' w',(Builtin.append_ #[t,tx] ty #[.slice base n old,y]).run P w= .ok v' w'/\w'.ownsRow 0 e inf.size v' (n+m) (cells++news)/\Chg (bz (.slice base n old)) w w'/\∀ k∈bz v',k∈bz (.slice base n old)\/(w.heap.size<=k/\k<w'.heap.size):=by
  intro base old ho hno hf;have hr:=run_append_grow_src (P:=P) w t tx ty e inf z hty.und i1 i2 base n old cells (hf _ J) y m news hs ho hsmall (growslice_fits ho hb);refine⟨_,_,hr,⟨hlen,.inr ⟨_,_,_,J,IN _,QY w.drew _,RO w (n+m) old e,grownCap_le_maxLen w (n+m) old e h63,?_,?_⟩⟩,?_,?_⟩
  ·simp only[Sc,QM,size_zeroCells,hty.zs,hlen,<-Pp];congr 1;have:=RO w (n+m) old e;omega
  ·simp only[RN];rw[<-hlen];exact take_left
  ·exact⟨J,J,J,by simp,λ k hk _=>heap_alloc_old w.drew _ hk⟩
  ·intro k hk;simp[bz]at hk;subst hk;right;simp
 rcases hown.2 with⟨rfl,rfl⟩|⟨g,cap,cur,rfl,hbg,hg,hnc,hcm,hcs,htake⟩
 ·have hx:cells=[]:=OW (by simpa using hown.1);subst hx;by_cases hm:m=0
  ·subst hm;have hn:news=[]:=OW (by simpa using hs.newsLen);subst hn;have hc:=hs.cells;refine⟨.slice none 0 0,w,?_,World.ownsRow_nil w 0 e inf.size,⟨J,J,J,KP _,λ _ _ _=>J⟩,by simp[bz]⟩;rcases hs.kind with⟨e',hk⟩|hk<;>simp[Builtin.append_,OH hty.und,OH hk,sizeOf,typeInfo,i1,hs.len,hc]
  ·simp only[Pa]at grown⊢;exact grown none 0 (by omega) (KP _) (λ _ _=>by simp[Builtin.firstCells])
 ·by_cases hroom:n+m<=cap
  ·have hfit:0+n*inf.size+0+news.length<=cur.size:=by rw[hs.newsLen,hcs,Pa,PZ,<-Pp];exact PS _ hroom
   have hst:=Rj (P:=P) g (0+n*inf.size) e news 0 cur w hg hfit hs.one;have hr:(Builtin.append_ #[t,tx] ty #[.slice (some ⟨g,0,none⟩) n cap,y]).run P w= .ok (.slice (some ⟨g,0,none⟩) (n+m) cap) (w.setRow g (cur.toList.take (n*inf.size)++news++cur.toList.drop (n*inf.size+news.length)).toArray):=by
    simp only[Pa,PZ]at hst;rcases hs.kind with⟨e',hk⟩|hk<;>simp[Builtin.append_,OH hty.und,OH hk,sizeOf,typeInfo,i1,hs.len,hroom,hs.cells,Ph,hst]
   refine⟨_,_,hr,⟨hlen,.inr ⟨g,cap,_,J,hbg,Ss w g cur _ e _ hg,hroom,hcm,?_,?_⟩⟩,⟨J,J,J,by simp,λ k _ hk=>R5 w g k _ (λ e=>hk (by simp[bz,e]))⟩,λ k hk=>.inl hk⟩
   ·simp only[Pa,PZ]at hfit;simp only[QM,AT,M2,OJ,Qg];omega
   ·rw[htake,<-hlen];exact take_left
  ·refine grown (some ⟨g,0,none⟩) cap (by omega) hnc (λ w' hw'=>?_);refine run_firstCells_some w' inf.size n _ _ cap cells hown.1 (λ j u hu=>?_);have hcell:=hown.cells (g:=g) J j u hu;simp only[World.cell?,hw']at hcell⊢;exact hcell
section
variable {P:Program} {n:Nat} {L:aA} {w w0:World} {cs:List Chunk} {K:Value->World->Prop} {d:Option Nat} {ty:TypeId} {pos:String} {af:Array Edge} {g:Option (Nat×Bool)}
theorem OpE.append{x y:Operand}{t tx e s b i m nn:Nat}{z v u:Value}{cells news:List Value}(hty:SlTy P t e s z b)(hs:Sat w0 cs w)(hi:cs[i]? =some (qO v e s nn cells))(hx:aH L x=some v)(hy:aH L y=some u)
  (hsrc:Src P s tx u m news w) (h63:nn+m<=maxLen) (hb:(nn+m)*b<=140737488355328) (hk:∀ v' w',Sat w0 (cs.set i (qO v' e s (nn+m) (cells++news))) w'->Chg (bz v) w w'->K v' w'):
  OpE P n L w ⟨d,.call ⟨.builtin .append,#[x,y],#[t,tx]⟩,ty,pos,af,g⟩ K:=by
 obtain⟨v',w',hr,ho,hc,hf⟩:=qX (ty:=ty) hty (hs.get hi) hsrc h63 hb;refine .val (v:=v') (w':=w') (λ ρ hρ=>?_) (hk v' w' (hs.set i hi hc ho hf) hc);have h1:=hρ hx;have h2:=hρ hy;simp only[Ry,BigFrame.builtin_append];simp only[Qe,P5,QS,h1,h2,ON,hr,Ox,OR]
def OpE.box{x:Operand}{T:TypeId}{v:Value}(hs:Sat w0 cs w)(hx:aH L x=some v)
  (hk:∀ b w',Sat w0 (cs++[aw b T v.cells.toList]) w'->Chg [] w w'->w.heap.size<=b->K (.pointer (some ⟨b,0,none⟩)) w'):OpE P n L w ⟨d,.box T x,ty,pos,af,g⟩ K:=by
 refine .val (v:=.pointer (some ⟨w.heap.size,0,none⟩)) (w':=w.alloc (.cells v.cells.toList.toArray T)) (λ ρ hρ=>?_) (hk _ _ (hs.newObj T v.cells.toList) (.alloc _ _) (KP _));simp[execOp,hρ hx,Instr.box,newVar,newRow,go_sem]
theorem OpE.alloc{T:TypeId}{z:Value}(hs:Sat w0 cs w)(hz:(P.info? T).map (·.zero)=some (some z))
  (hk:∀ b w',Sat w0 (cs++[aw b T z.cells.toList]) w'->Chg [] w w'->w.heap.size<=b->K (.pointer (some ⟨b,0,none⟩)) w'):OpE P n L w ⟨d,.alloc T,ty,pos,af,g⟩ K:=by
 refine .val (v:=.pointer (some ⟨w.heap.size,0,none⟩)) (w':=w.alloc (.cells z.cells.toList.toArray T)) (λ ρ hρ=>?_) (hk _ _ (hs.newObj T z.cells.toList) (.alloc _ _) (KP _));cases hi:P.info? T with
 |none=>simp[hi]at hz
 |some i=>
  simp[hi]at hz;simp[execOp,Instr.alloc,zeroValue,typeInfo,hi,hz,newVar,newRow,go_sem]
def OpE.makeSlice{x y:Operand}{t e s b l c:Nat}{z:Value}{k k':IntKind}(hty:SlTy P t e s z b)(hs:Sat w0 cs w)(hx:aH L x=some (.int k (l:Int)))(hy:aH L y=some (.int k' (c:Int)))(hlc:l<=c)
  (hb:b*c<=281474976710656) (h63:c<=9223372036854775807)
  (hk:∀ v w',Sat w0 (cs++[qO v e s l ((madeCells z.cells (c*s)).toList.take (l*s))]) w'->Chg [] w w'->K v w'):OpE P n L w ⟨d,.makeSlice t x y,ty,pos,af,g⟩ K:=by
 obtain⟨inf,i1,i2,i3,i4⟩:=hty.info;have h8:(inf.bytes:Int)*(c:Int)<=281474976710656:=by rw[i4,<-Sk];omega
 have hr:=run_make (P:=P) (w:=w) t e inf z hty.und i1 i2 k k' (l:Int) (c:Int) (by omega) (by omega) h8 (by omega);rw[i3]at hr;simp only[Qb]at hr;refine .val (λ ρ hρ=>?_) (hk _ _ (hs.ou e s l c (madeCells z.cells (c*s)).toList (by unfold maxLen;omega) hlc (by rw[Qg,size_madeCells])) (.alloc _ _));simp only[execOp,hρ hx,hρ hy,ON,hr,Ox,OR,Array.toArray_toList]
def OpE.Lk{x:Operand}{t e b:Nat}{z v:Value}(hty:SlTy P t e 1 z b)(hs:Sat w0 cs w)(hx:aH L x=some v)(h1:v.oneCell'=true)
  (hk:∀ u w',Sat w0 (cs++[qO u e 1 1 [v]]) w'->Chg [] w w'->K u w'):OpE P n L w ⟨d,.buildSlice t 1 #[(0,x)],ty,pos,af,g⟩ K:=by
 obtain⟨inf,i1,i2,i3,i4⟩:=hty.info;have hz:=hty.zs;refine .val (λ ρ hρ=>?_) (hk _ _ (hs.ou e 1 1 1 [v] (by unfold maxLen;omega) (KP _) J) (.alloc _ _));have hvc:v.cells= #[v]:=by cases v<;>first|rfl|cases h1
 have hz':∃ q,z.cells= #[q]:=by
  obtain⟨q,hq⟩:=Sn.1 (by simpa using hz:z.cells.toList.length=1);exact⟨q,by apply RY;simpa using hq⟩
 obtain⟨q,hq⟩:=hz';have hrun:(Instr.buildSlice t 1 #[(0,v)]).run P w= .ok (.slice (some ⟨w.heap.size,0,none⟩) 1 1) (w.alloc (.cells #[v] e)):=by
  simp[Instr.buildSlice,OH hty.und,sizeOf,typeInfo,zeroValue,i1,i2,i3,Instr.fill,hvc,hq,newRow,Array.range_succ];simp[show Array.range 0=(#[]:Array Nat)from J]
 simp only[execOp,Qe,P5,QS,hρ hx,ON,hrun,Ox,OR]
def OpE.bu{x y:Operand}{T i b j:Nat}{v u0:Value}{U:TypeId}{cells:List Value}(hT:(P.info? T).map (·.size)=some 1)(hs:Sat w0 cs w)(hi:cs[i]? =some (aw b U cells))(hx:aH L x=some (.pointer (some ⟨b,j,none⟩)))
  (hy:aH L y=some v) (h1:v.oneCell'=true) (hj:cells[j]? =some u0) (hk:∀ w',Sat w0 (cs.set i (aw b U (cells.set j v))) w'->Chg [b] w w'->K undef w'):OpE P n L w ⟨d,.store T x y,ty,pos,af,g⟩ K:=by
 have hc:=hs.cell hi hj;have hf:=frozen_of_heap (hs.get hi) j;cases hin:P.info? T with
 |none=>simp[hin]at hT
 |some inf=>
  simp[hin]at hT;refine .unit (λ ρ hρ=>?_) (hk _ (hs.setObj (j:=j) (u:=v) hi) (Chg.setCell w ⟨b,j,none⟩ v));have hvc:v.cells= #[v]:=by cases v<;>first|rfl|cases h1
  have hrun:(Instr.storeAt T (.pointer (some ⟨b,j,none⟩)) v).run P w= .ok () (w.setCell ⟨b,j,none⟩ v):=by
   simp[Instr.storeAt,Instr.sureAddr,storeVar,sizeOf,typeInfo,hin,hT,hvc,storeCells,run_store P w _ v .plain h1,hc,hf,Addr.add]
  simp only[execOp,hρ hx,hρ hy,ON,hrun,Ox,OR]
def OpE.Ap{x y:Operand}{T i e s m c:Nat}{v u u0:Value}{cells:List Value}(hT:(P.info? T).map (·.size)=some 1)(hs:Sat w0 cs w)(hi:cs[i]? =some (qO v e s m cells))(hx:aH L x=some (br v c))
  (hy:aH L y=some u) (h1:u.oneCell'=true) (hc:cells[c]? =some u0) (hk:∀ w',Sat w0 (cs.set i (qO v e s m (cells.set c u))) w'->Chg (bz v) w w'->K undef w'):OpE P n L w ⟨d,.store T x y,ty,pos,af,g⟩ K:=by
 have hown:=hs.get hi;have hcl:c<cells.length:=(sp.1 hc).1;obtain⟨hl,⟨rfl,rfl⟩|⟨g,cap,cur,rfl,hg0,hh,hnc,hcm,hcs,ht⟩⟩:=id hown
 ·simp at hl;subst hl;simp at hcl
 have hcell:w.cell? ⟨g,c,none⟩=some u0:=by rw[World.ownsRow.cellAt hown c (by rw[<-hl];exact hcl)];exact hc
 have hf:=frozen_of_heap hh c;cases hin:P.info? T with
 |none=>simp[hin]at hT
 |some inf=>
  simp[hin]at hT;refine .unit (λ ρ hρ=>?_) (hk _ (hs.MY (j:=c) (u:=u) hi) (Chg.setCell w ⟨g,c,none⟩ u));have hvc:u.cells= #[u]:=by cases u<;>first|rfl|cases h1
  have hx':ρ x= .pointer (some ⟨g,c,none⟩):=by rw[hρ hx];simp[br,Ph]
  have hrun:(Instr.storeAt T (.pointer (some ⟨g,c,none⟩)) u).run P w= .ok () (w.setCell ⟨g,c,none⟩ u):=by
   simp[Instr.storeAt,Instr.sureAddr,storeVar,sizeOf,typeInfo,hin,hT,hvc,storeCells,run_store P w _ u .plain h1,hcell,hf,Addr.add]
  simp only[execOp,hx',hρ hy,ON,hrun,Ox,OR]
end
structure Enc(α:Type) where
 s:Nat
 enc:α->List Value
 len:∀ x,(enc x).length=s
 one:∀ x,∀ u∈enc x,u.oneCell'=true
def encI(k:IntKind):Enc Int:=⟨1,λ x=>[.int k x],λ _=>J,λ x u h=>by simp at h;subst h;rfl⟩
def ae(k:IntKind):Enc Nat:=⟨1,λ x=>[.int k (x:Int)],λ _=>J,λ x u h=>by simp at h;subst h;rfl⟩
def ah:Enc ByteArray:=⟨1,λ x=>[.string x],λ _=>J,λ x u h=>by simp at h;subst h;rfl⟩
def iV:Enc Bool:=⟨1,λ x=>[.bool x],λ _=>J,λ x u h=>by simp at h;subst h;rfl⟩
namespace Enc
variable {α:Type} (E:Enc α)
def all(l:List α):List Value:=l.flatMap E.enc
@[simp] theorem all_nil:E.all []=[]:=rfl
def all_cons(x:α)(l:List α):E.all (x::l)=E.enc x++E.all l:=by simp[all]
def all_append(l m:List α):E.all (l++m)=E.all l++E.all m:=by simp[all]
def all_one(x:α):E.all [x]=E.enc x:=by simp[all]
def all_length(l:List α):(E.all l).length=l.length*E.s:=by
 induction l with
 |nil=>simp
 |cons x r ih=>rw[all_cons,AT,ih,E.len,KW,Pp];omega
def all_oneCell(l:List α):∀ u∈E.all l,u.oneCell'=true:=λ u hu=>by
 obtain⟨x,_,hx⟩:=Q9.1 hu;exact E.one x u hx
def all_get{l:List α}{k:Nat}{x:α}(h:l[k]? =some x){off:Nat}(ho:off<E.s):(E.all l)[k*E.s+off]? =(E.enc x)[off]? :=by
 induction l generalizing k with
 |nil=>simp at h
 |cons y r ih=>
  rw[all_cons];cases k with
  |zero=>
   simp at h;subst h;rw[OO (by rw[E.len];omega),Rq,Pa]
  |succ k=>
   rw[OU (by rw[E.len,Pp];omega),E.len];have e:(k+1)*E.s+off-E.s=k*E.s+off:=by rw[Pp];omega
   rw[e];exact ih (by simpa using h)
theorem all_take(l:List α)(k:Nat):(E.all l).take (k*E.s)=E.all (l.take k):=by
 induction l generalizing k with
 |nil=>simp
 |cons y r ih=>
  cases k with
  |zero=>simp
  |succ k=>
   have e:(k+1)*E.s=(E.enc y).length+k*E.s:=by rw[E.len,Pp];omega
   rw[all_cons,Qz,all_cons,e,take_length_add_append,ih]
def all_drop(l:List α)(k:Nat):(E.all l).drop (k*E.s)=E.all (l.drop k):=by
 induction l generalizing k with
 |nil=>simp
 |cons y r ih=>
  cases k with
  |zero=>simp
  |succ k=>
   have e:(k+1)*E.s=(E.enc y).length+k*E.s:=by rw[E.len,Pp];omega
   rw[all_cons,drop_succ_cons,e,drop_length_add_append,ih]
end Enc
def RdL{α:Type}(w:World)(v:Value)(E:Enc α)(l:List α):Prop:=Rd w v l.length (E.all l)
def cL{α:Type}(v:Value)(e:Nat)(E:Enc α)(l:List α):Chunk:=qO v e E.s l.length (E.all l)
theorem RdL.ext{α:Type}{w w':World}{v:Value}{E:Enc α}{l:List α}(h:RdL w v E l)(he:Ext w w'):RdL w' v E l:=Rd.ext h he
theorem RdL.nil{α:Type}(w:World)(E:Enc α):RdL w (.slice none 0 0) E []:=Rd.nil w
theorem Sat.aa{α:Type}{w0 w:World}{cs:List Chunk}(h:Sat w0 cs w){e:Nat}{v:Value}{E:Enc α}{l:List α}(i:Nat)(hi:cs[i]? =some (cL v e E l)):RdL w v E l:=h.rd hi
theorem RdL.a7{α:Type}{w:World}{v:Value}{E:Enc α}{l:List α}(h:RdL w v E l):v.oneCell'=true:=Rd.a7 h
theorem RdL.sub{α:Type}{w:World}{v:Value}{E:Enc α}{l:List α}(hr:RdL w v E l){a b:Nat}(h1:a<=b)(h2:b<=l.length):RdL w (gk E.s v a b) E ((l.take b).drop a):=by
 have:=Rd.sub hr (size:=E.s) h1 h2;rw[E.all_take,E.all_drop]at this;unfold RdL;rw[show((l.take b).drop a).length=b-a by simp;omega];exact this
section
variable {P:Program} {n:Nat} {L:aA} {w w0:World} {cs:List Chunk} {K:Value->World->Prop} {d:Option Nat} {ty:TypeId} {pos:String} {af:Array Edge} {g:Option (Nat×Bool)} {α:Type} {E:Enc α}
def Ev.iw{x:Operand}{t e:TypeId}{v:Value}{l:List α}(hu:P.underlying t=some (.slice e))(hx:aH L x=some v)(h:RdL w v E l):
  Ev P n L w ⟨d,.call ⟨.builtin .len,#[x],#[t]⟩,ty,pos,af,g⟩ (.int .i64 (l.length:Int)):=Ev.N6 hu hx h
def Ev.fV{x i:Operand}{t e b:Nat}{z v:Value}{j:Nat}{l:List α}{k:IntKind}(hty:SlTy P t e E.s z b)(hx:aH L x=some v)(hi:aH L i=some (.int k (j:Int)))(h:RdL w v E l)(hj:j<l.length):
  Ev P n L w ⟨d,.indexAddr t x i,ty,pos,af,g⟩ (br v (j*E.s)):=Ev.indexAddr hty hx hi h (E.all_length l) hj
def Ev.O1{x:Operand}{T:TypeId}{v u:Value}{j:Nat}{l:List α}{a:α}(hT:jh P T=true)(hx:aH L x=some (br v (j*E.s)))(h:RdL w v E l)(ha:l[j]? =some a)(hs:0<E.s)(hu:(E.enc a)[0]? =some u):
  Ev P n L w ⟨d,.load T x,ty,pos,af,g⟩ u:=Ev.FF hT hx h (by have:=E.all_get ha hs;rw[PZ]at this;rw[this];exact hu)
def Ev.MQ{x:Operand}{T:TypeId}{v u:Value}{j off:Nat}{l:List α}{a:α}(hT:jh P T=true)(hx:aH L x=some (br v (j*E.s+off)))(h:RdL w v E l)(ha:l[j]? =some a)(hs:off<E.s)(hu:(E.enc a)[off]? =some u):
  Ev P n L w ⟨d,.load T x,ty,pos,af,g⟩ u:=Ev.FF hT hx h (by rw[E.all_get ha hs];exact hu)
def Ev.MH{x:Operand}{T:TypeId}{f off:Nat}{v:Value}{j:Nat}{l:List α}(hf:qW P T f off=true)(hx:aH L x=some (br v (j*E.s)))(h:RdL w v E l)(hj:j<l.length)(hs:0<E.s):
  Ev P n L w ⟨d,.fieldAddr T x f,ty,pos,af,g⟩ (br v (j*E.s+off)):=
 Ev.Ig hf hx h (by rw[E.all_length];exact QG hj hs) J
def Ev.aV{x:Operand}{lo hi:Option Operand}{t e b:Nat}{z v:Value}{a c:Nat}{l:List α}(hty:SlTy P t e E.s z b)(hx:aH L x=some v)(hr:RdL w v E l)
  (hl:BoundIs L 0 lo a) (hh:BoundIs L l.length hi c) (h1:a<=c) (h2:c<=l.length):Ev P n L w ⟨d,.slice t x lo hi none,ty,pos,af,g⟩ (gk E.s v a c):=Ev.slice hty hx hr hl hh h1 h2
def Src.FE{s tx e':Nat}{y:Value}{l:List α}(hs:E.s=s)(hk:P.underlying tx=some (.slice e'))(h:RdL w y E l):Src P s tx y l.length (E.all l) w:=by
 subst hs;exact Src.MN hk h (E.all_length l) (E.all_oneCell l)
def OpE.ai{x y:Operand}{t tx e b e':Nat}{z v u:Value}{l m:List α}(i:Nat)(hty:SlTy P t e E.s z b)(hs:Sat w0 cs w)(hi:cs[i]? =some (cL v e E l))(hx:aH L x=some v)(hy:aH L y=some u)
  (hk:P.underlying tx=some (.slice e')) (hr:RdL w u E m) (h63:l.length+m.length<=9223372036854775807) (hb:(l.length+m.length)*b<=140737488355328) (hc:∀ v' w',Sat w0 (cs.set i (cL v' e E (l++m))) w'->Chg (bz v) w w'->K v' w'):
  OpE P n L w ⟨d,.call ⟨.builtin .append,#[x,y],#[t,tx]⟩,ty,pos,af,g⟩ K:=
 OpE.append hty hs hi hx hy (Src.FE J hk hr) (by unfold maxLen;omega) hb λ v' w' h1 h2=>hc v' w' (by unfold cL;rw[E.all_append,AT];exact h1) h2
def OpE.iy{x y:Operand}{t tx e b:Nat}{z v u:Value}{l m:List α}(i:Nat)(hty:SlTy P t e E.s z b)(hs:Sat w0 cs w)(hi:cs[i]? =some (cL v e E l))(hx:aH L x=some v)(hy:aH L y=some u)
  (hr:Src P E.s tx u m.length (E.all m) w) (h63:l.length+m.length<=9223372036854775807) (hb:(l.length+m.length)*b<=140737488355328) (hc:∀ v' w',Sat w0 (cs.set i (cL v' e E (l++m))) w'->Chg (bz v) w w'->K v' w'):
  OpE P n L w ⟨d,.call ⟨.builtin .append,#[x,y],#[t,tx]⟩,ty,pos,af,g⟩ K:=
 OpE.append hty hs hi hx hy hr (by unfold maxLen;omega) hb λ v' w' h1 h2=>hc v' w' (by unfold cL;rw[E.all_append,AT];exact h1) h2
def OpE.cE{x:Operand}{t e b:Nat}{z v:Value}(E:Enc α)(a:α)(hty:SlTy P t e E.s z b)(he:E.enc a=[v])(hs:Sat w0 cs w)(hx:aH L x=some v)
  (hk:∀ u w',Sat w0 (cs++[cL u e E [a]]) w'->Chg [] w w'->K u w'):OpE P n L w ⟨d,.buildSlice t 1 #[(0,x)],ty,pos,af,g⟩ K:=by
 have h1:E.s=1:=by have:=E.len a;rw[he]at this;simpa using this.symm
 refine OpE.Lk (h1▸hty) hs hx (E.one a v (by rw[he];simp)) λ u w' hS hC=>hk u w' ?_ hC;unfold cL;rw[E.all_one,he,h1];exact hS
def qY{z:Value}{a:α}(he:E.enc a=[z])(h1:E.s=1)(c l:Nat)(hz:z.oneCell'=true)(h:l<=c):(madeCells z.cells (c*E.s)).toList.take (l*E.s)=E.all (List.replicate l a):=by
 have hvc:z.cells= #[z]:=by cases z<;>first|rfl|cases hz
 rw[h1,PL,PL,hvc,toList_madeCells_one,take_replicate,Pq h];induction l with
 |zero=>simp
 |succ l ih=>rw[R1,R1,Enc.all_cons,he,<-ih (by omega)];rfl
def OpE.eC{x y:Operand}{t e b l c:Nat}{z:Value}{k k':IntKind}(E:Enc α)(a:α)(hty:SlTy P t e E.s z b)(he:E.enc a=[z])(hs:Sat w0 cs w)(hx:aH L x=some (.int k (l:Int)))(hy:aH L y=some (.int k' (c:Int)))
  (hlc:l<=c) (hb:b*c<=281474976710656) (h63:c<=9223372036854775807) (hk:∀ v w',Sat w0 (cs++[cL v e E (List.replicate l a)]) w'->Chg [] w w'->K v w'):OpE P n L w ⟨d,.makeSlice t x y,ty,pos,af,g⟩ K:=by
 have h1:E.s=1:=by have:=E.len a;rw[he]at this;simpa using this.symm
 refine OpE.makeSlice hty hs hx hy hlc hb h63 λ v w' hS hC=>hk v w' ?_ hC;rw[qY he h1 c l (E.one a z (by rw[he];simp)) hlc]at hS;unfold cL;rw[PW];exact hS
def tq{l:List α}{j:Nat}{a:α}{u:Value}(he:E.enc a=[u])(hj:j<l.length):(E.all l).set (j*E.s) u=E.all (l.set j a):=by
 have h1:E.s=1:=by have:=E.len a;rw[he]at this;simpa using this.symm
 have e1:l=l.take j++l[j]::l.drop (j+1):=by simp
 have e2:l.set j a=l.take j++a::l.drop (j+1):=by
  rw[PA];simp[hj]
 obtain⟨q,hq⟩:=Sn.1 (by rw[E.len l[j],h1]:(E.enc l[j]).length=1);have hl:(E.all (l.take j)).length=j:=by rw[E.all_length,h1];simp;omega
 rw[e2,E.all_append,E.all_cons,he]
 conv=>lhs;rw[e1,E.all_append,E.all_cons,hq]
 rw[h1,PL,Q2 _ _ (by omega),hl,PX];rfl
theorem OpE.setL{x y:Operand}{T e j:Nat}{v u:Value}{l:List α}{a:α}(i:Nat)(hT:(P.info? T).map (·.size)=some 1)(hs:Sat w0 cs w)(hi:cs[i]? =some (cL v e E l))(hx:aH L x=some (br v (j*E.s)))
  (hy:aH L y=some u) (he:E.enc a=[u]) (hj:j<l.length) (hk:∀ w',Sat w0 (cs.set i (cL v e E (l.set j a))) w'->Chg (bz v) w w'->K undef w'):OpE P n L w ⟨d,.store T x y,ty,pos,af,g⟩ K:=by
 have h1:E.s=1:=by have:=E.len a;rw[he]at this;simpa using this.symm
 have hget:(E.all l)[j*E.s]? =some _:=py (by rw[E.all_length];exact QG hj (by omega));refine OpE.Ap hT hs hi hx hy (E.one a u (by rw[he];simp)) hget λ w' hS hC=>hk w' ?_ hC;rw[tq he hj]at hS;unfold cL;rw[Oz];exact hS
def Sat.ao{w0 w:World}{cs:List Chunk}(h:Sat w0 cs w)(e:Nat)(E:Enc α):Sat w0 (cs++[cL (.slice none 0 0) e E []]) w:=h.L4 e E.s
end
def Sat.bL{α:Type}{w0 w:World}{cs:List Chunk}(h:Sat w0 cs w)(i:Nat){v:Value}{e:Nat}{E:Enc α}{l l':List α}(hi:cs[i]? =some (cL v e E l))(hq:l=l'):Sat w0 (cs.set i (cL v e E l')) w:=by
 subst hq;obtain⟨hil,hci⟩:=sp.1 hi;rw[<-hci,St hil];exact h
