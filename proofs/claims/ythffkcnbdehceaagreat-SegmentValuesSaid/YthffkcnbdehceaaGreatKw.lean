/-
 KW:A SMALL PROGRAM LOGIC OVER THE KIT'S RULES. A frame is a list of known slots,a region is walked operation by operation (in the text's order,or along a plan where the order is drawn).
 Our own text;it names no program.
-/
import Derived.Test.YthffkcnbdehceaaGreatAl
import Derived.WalkKit
import Derived.WalkLawsBesides
import Derived.WalkSpells
import Derived.OrdersHeld
import Derived.Deep.AppendSrc
import Derived.Deep.LoopGhost
import Derived.Laws.CopyOwn
set_option linter.all false
open Go.Proofs.YthffkcnbdehceaaGreat
open List hiding all all_append all_cons all_nil
namespace Go.Kw
open Go.RowKit
abbrev aA:=List (Nat×Value)
def look:aA->Nat->Option Value
 |[],_=>none
 |(t,v)::r,u=>cond (Nat.beq t u) (some v) (look r u)
def aJ(L:aA):Operand->Option Value
 | .tmp t=>look L t
 | .const v=>some v
 | .global g=>some (.pointer (some ⟨g,0,none⟩))
 | .func f=>some (.func (.func f) #[] #[])
def oY(L:aA):List Operand->Option (List Value)
 |[]=>some []
 |x::r=>(aJ L x).bind λ v=>(oY L r).map (v:: ·)
structure Fits(n:Nat)(L:aA)(a:Act):Prop where
 size:a.tmps.size=n
 slot:∀ t v,look L t=some v->a.tmps[t]? =some v
 defers:a.defers=[]
theorem Fits.eval{n:Nat}{L:aA}{a:Act}(h:Fits n L a){x:Operand}{v:Value}(hx:aJ L x=some v):a.eval x=v:=by
 cases x with
 |tmp t=>have:=h.slot t v hx;simp[Act.eval,SU,this]
 |const u=>simpa[aJ,Act.eval]using hx
 |global g=>simpa[aJ,Act.eval]using hx
 |func f=>simpa[aJ,Act.eval]using hx
def Fits.Ak{n:Nat}{L:aA}{a:Act}(h:Fits n L a):∀ {xs:List Operand} {vs:List Value},oY L xs=some vs->xs.map a.eval=vs
 |[],vs,hx=>by simpa[oY]using hx
 |x::r,vs,hx=>by
  simp only[oY,TC,SD]at hx;obtain⟨v,hv,us,hus,rfl⟩:=hx;simp[h.eval hv,h.Ak hus]
def j9{L:aA}{d t:Nat}{v:Value}:look ((d,v)::L) t=if d=t then some v else look L t:=by
 simp only[look];by_cases e:d=t
 ·subst e;simp
 ·have:Nat.beq d t=false:=by
   cases h:Nat.beq d t with
   |false=>rfl
   |true=>exact absurd (SL h) e
  simp[e,this]
theorem Fits.put{n:Nat}{L:aA}{a:Act}(h:Fits n L a){d:Nat}{v:Value}(hd:d<n):Fits n ((d,v)::L) (a.put (some d) v):=by
 refine⟨by simp[Act.put,h.size],λ t u hu=>?_,h.defers⟩;rw[j9]at hu;simp only[Act.put,Array.getElem?_setIfInBounds];by_cases e:d=t
 ·subst e;simp at hu;simp[hu,h.size,hd]
 ·simp only[e,SX]at hu⊢;exact h.slot t u hu
def Weak:aA->aA->Prop
 |[],_=>True
 |(t,v)::r,L=>look L t=some v/\Weak r L
theorem Weak.look{L' L:aA}(h:Weak L' L):∀ {t v},Kw.look L' t=some v->Kw.look L t=some v:=by
 induction L' with
 |nil=>intro t v h;simp[Kw.look]at h
 |cons p r ih=>
  intro t v hv;obtain⟨d,u⟩:=p;rw[j9]at hv;by_cases e:d=t
  ·subst e;simp at hv;subst hv;exact h.1
  ·simp[e]at hv;exact ih h.2 hv
theorem Fits.weaken{n:Nat}{L L':aA}{a:Act}(h:Fits n L a)(hw:Weak L' L):Fits n L' a:=
 ⟨h.size,λ t v hv=>h.slot t v (hw.look hv),h.defers⟩
structure Qs where
 nrm:aA->World->Prop
 ret:aA->World->Prop
 ext:List (Nat×(aA->World->Prop))
 gto:List (Nat×(aA->World->Prop))
def kN:List (Nat×(aA->World->Prop))->Nat->aA->World->Prop
 |[],_=>λ _ _=>False
 |(t,R)::r,u=>cond (Nat.beq t u) R (kN r u)
def Ns(n:Nat)(Q:Qs):Exit->Act->World->Prop
 | .normal,a,w=>∃ L,Fits n L a/\Q.nrm L w
 | .ret,a,w=>∃ L,Fits n L a/\Q.ret L w
 | .exit id,a,w=>∃ L,Fits n L a/\kN Q.ext id L w
 | .goto l,a,w=>∃ L,Fits n L a/\kN Q.gto l L w
 |_,_,_=>False
def CW(P:Program)(n:Nat)(c:Code)(Q:Qs)(L:aA)(w:World):Prop:=∀ a,Fits n L a->c.wp P (Ns n Q) a w
section
variable {P:Program} {n:Nat} {Q:Qs} {L:aA} {w:World}
theorem CW.weaken{c:Code}(L':aA)(hw:Weak L' L)(h:CW P n c Q L' w):CW P n c Q L w:=λ a ha=>h a (ha.weaken hw)
def CW.Q6(h:Q.nrm L w):CW P n .skip Q L w:=λ _ ha=>wp_skip ⟨L,ha,h⟩
def CW.R8(h:Q.ret L w):CW P n .ret Q L w:=λ _ ha=>wp_ret ⟨L,ha,h⟩
def CW.MT{id:Nat}(h:kN Q.ext id L w):CW P n (.exit id) Q L w:=λ _ ha=>wp_exit ⟨L,ha,h⟩
def CW.Q5{l:Nat}(h:kN Q.gto l L w):CW P n (.goto l) Q L w:=λ _ ha=>wp_goto ⟨L,ha,h⟩
def CW.R4{x y:Code}(h:CW P n x {Q with nrm:=λ L w=>CW P n y Q L w} L w):CW P n (.seq x y) Q L w:=λ a ha=>
 wp_seq (Uw (h a ha) λ e a' w' q=>by
  cases e<;>first|(obtain⟨L',hL,hc⟩:=q;exact hc a' hL)|exact q)
def CW.M4{x y:Code}(R:aA->World->Prop)(h:CW P n x {Q with nrm:=R} L w)(h2:∀ L' w',R L' w'->CW P n y Q L' w'):CW P n (.seq x y) Q L w:=λ a ha=>
 wp_seq (Uw (h a ha) λ e a' w' q=>by
  cases e<;>first|(obtain⟨L',hL,hc⟩:=q;exact h2 L' w' hc a' hL)|exact q)
def CW.QU{c:Code}(R:aA->World->Prop)(h:CW P n c {Q with nrm:=R} L w)(h2:∀ L' w',R L' w'->Q.nrm L' w'):CW P n c Q L w:=λ a ha=>
 Uw (h a ha) λ e a' w' q=>by
  cases e<;>first|(obtain⟨L',hL,hc⟩:=q;exact⟨L',hL,h2 L' w' hc⟩)|exact q
def CW.Dn{c:Operand}{x y:Code}{b:Bool}(hc:aJ L c=some (.bool b))(ht:b=true->CW P n x Q L w)(hf:b=false->CW P n y Q L w):CW P n (.cond c x y) Q L w:=
 λ a ha=>wp_cond_split (ha.eval hc) (λ h=>ht h a ha) (λ h=>hf h a ha)
def CW.OM{c:Operand}{x y:Code}{p:Prop}{dp:Decidable p}(hc:aJ L c=some (.bool (@decide p dp)))(ht:p->CW P n x Q L w)(hf:¬ p->CW P n y Q L w):CW P n (.cond c x y) Q L w:=
 CW.Dn hc (λ h=>ht (Sw h)) (λ h=>hf (Tx h))
def CW.OK{c:Operand}{x y:Code}{b:Bool}(hc:aJ L c=some (.bool b))(hb:b=true)(ht:CW P n x Q L w):CW P n (.cond c x y) Q L w:=
 CW.Dn hc (λ _=>ht) (λ h=>absurd (hb.symm.trans h) (by simp))
def CW.OG{c:Operand}{x y:Code}{b:Bool}(hc:aJ L c=some (.bool b))(hb:b=false)(hf:CW P n y Q L w):CW P n (.cond c x y) Q L w:=
 CW.Dn hc (λ h=>absurd (hb.symm.trans h) (by simp)) (λ _=>hf)
def eF{E:List (Nat×(aA->World->Prop))}{i id:Nat}{R:aA->World->Prop}:kN ((i,R)::E) id=if i=id then R else kN E id:=by
 simp only[kN];by_cases e:i=id
 ·subst e;simp
 ·have:Nat.beq i id=false:=by
   cases h:Nat.beq i id with
   |false=>rfl
   |true=>exact absurd (SL h) e
  simp[e,this]
def CW.OP{id:Nat}{c:Code}(h:CW P n c {Q with ext:=(id,Q.nrm)::Q.ext} L w):CW P n (.block id c) Q L w:=λ a ha=>
 wp_block (Uw (h a ha) λ e a' w' q=>by
  cases e with
  |exit id'=>
   obtain⟨L',hL,hc⟩:=q;simp only[eF]at hc;simp only[Exit.inBlock];by_cases hid:id'=id
   ·subst hid;rw[No Y]at hc⊢;exact⟨L',hL,hc⟩
   ·rw[M2 hid];rw[M2 (λ e=>hid e.symm)]at hc;exact⟨L',hL,hc⟩
  |normal=>exact q
  |ret=>exact q
  |goto l=>exact q
  |panic c=>exact q
  |outgrown=>exact q)
def CW.Q2{c:Code}{α:Type}(K:α->aA)(I:α->World->Prop)(μ:α->Nat)(x₀:α)(h0:Weak (K x₀) L)(hI:I x₀ w)
  (round:∀ x w,I x w->CW P n c {Q with nrm:=λ L' w'=>∃ x',Weak (K x') L'/\I x' w'/\μ x'<μ x} (K x) w):CW P n (.loop c) Q L w:=λ a ha=>by
 refine wp_loop_ghost (λ m a w=>∃ x,Fits n (K x) a/\I x w/\μ x=m) (μ x₀) ⟨x₀,ha.weaken h0,hI,Y⟩ ?_;rintro m a w ⟨x,hF,hx,rfl⟩;refine Uw (round x w hx a hF) λ e a' w' q=>?_;cases e with
 |normal=>
  obtain⟨L',hL,x',hw',hI',hlt⟩:=q;exact⟨μ x',hlt,x',hL.weaken hw',hI',Y⟩
 |ret=>exact q
 |exit id=>exact q
 |goto l=>exact q
 |panic c=>exact q
 |outgrown=>exact q
end
def RQ(n:Nat)(K:aA->World->Prop):Exit->Act->World->Prop
 | .normal,a,w=>∃ L,Fits n L a/\K L w
 |_,_,_=>False
def RT(P:Program)(n:Nat)(ops:List Oper)(l:List Oper)(K:aA->World->Prop)(L:aA)(w:World):Prop:=
 ∀ a,Fits n L a->wpList P ops.toArray (RQ n K) l a w
def Ev(P:Program)(n:Nat)(L:aA)(w:World)(o:Oper)(v:Value):Prop:=
 ∀ a,Fits n L a->(execOp a.eval o).run P w= .ok (.value v) w
def OpE(P:Program)(n:Nat)(L:aA)(w:World)(o:Oper)(K:Value->World->Prop):Prop:=
 ∀ a,Fits n L a->∀ (next:Act->World->Prop) (Q:Exit->Act->World->Prop),(∀ v w',K v w'->next (a.put o.dst v) w')->o.wp P a w next Q
def putK(d:Option Nat)(v:Value)(L:aA):aA:=
 match d with
 |some t=>(t,v)::L
 |none=>L
def bV(n:Nat):Option Nat->Bool
 |some t=>Nat.ble (t+1) n
 |none=>true
theorem Fits.putK{n:Nat}{L:aA}{a:Act}(h:Fits n L a){d:Option Nat}{v:Value}(hd:bV n d=true):Fits n (Kw.putK d v L) (a.put d v):=by
 cases d with
 |none=>exact h
 |some t=>exact h.put (Sh hd)
def tR(ops:List Oper)(j:Nat):Option Nat:=
 match ops[j]? with
 |some o=>o.dst
 |none=>none
def Fits.yielded{n:Nat}{L:aA}{a:Act}(h:Fits n L a){ops:List Oper}{j d:Nat}{b:Bool}(hj:tR ops j=some d)(hd:look L d=some (.bool b)):Go.yielded ops.toArray a.tmps j=some b:=by
 have h1:=h.slot d _ hd;unfold tR at hj;unfold Go.yielded;cases ho:ops[j]? with
 |none=>simp[ho]at hj
 |some o=>simp only[ho]at hj;simp[ho,hj,h1]
def Fits.Al{n:Nat}{L:aA}{a:Act}(h:Fits n L a){ops:List Oper}{j d:Nat}(hj:tR ops j=some d)(hd:look L d=some undef):Go.yielded ops.toArray a.tmps j=none:=by
 have h1:=h.slot d _ hd;unfold tR at hj;unfold Go.yielded;cases ho:ops[j]? with
 |none=>simp[ho]at hj
 |some o=>simp only[ho]at hj;simp[ho,hj,h1,undef]
section
variable {P:Program} {n:Nat} {Q:Qs} {L:aA} {w:World} {K:aA->World->Prop} {ops:List Oper}
def RQ.lift{n:Nat}{Q:Qs}:∀ e a w,RQ n Q.nrm e a w->Ns n Q e a w:=λ e a w h=>by
 cases e<;>first|exact h|exact(h:False).elim
def CW.M3{id:Nat}{l:List Oper}(h:RT P n l l Q.nrm L w):CW P n (.region id l.toArray false) Q L w:=λ a ha=>
 Uw (wp_region_list (by simpa using h a ha)) RQ.lift
theorem RT.nil(h:K L w):RT P n ops [] K L w:=λ _ ha=>wpList_nil ⟨L,ha,h⟩
theorem RT.ev{o:Oper}{r:List Oper}{v:Value}(hg:o.guard=none)(hd:bV n o.dst=true)(he:Ev P n L w o v)(h:RT P n ops r K (putK o.dst v L) w):RT P n ops (o::r) K L w:=λ a ha=>by
 refine wpList_plain hg λ K' hK=>?_;simp only[Oper.wp,he a ha,Oper.upon];exact hK _ _ (h _ (ha.putK hd))
def jI(n:Nat)(o:Oper):Bool:=o.guard.isNone&&bV n o.dst
def ew{n:Nat}{o:Oper}(h:jI n o=true):o.guard=none:=by
 unfold jI at h;simp only[RC,UM]at h;exact h.1
def ez{n:Nat}{o:Oper}(h:jI n o=true):bV n o.dst=true:=by
 unfold jI at h;simp only[RC]at h;exact h.2
def fH(n:Nat)(ops:List Oper)(i:Nat):Option Oper:=match ops[i]? with
 |some o=>cond (jI n o) (some o) none
 |none=>none
def dq{n:Nat}{ops:List Oper}{i:Nat}{o:Oper}(h:fH n ops i=some o):ops[i]? =some o/\jI n o=true:=by
 unfold fH at h;cases hq:ops[i]? with
 |none=>rw[hq]at h;cases h
 |some q=>
  rw[hq]at h;cases hp:jI n q with
  |false=>simp[hp]at h
  |true=>simp[hp]at h;subst h;exact⟨Y,hp⟩
theorem RT.e{o:Oper}{r:List Oper}{v:Value}(hg:jI n o=true)(he:Ev P n L w o v)(h:RT P n ops r K (putK o.dst v L) w):RT P n ops (o::r) K L w:=RT.ev (ew hg) (ez hg) he h
theorem RT.Jq{o:Oper}{r:List Oper}(hg:o.guard=none)(hd:bV n o.dst=true)(he:OpE P n L w o λ v w'=>RT P n ops r K (putK o.dst v L) w'):RT P n ops (o::r) K L w:=λ a ha=>
 wpList_plain hg λ _ hK=>he a ha _ _ λ _ _ h=>hK _ _ (h _ (ha.putK hd))
theorem RT.f{o:Oper}{r:List Oper}(hg:jI n o=true)(he:OpE P n L w o λ v w'=>RT P n ops r K (putK o.dst v L) w'):RT P n ops (o::r) K L w:=RT.Jq (ew hg) (ez hg) he
theorem RT.yes{o:Oper}{r:List Oper}{j d:Nat}{b b':Bool}(hg:o.guard=some (j,b))(hj:tR ops j=some d)(hb:look L d=some (.bool b'))(hbb:b'=b)
  (h:RT P n ops ({o with guard:=none}::r) K L w):RT P n ops (o::r) K L w:=λ a ha=>by
 subst hbb;have h':=h a ha;unfold wpList at h'⊢;have:Region.wanted o (yielded ops.toArray a.tmps)=true:=by simp[Region.wanted,hg,ha.yielded hj hb]
 have h2:Region.wanted {o with guard:=none} (yielded ops.toArray a.tmps)=true:=by simp[Region.wanted]
 simp only[this,h2,TJ]at h'⊢;exact h'
theorem RT.no{o:Oper}{r:List Oper}{j d:Nat}{b b':Bool}(hg:o.guard=some (j,b))(hj:tR ops j=some d)(hb:look L d=some (.bool b'))(hne:b'= !b)(hd:bV n o.dst=true)
  (h:RT P n ops r K (putK o.dst undef L) w):RT P n ops (o::r) K L w:=λ a ha=>by
 have:Region.wanted o (yielded ops.toArray a.tmps)=false:=by
  simp only[Region.wanted,hg,ha.yielded hj hb];subst hne;cases b<;>simp
 exact wpList_skip this (h _ (ha.putK hd))
def RT.Rl{o:Oper}{r:List Oper}{j d:Nat}{b:Bool}(hg:o.guard=some (j,b))(hj:tR ops j=some d)(hb:look L d=some undef)(hd:bV n o.dst=true)
  (h:RT P n ops r K (putK o.dst undef L) w):RT P n ops (o::r) K L w:=λ a ha=>
 wpList_skip (by simp only[Region.wanted,hg,ha.Al hj hb];rfl) (h _ (ha.putK hd))
def cX(b:Option Nat)(S1 S2:World->Prop)(l:Array Bool)(w:World):Prop:=
 match b with
 |none=>S2 w
 |some b=>if l.getD b true=true then S2 w else S1 w
def jJ(P:Program)(ops:Array Oper)(Q:Exit->Act->World->Prop)(b:Option Nat)(S1 S2:World->Prop):Nat->Array Bool->Act->World->Prop
 |0,listed,a,w=>Region.ready .any ops listed=[]/\Q .normal a w
 |fuel+1,listed,a,w=>
  (Region.ready .any ops listed=[]->Q .normal a w)/\
  ∀ i∈Region.ready .any ops listed,wpOp P ops Q i (λ a' w'=>cX b S1 S2 (listed.setIfInBounds i true) w'/\jJ P ops Q b S1 S2 fuel (listed.setIfInBounds i true) a' w') a w
def mA{P:Program}{ops:Array Oper}{Q:Exit->Act->World->Prop}{b:Option Nat}{S1 S2:World->Prop}:∀ (fuel:Nat) (listed:Array Bool) (a:Act) (w:World),jJ P ops Q b S1 S2 fuel listed a w->wpAny P .any ops Q fuel listed a w
 |0,_,_,_,h=>h
 |fuel+1,_,_,_,h=>⟨h.1,λ i hi=>Ur (λ a' w' h'=>mA fuel _ a' w' h'.2) (h.2 i hi)⟩
def yI{P:Program}{ops:Array Oper}{Q:Exit->Act->World->Prop}{b:Option Nat}{S1 S2:World->Prop}{listed:Array Bool}{a:Act}{w:World}(hr:Region.ready .any ops listed=[])(h:Q .normal a w):
  ∀ fuel,jJ P ops Q b S1 S2 fuel listed a w
 |0=>⟨hr,h⟩
 |_+1=>⟨λ _=>h,by rw[hr];simp⟩
def gy{P:Program}{ops:Array Oper}{Q:Exit->Act->World->Prop}{b:Option Nat}{S1 S2 T:World->Prop}{i:Nat}{oi:Oper}{v:Value}(hi:ops[i]? =some oi)(hsel:∀ (j:Nat) (o:Oper) cs b,ops[j]? =some o->o.op≠.select cs b)
  (hQ:∀ c a w,Q (.panic c) (a.put oi.dst v) w->Q (.panic c) a w) (I:Array Bool->Prop)
  (hI:∀ l j oj,I l->ops[j]? =some oj->j≠i->(∀ e∈oj.after,Region.binds .any e=true->e.on≠i)->I (l.setIfInBounds j true))
  (hT:∀ l w,I l->cX b S1 S2 l w->T w) (hc:∀ l w,I l->(cX b S1 S2 (l.setIfInBounds i true) w↔cX b S1 S2 l w)):
  ∀ (fuel:Nat) (listed:Array Bool) (a:Act) (w:World),I listed->
   (∀ j oj,ops[j]? =some oj->j≠i->listed.getD j true=false->(∀ e∈oj.after,Region.binds .any e=true->e.on≠i)->oi.apart ops oj=true)->
   i∈Region.ready .any ops listed->YieldsIf P ops T oi v a->cX b S1 S2 listed w->
   jJ P ops Q b S1 S2 fuel (listed.setIfInBounds i true) (a.put oi.dst v) w->jJ P ops Q b S1 S2 (fuel+1) listed a w:=by
 intro fuel;induction fuel with
 |zero=>
  intro listed a w hIl _ hr hy hS H;refine⟨λ h=>(by rw[h]at hr;cases hr),λ j hj=>?_⟩;by_cases hji:j=i
  ·subst hji;exact hy.wpOp hi (hT _ _ hIl hS) ⟨(hc _ _ hIl).2 hS,H⟩
  ·have:=ready_mono hj hji;rw[H.1]at this;cases this
 |succ fuel ih=>
  intro listed a w hIl hfree hr hy hS H;refine⟨λ h=>(by rw[h]at hr;cases hr),λ j hj=>?_⟩;by_cases hji:j=i
  ·subst hji;exact hy.wpOp hi (hT _ _ hIl hS) ⟨(hc _ _ hIl).2 hS,H⟩
  ·have h1:=H.2 j (ready_mono hj hji);obtain⟨hjun,oj,hoj,hall⟩:=mem_ready.1 hj;have hnot:∀ e∈oj.after,Region.binds .any e=true->e.on≠i:=λ e he hb heq=>by
    have h1:=hall e he hb;have h0:=(mem_ready.1 hr).1;rw[heq]at h1;rcases RG i listed.size with h'|h'
    ·simp[h']at h0 h1;rw[h0]at h1;cases h1
    ·simp[V0 h']at h1
   have h2:=wpOp_putIf hoj (hfree j oj hoj hji hjun hnot) (λ cs b=>hsel i oi cs b hi) (λ cs b=>hsel j oj cs b hoj) hQ hy h1;have hfree':∀ k ok,ops[k]? =some ok->k≠i->(listed.setIfInBounds j true).getD k true=false->
     (∀ e∈ok.after,Region.binds .any e=true->e.on≠i)->oi.apart ops ok=true:=λ k ok hk hki hun hno=>by
    refine hfree k ok hk hki ?_ hno;by_cases hjk:j=k
    ·subst hjk;exact hjun
    ·rw[Ud true hjk]at hun;exact hun
   have hIj:=hI listed j oj hIl hoj hji hnot;refine Ur (λ a' w' h3=>?_) h2;have h4:=h3.2.1;rw[Array.setIfInBounds_comm _ _ (Ne.symm hji)]at h4;have hTw:=(hc _ _ hIj).1 h4;refine⟨hTw,ih (listed.setIfInBounds j true) a' w' hIj hfree' (ready_mono hr (Ne.symm hji)) h3.1 hTw ?_⟩;rw[Array.setIfInBounds_comm _ _ hji];exact h3.2.2
inductive Plan where
 |fin
 |free (i:Nat) (p:Plan)
 |loose (i:Nat) (p:Plan)
 |one (i:Nat) (p:Plan)
 |bar (i:Nat) (p:Plan)
 |two (i j:Nat) (p q:Plan)
def Plan.iz:Plan->Option Nat
 | .fin=>none
 | .free _ p| .one _ p| .loose _ p=>p.iz
 | .bar i _=>some i
 | .two _ _ p _=>p.iz
def yJ(ops:Array Oper)(i:Nat):Option Nat->Bool
 |none=>true
 |some b=>(i !=b)&&(match ops[b]? with|some o=>o.after.any λ e=>Region.binds .any e&&e.on==i|none=>false)
def Plan.ok(ops:Array Oper):Plan->Array Bool->Bool
 | .fin,l=>(Region.ready .any ops l).isEmpty
 | .free i p,l=>Region.free .any ops l i&&(Region.ready .any ops l).contains i&&yJ ops i p.iz&&p.ok ops (l.setIfInBounds i true)
 | .loose i p,l=>Region.free .any ops l i&&(Region.ready .any ops l).contains i&&p.iz !=some i&&p.ok ops (l.setIfInBounds i true)
 | .one i p,l=>Region.ready .any ops l==[i]&&p.iz !=some i&&p.ok ops (l.setIfInBounds i true)
 | .bar i p,l=>Region.ready .any ops l==[i]&&p.iz.isNone&&p.ok ops (l.setIfInBounds i true)
 | .two i j p q,l=>Region.ready .any ops l==[i,j]&&p.iz==q.iz&&p.iz !=some i&&p.iz !=some j&&p.ok ops (l.setIfInBounds i true)&&q.ok ops (l.setIfInBounds j true)
def Plan.depth:Plan->Nat
 | .fin=>0
 | .free _ p| .one _ p| .bar _ p| .loose _ p=>p.depth+1
 | .two _ _ p q=>max p.depth q.depth+1
def Kt:List (World->Prop)->World->Prop
 |[]=>λ _=>True
 |S::_=>S
def planWp(P:Program)(n:Nat)(ops:List Oper)(K:aA->World->Prop):List (World->Prop)->Plan->Act->World->Prop
 |_,.fin,a,w=>RQ n K .normal a w
 |S,.free i p,a,w=>∃ o v,ops[i]? =some o/\YieldsIf P ops.toArray (Kt S) o v a/\Kt S w/\planWp P n ops K S p (a.put o.dst v) w
 |S,.loose i p,a,w=>∃ o v,ops[i]? =some o/\YieldsIf P ops.toArray (Kt S.tail) o v a/\Kt S w/\planWp P n ops K S p (a.put o.dst v) w
 |S,.one i p,a,w=>wpOp P ops.toArray (RQ n K) i (λ a' w'=>∃ T:World->Prop,(∀ u,T u->Kt S u)/\T w'/\planWp P n ops K (T::S.tail) p a' w') a w
 |S,.bar i p,a,w=>wpOp P ops.toArray (RQ n K) i (λ a' w'=>Kt S.tail w'/\planWp P n ops K S.tail p a' w') a w
 |S,.two i j p q,a,w=>wpOp P ops.toArray (RQ n K) i (λ a' w'=>∃ T:World->Prop,(∀ u,T u->Kt S u)/\T w'/\planWp P n ops K (T::S.tail) p a' w') a w/\wpOp P ops.toArray (RQ n K) j (λ a' w'=>∃ T:World->Prop,(∀ u,T u->Kt S u)/\T w'/\planWp P n ops K (T::S.tail) q a' w') a w
def Bk{b:Option Nat}{S1 S2 T1 T2:World->Prop}(h1:∀ u,T1 u->S1 u)(h2:∀ u,T2 u->S2 u){l:Array Bool}{w:World}(h:cX b T1 T2 l w):cX b S1 S2 l w:=by
 cases b with
 |none=>exact h2 w h
 |some b=>
  simp only[cX]at h⊢;by_cases q:l.getD b true=true
  ·rw[No q]at h⊢;exact h2 w h
  ·rw[M2 q]at h⊢;exact h1 w h
def dX{P:Program}{ops:Array Oper}{Q:Exit->Act->World->Prop}{b:Option Nat}{S1 S2 T1 T2:World->Prop}(h1:∀ u,T1 u->S1 u)(h2:∀ u,T2 u->S2 u):∀ (fuel:Nat) (l:Array Bool) (a:Act) (w:World),jJ P ops Q b T1 T2 fuel l a w->jJ P ops Q b S1 S2 fuel l a w
 |0,_,_,_,h=>h
 |fuel+1,_,_,_,h=>⟨h.1,λ i hi=>Ur (λ a' w' h'=>⟨Bk h1 h2 h'.1,dX h1 h2 fuel _ a' w' h'.2⟩) (h.2 i hi)⟩
def iU{l:Array Bool}{i:Nat}:(l.setIfInBounds i true).getD i true=true:=by
 by_cases h:i<l.size<;>simp[h]
def bM{l:Array Bool}{i j:Nat}(h:l.getD j true=true):(l.setIfInBounds i true).getD j true=true:=by
 by_cases hij:i=j
 ·subst hij;exact iU
 ·rw[Ud true hij];exact h
def planWp.mO{S1:World->Prop}{b:Option Nat}(hsel:Region.noSelect ops.toArray=true):∀ (S2:World->Prop) (S:List (World->Prop)),Kt S=S2->S.tail=[]->∀ (p:Plan) (l:Array Bool) (fuel:Nat) (a:Act) (w:World),p.iz=none->(∀ b0,b=some b0->l.getD b0 true=true)->p.ok ops.toArray l=true->p.depth<=fuel->
  planWp P n ops K S p a w->jJ P ops.toArray (RQ n K) b S1 S2 fuel l a w
 |S2,S,hS,hS2,.fin,l,fuel,a,w,_,_,hok,_,h=>yI (by simpa[Plan.ok]using hok) h fuel
 |S2,S,hS,hS2,.free i p,l,fuel+1,a,w,hb,hl,hok,hd,h=>by
  obtain⟨o,v,ho,hy,hw,hp⟩:=h;simp only[Plan.ok,RC]at hok;rw[hS]at hy hw;have hI:∀ l w,(∀ b0,b=some b0->l.getD b0 true=true)->(cX b S1 S2 l w↔S2 w):=λ l w h=>by
   cases b with
   |none=>rfl
   |some b=>simp only[cX,h b Y,TJ]
  have hI2:∀ l w,(∀ b0,b=some b0->l.getD b0 true=true)->(cX b S1 S2 (l.setIfInBounds i true) w↔cX b S1 S2 l w):=λ l w h=>(hI _ w λ b0 e=>bM (h b0 e)).trans (hI l w h).symm;exact gy (T:=S2) (by simpa using ho) (UE hsel) (λ _ _ _ h=>h) (λ l=>∀ b0,b=some b0->l.getD b0 true=true) (λ l j oj h _ _ _ b0 e=>bM (h b0 e)) (λ l w h h'=>(hI l w h).1 h')
   hI2 fuel l a w hl (V7 (by simpa using ho) hok.1.1.1) (by simpa using hok.1.1.2) hy ((hI l w hl).2 hw)
   (planWp.mO hsel S2 S hS hS2 p _ fuel _ w hb (λ b0 e=>bM (hl b0 e)) hok.2 (by simpa[Plan.depth]using hd) hp)
 |S2,S,hS,hS2,.loose i p,l,fuel+1,a,w,hb,hl,hok,hd,h=>by
  obtain⟨o,v,ho,hy,hw,hp⟩:=h;simp only[Plan.ok,RC]at hok;rw[hS]at hw;rw[hS2]at hy;have hI:∀ l w,(∀ b0,b=some b0->l.getD b0 true=true)->(cX b S1 S2 l w↔S2 w):=λ l w h=>by
   cases b with
   |none=>rfl
   |some b=>simp only[cX,h b Y,TJ]
  have hI2:∀ l w,(∀ b0,b=some b0->l.getD b0 true=true)->(cX b S1 S2 (l.setIfInBounds i true) w↔cX b S1 S2 l w):=λ l w h=>(hI _ w λ b0 e=>bM (h b0 e)).trans (hI l w h).symm;exact gy (T:=λ _=>True) (by simpa using ho) (UE hsel) (λ _ _ _ h=>h) (λ l=>∀ b0,b=some b0->l.getD b0 true=true) (λ l j oj h _ _ _ b0 e=>bM (h b0 e)) (λ l w h h'=>trivial)
   hI2 fuel l a w hl (V7 (by simpa using ho) hok.1.1.1) (by simpa using hok.1.1.2) hy ((hI l w hl).2 hw)
   (planWp.mO hsel S2 S hS hS2 p _ fuel _ w hb (λ b0 e=>bM (hl b0 e)) hok.2 (by simpa[Plan.depth]using hd) hp)
 |S2,S,hS,hS2,.one i p,l,fuel+1,a,w,hb,hl,hok,hd,h=>by
  simp only[Plan.ok,RC,U0]at hok;refine⟨λ h0=>absurd (hok.1.1▸h0) (by simp),λ j hj=>?_⟩;rw[hok.1.1]at hj;simp only[RL]at hj;subst hj;refine Ur (λ a' w' h'=>?_) h;obtain⟨T,hT,hTw,hp⟩:=h';rw[hS]at hT;refine⟨?_,dX (λ _ h=>h) hT _ _ _ _ (planWp.mO hsel T (T::S.tail) Y hS2 p _ fuel a' w' hb (λ b0 e=>bM (hl b0 e)) hok.2 (by simpa[Plan.depth]using hd) hp)⟩;have:=hT _ hTw;cases b with
  |none=>exact this
  |some b=>simp only[cX,bM (hl b Y),TJ];exact this
 |S2,S,hS,hS2,.two i j p q,l,fuel+1,a,w,hb,hl,hok,hd,h=>by
  simp only[Plan.iz]at hb;simp only[Plan.ok,RC,U0]at hok;obtain⟨⟨⟨⟨⟨hr,hpq⟩,_⟩,_⟩,hop⟩,hoq⟩:=hok;simp only[Plan.depth]at hd;refine⟨λ h0=>absurd (hr▸h0) (by simp),λ k hk=>?_⟩;rw[hr]at hk;simp only[Rx,RF,Sa]at hk;have hc:∀ k w',S2 w'->cX b S1 S2 (l.setIfInBounds k true) w':=λ k w' h'=>by
   cases b with
   |none=>exact h'
   |some b=>simp only[cX,bM (hl b Y),TJ];exact h'
  rcases hk with rfl|rfl
  ·exact Ur (λ a' w' ⟨T,hT,hTw,hp⟩=>⟨hc _ _ (hS▸hT _ hTw),dX (λ _ h=>h) (hS▸hT) _ _ _ _ (planWp.mO hsel T (T::S.tail) Y hS2 p _ fuel a' w' hb (λ b0 e=>bM (hl b0 e)) hop (by omega) hp)⟩) h.1
  ·exact Ur (λ a' w' ⟨T,hT,hTw,hp⟩=>⟨hc _ _ (hS▸hT _ hTw),dX (λ _ h=>h) (hS▸hT) _ _ _ _ (planWp.mO hsel T (T::S.tail) Y hS2 q _ fuel a' w' (hpq▸hb) (λ b0 e=>bM (hl b0 e)) hoq (by omega) hp)⟩) h.2
 |S2,S,hS,hS2,.bar i p,l,fuel,a,w,hb,_,_,_,_=>by simp[Plan.iz]at hb
 |S2,S,hS,hS2,.free i p,l,0,_,_,_,_,_,hd,_=>by simp[Plan.depth]at hd
 |S2,S,hS,hS2,.one i p,l,0,_,_,_,_,_,hd,_=>by simp[Plan.depth]at hd
 |S2,S,hS,hS2,.loose i p,l,0,_,_,_,_,_,hd,_=>by simp[Plan.depth]at hd
 |S2,S,hS,hS2,.two i j p q,l,0,_,_,_,_,_,hd,_=>by simp[Plan.depth]at hd
def planWp.pL{S2:World->Prop}{b:Nat}(hsel:Region.noSelect ops.toArray=true):∀ (S1:World->Prop),(∀ w,S1 w->S2 w)->∀ (p:Plan) (l:Array Bool) (fuel:Nat) (a:Act) (w:World),p.iz=some b->l.getD b true=false->p.ok ops.toArray l=true->p.depth<=fuel->
  planWp P n ops K [S1,S2] p a w->jJ P ops.toArray (RQ n K) (some b) S1 S2 fuel l a w
 |S1,h12,.free i p,l,fuel+1,a,w,hb,hl,hok,hd,h=>by
  obtain⟨o,v,ho,hy,hw,hp⟩:=h;simp only[Plan.iz]at hb;simp only[Plan.ok,RC,hb,yJ]at hok;have hib:i≠b:=by simpa using hok.1.2.1
  have hbi:∃ ob,ops.toArray[b]? =some ob/\∃ e∈ob.after,Region.binds .any e=true/\e.on=i:=by
   have h2:=hok.1.2.2;cases hob:ops.toArray[b]? with
   |none=>rw[hob]at h2;cases h2
   |some ob=>
    rw[hob]at h2;obtain⟨e,he,h3⟩:=Array.any_eq_true'.1 h2;simp only[RC,U0]at h3;exact⟨ob,Y,e,he,h3.1,h3.2⟩
  obtain⟨ob,hob,e,he,hbe,hei⟩:=hbi;have hT:∀ l w,l.getD b true=false->(cX (some b) S1 S2 l w↔S1 w):=λ l w h=>by
   simp only[cX,h,SE,SX]
  exact gy (T:=S1) (by simpa using ho) (UE hsel) (λ _ _ _ h=>h) (λ l=>l.getD b true=false)
   (λ l j oj h hoj hji hno=>by
    have hjb:j≠b:=λ e2=>by subst e2;rw[hob]at hoj;cases hoj;exact hno e he hbe hei
    rw[Ud true hjb];exact h)
   (λ l w h=>(hT l w h).1) (λ l w h=>by simp only[cX,Ud true hib]) fuel l a w hl (V7 (by simpa using ho) hok.1.1.1) (by simpa using hok.1.1.2) hy ((hT l w hl).2 hw)
   (planWp.pL hsel S1 h12 p _ fuel _ w hb (by rw[Ud true hib];exact hl) hok.2 (by simpa[Plan.depth]using hd) hp)
 |S1,h12,.loose i p,l,fuel+1,a,w,hb,hl,hok,hd,h=>by
  obtain⟨o,v,ho,hy,hw,hp⟩:=h;simp only[Plan.iz]at hb;simp only[Plan.ok,RC,hb]at hok;have hib:i≠b:=λ e=>by have:=hok.1.2;subst e;simp at this
  exact gy (T:=S2) (by simpa using ho) (UE hsel) (λ _ _ _ h=>h) (λ _=>True) (λ _ _ _ _ _ _ _=>trivial)
   (λ l w _ h=>by
    simp only[cX]at h;by_cases hq:l.getD b true=true
    ·rw[No hq]at h;exact h
    ·rw[M2 hq]at h;exact h12 _ h) (λ l w h=>by simp only[cX,Ud true hib]) fuel l a w trivial (V7 (by simpa using ho) hok.1.1.1) (by simpa using hok.1.1.2) hy
   (by simp only[cX,hl,SE,SX];exact hw)
   (planWp.pL hsel S1 h12 p _ fuel _ w hb (by rw[Ud true hib];exact hl) hok.2 (by simpa[Plan.depth]using hd) hp)
 |S1,h12,.one i p,l,fuel+1,a,w,hb,hl,hok,hd,h=>by
  simp only[Plan.iz]at hb;simp only[Plan.ok,RC,U0,hb]at hok;have hib:i≠b:=λ e=>by have:=hok.1.2;subst e;simp at this
  refine⟨λ h0=>absurd (hok.1.1▸h0) (by simp),λ j hj=>?_⟩;rw[hok.1.1]at hj;simp only[RL]at hj;subst hj;have hl2:(l.setIfInBounds j true).getD b true=false:=by rw[Ud true hib];exact hl
  exact Ur (λ a' w' ⟨T,hT,hTw,hp⟩=>⟨by simp only[cX,hl2,SE,SX];exact hT _ hTw,dX hT (λ _ h=>h) _ _ _ _ (planWp.pL hsel T (λ w h=>h12 w (hT w h)) p _ fuel a' w' hb hl2 hok.2 (by simpa[Plan.depth]using hd) hp)⟩) h
 |S1,h12,.bar i p,l,fuel+1,a,w,hb,hl,hok,hd,h=>by
  simp only[Plan.iz,Th]at hb;subst hb;simp only[Plan.ok,RC,U0,UM]at hok;refine⟨λ h0=>absurd (hok.1.1▸h0) (by simp),λ j hj=>?_⟩;rw[hok.1.1]at hj;simp only[RL]at hj;subst hj;exact Ur (λ a' w' h'=>⟨by simp only[cX,iU,TJ];exact h'.1,
   planWp.mO hsel S2 [S2] Y Y p _ fuel a' w' hok.1.2 (λ b0 e=>by cases e;exact iU) hok.2 (by simpa[Plan.depth]using hd) h'.2⟩) h
 |S1,h12,.fin,l,fuel,a,w,hb,_,_,_,_=>by simp[Plan.iz]at hb
 |S1,h12,.two i j p q,l,fuel+1,a,w,hb,hl,hok,hd,h=>by
  simp only[Plan.iz]at hb;simp only[Plan.ok,RC,U0,hb]at hok;obtain⟨⟨⟨⟨⟨hr,hpq⟩,hni⟩,hnj⟩,hop⟩,hoq⟩:=hok;have hib:i≠b:=λ e=>by subst e;simp at hni
  have hjb:j≠b:=λ e=>by subst e;simp at hnj
  simp only[Plan.depth]at hd;refine⟨λ h0=>absurd (hr▸h0) (by simp),λ k hk=>?_⟩;rw[hr]at hk;simp only[Rx,RF,Sa]at hk;have hl2:∀ k,k≠b->(l.setIfInBounds k true).getD b true=false:=λ k hk=>by rw[Ud true hk];exact hl
  rcases hk with rfl|rfl
  ·exact Ur (λ a' w' ⟨T,hT,hTw,hp⟩=>⟨by simp only[cX,hl2 _ hib,SE,SX];exact hT _ hTw,dX hT (λ _ h=>h) _ _ _ _ (planWp.pL hsel T (λ w h=>h12 w (hT w h)) p _ fuel a' w' hb (hl2 _ hib) hop (by omega) hp)⟩) h.1
  ·exact Ur (λ a' w' ⟨T,hT,hTw,hp⟩=>⟨by simp only[cX,hl2 _ hjb,SE,SX];exact hT _ hTw,dX hT (λ _ h=>h) _ _ _ _ (planWp.pL hsel T (λ w h=>h12 w (hT w h)) q _ fuel a' w' hpq.symm (hl2 _ hjb) hoq (by omega) hp)⟩) h.2
 |S1,h12,.free i p,l,0,_,_,_,_,_,hd,_=>by simp[Plan.depth]at hd
 |S1,h12,.one i p,l,0,_,_,_,_,_,hd,_=>by simp[Plan.depth]at hd
 |S1,h12,.loose i p,l,0,_,_,_,_,_,hd,_=>by simp[Plan.depth]at hd
 |S1,h12,.bar i p,l,0,_,_,_,_,_,hd,_=>by simp[Plan.depth]at hd
 |S1,h12,.two i j p q,l,0,_,_,_,_,_,hd,_=>by simp[Plan.depth]at hd
def RP(P:Program)(n:Nat)(ops:List Oper)(S:List (World->Prop))(p:Plan)(K:aA->World->Prop)(L:aA)(w:World):Prop:=
 ∀ a,Fits n L a->planWp P n ops K S p a w
def Plan.xL(ops:List Oper)(p:Plan):Bool:=
 p.ok ops.toArray (Array.replicate ops.length false)&&Nat.ble p.depth ops.length&&Region.noSelect ops.toArray&&p.iz.isNone
def Plan.Ai(ops:List Oper)(b:Nat)(p:Plan):Bool:=
 p.ok ops.toArray (Array.replicate ops.length false)&&Nat.ble p.depth ops.length&&Region.noSelect ops.toArray&&(p.iz==some b)&&Nat.blt b ops.length
def CW.Q4{id:Nat}{l:List Oper}(S:World->Prop)(p:Plan)(hm:P.follows .mixedOrders=true)(hok:p.xL l=true)
  (h:RP P n l [S] p Q.nrm L w.drew):CW P n (.region id l.toArray true) Q L w:=λ a ha=>by
 simp only[Plan.xL,RC,UM]at hok;refine Uw (wp_region_any hm (mA (b:=none) (S1:=S) (S2:=S) _ _ _ _ ?_)) RQ.lift;have:=planWp.mO (b:=none) (S1:=S) hok.1.2 S [S] Y Y p (Array.replicate l.length false) l.length a _ hok.2 (λ _ e=>by cases e) hok.1.1.1 (Sh hok.1.1.2) (h a ha);simpa using this
def CW.OH{id:Nat}{l:List Oper}(S1 S2:World->Prop)(b:Nat)(p:Plan)(h12:∀ w,S1 w->S2 w)(hm:P.follows .mixedOrders=true)(hok:p.Ai l b=true)
  (h:RP P n l [S1,S2] p Q.nrm L w.drew):CW P n (.region id l.toArray true) Q L w:=λ a ha=>by
 simp only[Plan.Ai,RC,U0]at hok;have hb:b<l.length:=by have:=hok.2;simp only[Vn]at this;exact this
 refine Uw (wp_region_any hm (mA (b:=some b) (S1:=S1) (S2:=S2) _ _ _ _ ?_)) RQ.lift;have:=planWp.pL (S2:=S2) hok.1.1.2 S1 h12 p (Array.replicate l.length false) l.length a _ hok.1.2 (by simp[hb]) hok.1.1.1.1 (Sh hok.1.1.1.2) (h a ha);simpa using this
variable {S:World->Prop} {SS:List (World->Prop)} {p q:Plan}
def RP.fin(h:K L w):RP P n ops SS .fin K L w:=λ _ ha=>⟨L,ha,h⟩
theorem RP.ev{i:Nat}{o:Oper}{v:Value}(ho:ops[i]? =some o)(hg:o.guard=none)(hd:bV n o.dst=true)(he:∀ w',S w'->Ev P n L w' o v)(hS:S w)
  (h:RP P n ops (S::SS) p K (putK o.dst v L) w):RP P n ops (S::SS) (.free i p) K L w:=λ a ha=>
 ⟨o,v,ho,.inl ⟨by simp[Region.wanted,hg],λ w' hw'=>he w' hw' a ha⟩,hS,h _ (ha.putK hd)⟩
theorem RP.e{i:Nat}{o:Oper}{v:Value}(ho:fH n ops i=some o)(he:∀ w',S w'->Ev P n L w' o v)(hS:S w)
  (h:RP P n ops (S::SS) p K (putK o.dst v L) w):RP P n ops (S::SS) (.free i p) K L w:=RP.ev (dq ho).1 (ew (dq ho).2) (ez (dq ho).2) he hS h
theorem OpE.same{o:Oper}{S:World->Prop}{R:(World->Prop)->Value->World->Prop}{P:Program}{n:Nat}{L:aA}{w:World}(he:OpE P n L w o λ v w'=>S w'/\R S v w'):OpE P n L w o λ v w'=>∃ T:World->Prop,(∀ u,T u->S u)/\T w'/\R T v w':=
 λ a ha next Q hk=>he a ha next Q λ v w' h=>hk v w' ⟨S,λ _ h=>h,h.1,h.2⟩
def oZ{i:Nat}{o:Oper}(ho:ops[i]? =some o)(hg:o.guard=none)(hd:bV n o.dst=true)(he:OpE P n L w o λ v w'=>∃ T:World->Prop,(∀ u,T u->S u)/\T w'/\RP P n ops (T::SS) p K (putK o.dst v L) w'){a:Act}(ha:Fits n L a):
  wpOp P ops.toArray (RQ n K) i (λ a' w'=>∃ T:World->Prop,(∀ u,T u->S u)/\T w'/\planWp P n ops K (T::SS) p a' w') a w:=by
 have ho':ops.toArray[i]? =some o:=by simpa using ho
 unfold wpOp;simp only[ho',Region.wanted,hg,TJ];exact .inl (he a ha _ _ λ v w' ⟨T,h1,h2,h3⟩=>⟨T,h1,h2,h3 _ (ha.putK hd)⟩)
def Ku{i:Nat}{o:Oper}(ho:ops[i]? =some o)(hg:o.guard=none)(hd:bV n o.dst=true)(he:OpE P n L w o λ v w'=>S w'/\RP P n ops (S::SS) p K (putK o.dst v L) w'){a:Act}(ha:Fits n L a):
  wpOp P ops.toArray (RQ n K) i (λ a' w'=>S w'/\planWp P n ops K (S::SS) p a' w') a w:=by
 have ho':ops.toArray[i]? =some o:=by simpa using ho
 unfold wpOp;simp only[ho',Region.wanted,hg,TJ];exact .inl (he a ha _ _ λ v w' h=>⟨h.1,h.2 _ (ha.putK hd)⟩)
theorem RP.Jq{i:Nat}{o:Oper}(ho:ops[i]? =some o)(hg:o.guard=none)(hd:bV n o.dst=true)(he:OpE P n L w o λ v w'=>S w'/\RP P n ops (S::SS) p K (putK o.dst v L) w'):RP P n ops (S::SS) (.one i p) K L w:=
 λ _ ha=>oZ ho hg hd (OpE.same (R:=λ T v w'=>RP P n ops (T::SS) p K (putK o.dst v L) w') he) ha
theorem RP.f{i:Nat}{o:Oper}(ho:fH n ops i=some o)(he:OpE P n L w o λ v w'=>S w'/\RP P n ops (S::SS) p K (putK o.dst v L) w'):RP P n ops (S::SS) (.one i p) K L w:=
 RP.Jq (dq ho).1 (ew (dq ho).2) (ez (dq ho).2) he
def RP.two{i j:Nat}{oi oj:Oper}(ho:ops[i]? =some oi)(hg:oi.guard=none)(hd:bV n oi.dst=true)(ho':ops[j]? =some oj)(hg':oj.guard=none)(hd':bV n oj.dst=true)
  (he:OpE P n L w oi λ v w'=>S w'/\RP P n ops (S::SS) p K (putK oi.dst v L) w') (he':OpE P n L w oj λ v w'=>S w'/\RP P n ops (S::SS) q K (putK oj.dst v L) w'):RP P n ops (S::SS) (.two i j p q) K L w:=
 λ _ ha=>⟨oZ ho hg hd (OpE.same (R:=λ T v w'=>RP P n ops (T::SS) p K (putK oi.dst v L) w') he) ha,oZ ho' hg' hd' (OpE.same (R:=λ T v w'=>RP P n ops (T::SS) q K (putK oj.dst v L) w') he') ha⟩
def RP.J0{i:Nat}{o:Oper}(ho:ops[i]? =some o)(hg:o.guard=none)(hd:bV n o.dst=true)(he:OpE P n L w o λ v w'=>∃ T:World->Prop,(∀ u,T u->S u)/\T w'/\RP P n ops (T::SS) p K (putK o.dst v L) w'):RP P n ops (S::SS) (.one i p) K L w:=
 λ _ ha=>oZ ho hg hd he ha
def RP.Fq{i j:Nat}{oi oj:Oper}(ho:ops[i]? =some oi)(hg:oi.guard=none)(hd:bV n oi.dst=true)(ho':ops[j]? =some oj)(hg':oj.guard=none)(hd':bV n oj.dst=true)
  (he:OpE P n L w oi λ v w'=>∃ T:World->Prop,(∀ u,T u->S u)/\T w'/\RP P n ops (T::SS) p K (putK oi.dst v L) w') (he':OpE P n L w oj λ v w'=>∃ T:World->Prop,(∀ u,T u->S u)/\T w'/\RP P n ops (T::SS) q K (putK oj.dst v L) w'):RP P n ops (S::SS) (.two i j p q) K L w:=
 λ _ ha=>⟨oZ ho hg hd he ha,oZ ho' hg' hd' he' ha⟩
def RP.loose{i:Nat}{o:Oper}{v:Value}{S2:World->Prop}(ho:ops[i]? =some o)(hg:o.guard=none)(hd:bV n o.dst=true)(he:∀ w',S2 w'->Ev P n L w' o v)(hS:S w)
  (h:RP P n ops (S::S2::SS) p K (putK o.dst v L) w):RP P n ops (S::S2::SS) (.loose i p) K L w:=λ a ha=>
 ⟨o,v,ho,.inl ⟨by simp[Region.wanted,hg],λ w' hw'=>he w' hw' a ha⟩,hS,h _ (ha.putK hd)⟩
def RP.bar{i:Nat}{o:Oper}{S2:World->Prop}(ho:ops[i]? =some o)(hg:o.guard=none)(hd:bV n o.dst=true)(he:OpE P n L w o λ v w'=>S2 w'/\RP P n ops (S2::SS) p K (putK o.dst v L) w'):RP P n ops (S::S2::SS) (.bar i p) K L w:=
 λ _ ha=>Ku ho hg hd he ha
theorem OpE.ev{o:Oper}{v:Value}{K:Value->World->Prop}(he:Ev P n L w o v)(h:K v w):OpE P n L w o K:=λ a ha _ _ hk=>by
 simp only[Oper.wp,he a ha,Oper.upon];exact hk _ _ h
end
section
variable {P:Program} {n:Nat} {N R:aA->World->Prop} {X G:List (Nat×(aA->World->Prop))} {L:aA} {w:World}
theorem CW.skip(h:N L w):CW P n .skip ⟨N,R,X,G⟩ L w:=CW.Q6 h
theorem CW.ret(h:R L w):CW P n .ret ⟨N,R,X,G⟩ L w:=CW.R8 h
def CW.ar{id:Nat}{M:aA->World->Prop}(h:M L w):CW P n (.exit id) ⟨N,R,(id,M)::X,G⟩ L w:=CW.MT (by simp only[eF,No];exact h)
def Bl{E:List (Nat×(aA->World->Prop))}{i id:Nat}{M:aA->World->Prop}(h:(i==id)=false):kN ((i,M)::E) id=kN E id:=by
 rw[eF,M2 (by simpa using h)]
def CW.MN{id i1:Nat}{M M1:aA->World->Prop}(h1:(i1==id)=false)(h:M L w):CW P n (.exit id) ⟨N,R,(i1,M1)::(id,M)::X,G⟩ L w:=CW.MT (by
 show kN _ id L w;rw[Bl h1,eF,No Y];exact h)
theorem CW.seq{x y:Code}(h:CW P n x ⟨λ L w=>CW P n y ⟨N,R,X,G⟩ L w,R,X,G⟩ L w):CW P n (.seq x y) ⟨N,R,X,G⟩ L w:=CW.R4 h
def CW.BW{x y:Code}(M:aA->World->Prop)(h:CW P n x ⟨M,R,X,G⟩ L w)(h2:∀ L' w',M L' w'->CW P n y ⟨N,R,X,G⟩ L' w'):CW P n (.seq x y) ⟨N,R,X,G⟩ L w:=CW.M4 M h h2
theorem CW.vY{c:Code}(M:aA->World->Prop)(h:CW P n c ⟨M,R,X,G⟩ L w)(h2:∀ L' w',M L' w'->N L' w'):CW P n c ⟨N,R,X,G⟩ L w:=CW.QU M h h2
theorem CW.cond{c:Operand}{x y:Code}{b:Bool}(hc:aJ L c=some (.bool b))(ht:b=true->CW P n x ⟨N,R,X,G⟩ L w)(hf:b=false->CW P n y ⟨N,R,X,G⟩ L w):CW P n (.cond c x y) ⟨N,R,X,G⟩ L w:=CW.Dn hc ht hf
def CW.ae{c:Operand}{x y:Code}{p:Prop}{dp:Decidable p}(hc:aJ L c=some (.bool (@decide p dp)))(ht:p->CW P n x ⟨N,R,X,G⟩ L w)(hf:¬ p->CW P n y ⟨N,R,X,G⟩ L w):CW P n (.cond c x y) ⟨N,R,X,G⟩ L w:=CW.OM hc ht hf
def CW.eE{c:Operand}{x y:Code}{b:Bool}(hc:aJ L c=some (.bool b))(hb:b=true)(ht:CW P n x ⟨N,R,X,G⟩ L w):CW P n (.cond c x y) ⟨N,R,X,G⟩ L w:=CW.OK hc hb ht
def CW.ao{c:Operand}{x y:Code}{b:Bool}(hc:aJ L c=some (.bool b))(hb:b=false)(hf:CW P n y ⟨N,R,X,G⟩ L w):CW P n (.cond c x y) ⟨N,R,X,G⟩ L w:=CW.OG hc hb hf
theorem CW.block{id:Nat}{c:Code}(h:CW P n c ⟨N,R,(id,N)::X,G⟩ L w):CW P n (.block id c) ⟨N,R,X,G⟩ L w:=CW.OP h
def CW.loop{c:Code}{α:Type}(K:α->aA)(I:α->World->Prop)(μ:α->Nat)(x₀:α)(h0:Weak (K x₀) L)(hI:I x₀ w)
  (round:∀ x w,I x w->CW P n c ⟨λ L' w'=>∃ x',Weak (K x') L'/\I x' w'/\μ x'<μ x,R,X,G⟩ (K x) w):CW P n (.loop c) ⟨N,R,X,G⟩ L w:=CW.Q2 K I μ x₀ h0 hI round
theorem CW.region{id:Nat}{l:List Oper}(h:RT P n l l N L w):CW P n (.region id l.toArray false) ⟨N,R,X,G⟩ L w:=CW.M3 h
def CW.Dt{id:Nat}{l:List Oper}(S1 S2:World->Prop)(b:Nat)(p:Plan)(h12:∀ w,S1 w->S2 w)(hm:P.follows .mixedOrders=true)(hok:p.Ai l b=true)
  (h:RP P n l [S1,S2] p N L w.drew):CW P n (.region id l.toArray true) ⟨N,R,X,G⟩ L w:=CW.OH S1 S2 b p h12 hm hok h
def CW.draw{id:Nat}{l:List Oper}(S:World->Prop)(p:Plan)(hm:P.follows .mixedOrders=true)(hok:p.xL l=true)
  (h:RP P n l [S] p N L w.drew):CW P n (.region id l.toArray true) ⟨N,R,X,G⟩ L w:=CW.Q4 S p hm hok h
end
def QI(Φ:Value->World->Prop):Ending->World->Prop:=λ e w'=>∃ v,e= .returned v/\Φ v w'
def CallsV(P:Program)(f:FuncId)(args:List Value)(w:World)(Φ:Value->World->Prop):Prop:=Calls P f args.toArray w (QI Φ)
theorem CallsV.mono{P:Program}{f:FuncId}{args:List Value}{w:World}{Φ Ψ:Value->World->Prop}(h:CallsV P f args w Φ)(hk:∀ v w',Φ v w'->Ψ v w'):CallsV P f args w Ψ:=
 Tr h λ _ w' ⟨v,he,hv⟩=>⟨v,he,hk v w' hv⟩
def Enters(P:Program)(f:FuncId):Prop:=∀ args w,(callFunc f args).run P w= .ok (.enter f args) w
theorem Enters.of{P : Program}{f : FuncId}{fn : Func}(hf : P.funcs[f]? = some fn)(hb : fn.body.isNone = false)(hn : (fn.name == "runtime.NumGoroutine") = false) : Enters P f := fun args w => by
 have h1 : fn.name ≠ "runtime.NumGoroutine" := by simpa using hn
 have h2:fn.body≠none:=by intro h;rw[h]at hb;cases hb
 have hp:∀ w,(program).run P w= .ok P w:=λ _=>Y;simp[callFunc,hp,hf,h1,h2]
section
variable {P:Program} {n:Nat} {L:aA} {w:World} {K:Value->World->Prop}
def OpE.call{d:Option Nat}{f:FuncId}{xs:List Operand}{ats:Array TypeId}{ty:TypeId}{pos:String}{af:Array Edge}{g:Option (Nat×Bool)}{vs:List Value}
  (hf:Enters P f) (hx:oY L xs=some vs) (h:CallsV P f vs w K):OpE P n L w ⟨d,.call ⟨.value (.func f),xs.toArray,ats⟩,ty,pos,af,g⟩ K:=λ a ha next Q hk=>by
 have he:=ha.Ak hx;have hrun:(execOp a.eval ⟨d,.call ⟨.value (.func f),xs.toArray,ats⟩,ty,pos,af,g⟩).run P w= .ok (.enter f vs.toArray) w:=by
  have hm:xs.toArray.map a.eval=vs.toArray:=by simp[he]
  have:=hf vs.toArray w;simp only[execOp,resolve,hm,Act.eval,Deferred.ofValue,bind,Sem.bind,pure,invoke];simpa[Sem.run]using this
 simp only[Oper.wp,hrun,Oper.upon];refine Tr h λ e w' ⟨v,he',hv⟩=>?_;subst he';exact hk v w' hv
def OpE.Ah{d:Option Nat}{t:Nat}{f:FuncId}{cap:Array Value}{xs:List Operand}{ats:Array TypeId}{ty:TypeId}{pos:String}{af:Array Edge}{g:Option (Nat×Bool)}{vs:List Value}
  (hf:Enters P f) (ht:look L t=some (.func (.func f) #[] cap)) (hx:oY L xs=some vs) (h:CallsV P f (vs++cap.toList) w K):OpE P n L w ⟨d,.call ⟨.value (.tmp t),xs.toArray,ats⟩,ty,pos,af,g⟩ K:=λ a ha next Q hk=>by
 have he:=ha.Ak hx;have hv:a.eval (.tmp t)= .func (.func f) #[] cap:=ha.eval ht;have hrun:(execOp a.eval ⟨d,.call ⟨.value (.tmp t),xs.toArray,ats⟩,ty,pos,af,g⟩).run P w= .ok (.enter f (vs++cap.toList).toArray) w:=by
  have hm:xs.toArray.map a.eval=vs.toArray:=by simp[he]
  have:=hf (vs++cap.toList).toArray w;have hc: #[]++vs.toArray++cap=(vs++cap.toList).toArray:=by simp
  simp only[execOp,resolve,hm,hv,Deferred.ofValue,bind,Sem.bind,pure,invoke,hc];simpa only[Sem.run]using this
 simp only[Oper.wp,hrun,Oper.upon];refine Tr h λ e w' ⟨v,he',hv⟩=>?_;subst he';exact hk v w' hv
end
def aM(P:Program)(n:Nat)(fn:Func)(Φ:Value->World->Prop)(L:aA)(w:World):Prop:=∀ a,Fits n L a->∃ v,(results fn a.tmps).run P w= .ok v w/\Φ v w
def initK:List Value->Nat->aA
 |[],_=>[]
 |v::r,i=>(i,v)::initK r (i+1)
def mB:∀ (l:List Value) (i t:Nat) (v:Value),look (initK l i) t=some v->i<=t/\l[t-i]? =some v
 |[],i,t,v,h=>by simp[initK,look]at h
 |x::r,i,t,v,h=>by
  simp only[initK]at h;rw[j9]at h;by_cases e:i=t
  ·subst e;simp at h;subst h;exact⟨KD _,by simp⟩
  ·simp only[e,SX]at h;obtain⟨h1,h2⟩:=mB r (i+1) t v h;refine⟨by omega,?_⟩;have:t-i=(t-(i+1))+1:=by omega
   rw[this];simpa using h2
def ai{P:Program}{f:FuncId}{fn:Func}{c:Code}{args:List Value}{w:World}{Φ:Value->World->Prop}(hf:P.funcs[f]? =some fn)(hb:fn.body=some c)
  (hn:Nat.ble args.length fn.ntmps=true) (h:CW P fn.ntmps c ⟨aM P fn.ntmps fn Φ,aM P fn.ntmps fn Φ,[],[]⟩ (initK args 0) w):CallsV P f args w Φ:=by
 refine calls_of_wp hf hb (Uw (h _ ⟨?_,?_,Y⟩) ?_)
 ·have:=Sh hn;simp;omega
 ·intro t v hv;obtain⟨_,h2⟩:=mB args 0 t v hv;simp only[Uo]at h2;rw[V9];have hlt:t<args.length:=by
   rcases RG t args.length with h|h
   ·exact h
   ·simp[RN h]at h2
  simp[hlt]at h2⊢;exact h2
 ·intro e a' w' q;cases e with
  |normal=>obtain⟨L',hL,hp⟩:=q;obtain⟨v,hv,hΦ⟩:=hp a' hL;exact⟨hL.defers,v,hv,v,Y,hΦ⟩
  |ret=>obtain⟨L',hL,hp⟩:=q;obtain⟨v,hv,hΦ⟩:=hp a' hL;exact⟨hL.defers,v,hv,v,Y,hΦ⟩
  |exit id=>obtain⟨L',hL,hp⟩:=q;exact hp
  |goto l=>obtain⟨L',hL,hp⟩:=q;exact hp
  |panic c=>exact q.elim
  |outgrown=>exact q.elim
section
variable {P:Program} {n:Nat} {fn:Func} {Φ:Value->World->Prop} {L:aA} {w:World}
def cB(hr:fn.results= #[])(h:Φ (.tuple #[]) w):aM P n fn Φ L w:=λ _ _=>⟨_,results_none hr _ _ _,h⟩
def Mi{t:Nat}{v:Value}(hr:fn.results= #[.tmp t])(hv:look L t=some v)(h:Φ v w):aM P n fn Φ L w:=λ a ha=>
 ⟨_,results_tmp hr _ _ _,by have:=ha.slot t v hv;simpa[SU,this]using h⟩
def Pa{t u:Nat}{v x:Value}(hr:fn.results= #[.tmp t,.tmp u])(hv:look L t=some v)(hx:look L u=some x)(h:Φ (.tuple #[v,x]) w):aM P n fn Φ L w:=λ a ha=>
 ⟨_,results_tmp2 hr _ _ _,by have h1:=ha.slot t v hv;have h2:=ha.slot u x hx;simpa[SU,h1,h2]using h⟩
def iG{t u s:Nat}{v x y:Value}(hr:fn.results= #[.tmp t,.tmp u,.tmp s])(hv:look L t=some v)(hx:look L u=some x)(hy:look L s=some y)(h:Φ (.tuple #[v,x,y]) w):aM P n fn Φ L w:=λ a ha=>
 ⟨_,results_tmp3 hr _ _ _,by have h1:=ha.slot t v hv;have h2:=ha.slot u x hx;have h3:=ha.slot s y hy;simpa[SU,h1,h2,h3]using h⟩
def CW.aB{N:aA->World->Prop}{X G:List (Nat×(aA->World->Prop))}{t:Nat}{v:Value}(hr:fn.results= #[.tmp t])(hv:look L t=some v)(h:Φ v w):CW P n .ret ⟨N,aM P n fn Φ,X,G⟩ L w:=CW.ret (Mi hr hv h)
def CW.bP{N:aA->World->Prop}{X G:List (Nat×(aA->World->Prop))}{t u:Nat}{v x:Value}(hr:fn.results= #[.tmp t,.tmp u])(hv:look L t=some v)(hx:look L u=some x)(h:Φ (.tuple #[v,x]) w):CW P n .ret ⟨N,aM P n fn Φ,X,G⟩ L w:=CW.ret (Pa hr hv hx h)
end
section
variable {P:Program} {n:Nat} {L:aA} {w:World} {d:Option Nat} {ty:TypeId} {pos:String} {af:Array Edge} {g:Option (Nat×Bool)}
theorem Ev.of{o:Oper}{v:Value}(h:∀ ρ:Operand->Value,(∀ {x u},aJ L x=some u->ρ x=u)->(execOp ρ o).run P w= .ok (.value v) w):Ev P n L w o v:=λ a ha=>h a.eval λ hx=>ha.eval hx
def Ev.move{x:Operand}{v:Value}(hx:aJ L x=some v):Ev P n L w ⟨d,.move x,ty,pos,af,g⟩ v:=.of λ ρ hρ=>by
 simp[execOp,hρ hx,go_sem]
def Ev.assign{x:Operand}{v:Value}(hx:aJ L x=some v):Ev P n L w ⟨d,.assign x,ty,pos,af,g⟩ v:=.of λ ρ hρ=>by
 simp[execOp,hρ hx,go_sem]
def RP.m{ops:List Oper}{SS:List (World->Prop)}{S:World->Prop}{p:Plan}{K:aA->World->Prop}{i:Nat}{x:Operand}{v:Value}(ho:fH n ops i=some ⟨d,.move x,ty,pos,af,g⟩)(hx:aJ L x=some v)(hS:S w)
  (h:RP P n ops (S::SS) p K (putK d v L) w):RP P n ops (S::SS) (.free i p) K L w:=RP.e ho (λ _ _=>Ev.move hx) hS h
def nF:List Nat->aA->Option aA
 |[],_=>some []
 |t::ts,L=>(look L t).bind λ v=>(nF ts L).map λ r=>(t,v)::r
def rT:∀ (ts:List Nat) {L L':aA},nF ts L=some L'->Weak L' L
 |[],L,L',h=>by simp[nF]at h;subst h;trivial
 |t::ts,L,L',h=>by
  simp only[nF,TC,SD]at h;obtain⟨v,hv,r,hr,rfl⟩:=h;exact⟨hv,rT ts hr⟩
def CW.trim{c:Code}{Q:Qs}{L':aA}(ts:List Nat)(h:nF ts L=some L')(hk:CW P n c Q L' w):CW P n c Q L w:=CW.weaken L' (rT ts h) hk
theorem wk{L' L:aA}(h:L'.map (λ p=>look L p.1)=L'.map (λ p=>some p.2)):Weak L' L:=by
 induction L' with
 |nil=>trivial
 |cons p r ih=>
  obtain⟨t,v⟩:=p;simp only[Sg,List.cons.injEq]at h;exact⟨h.1,ih h.2⟩
def H7:List Nat->aA->aA
 |_,[]=>[]
 |S,(u,v)::r=>cond (S.any (Nat.beq u)) (H7 S r) ((u,v)::H7 (u::S) r)
def Cw(t:Nat)(L:aA):aA:=H7 [t] L
def CW.bE{id:Nat}{l:List Oper}{y:Code}{Q:Qs}{R:aA->World->Prop}{X G:List (Nat×(aA->World->Prop))}(t:Nat)(p:Prop)[dp:Decidable p](h:RT P n l l (λ L' w'=>w'=w/\look L' t=some (.bool (decide p))/\Weak (Cw t L) L') L w)(h2:CW P n y Q ((t,.bool (decide p))::Cw t L) w):
  CW P n (.region id l.toArray false) ⟨λ L w=>CW P n y Q L w,R,X,G⟩ L w:=by
 refine CW.vY (λ L' w'=>w'=w/\look L' t=some (.bool (decide p))/\Weak (Cw t L) L') (CW.region h) ?_;rintro L' w' ⟨rfl,h3,h4⟩;exact CW.weaken _ (show Weak ((t,.bool (decide p))::Cw t L) L' from⟨h3,h4⟩) h2
theorem Ev.km{c x y:Operand}{v:Value}(hc:aJ L c=some (.bool true))(hx:aJ L x=some v):Ev P n L w ⟨d,.pick c x y,ty,pos,af,g⟩ v:=.of λ ρ hρ=>by
 simp[execOp,hρ hx,hρ hc,go_sem]
def Ev.MS{c x y:Operand}{v:Value}(hc:aJ L c=some (.bool false))(hy:aJ L y=some v):Ev P n L w ⟨d,.pick c x y,ty,pos,af,g⟩ v:=.of λ ρ hρ=>by
 simp[execOp,hρ hy,hρ hc,go_sem]
def Ev.MR{c x y:Operand}{v:Value}{b:Bool}(hc:aJ L c=some (.bool b))(hb:b=true)(hx:aJ L x=some v):Ev P n L w ⟨d,.pick c x y,ty,pos,af,g⟩ v:=Ev.km (hb▸hc) hx
def Ev.Qa{c x y:Operand}{v:Value}{b:Bool}(hc:aJ L c=some (.bool b))(hb:b=false)(hy:aJ L y=some v):Ev P n L w ⟨d,.pick c x y,ty,pos,af,g⟩ v:=Ev.MS (hb▸hc) hy
def Ev.nilCheck{x:Operand}{p:Addr}(hx:aJ L x=some (.pointer (some p))):Ev P n L w ⟨d,.nilCheck x,ty,pos,af,g⟩ (.pointer (some p)):=.of λ ρ hρ=>by
 simp[execOp,hρ hx,go_sem]
def Ev.extract{x:Operand}{i:Nat}{vs:Array Value}{v:Value}(hx:aJ L x=some (.tuple vs))(hv:vs[i]? =some v):Ev P n L w ⟨d,.extract x i,ty,pos,af,g⟩ v:=.of λ ρ hρ=>by
 simp[execOp,hρ hx,Instr.extract,hv,go_sem]
def aZ(z:Int):Prop:= -9223372036854775808<=z/\z<=9223372036854775807
def wrap_i64{z:Int}(h:aZ z):IntKind.i64.wrap z=z:=IntWalk.i64_in _ h
section ints
variable {x y:Operand} {k:IntKind} {a b:Int} {xt yt:TypeId}
def Ev.bin{op:BinOp}{u v r:Value}(hx:aJ L x=some u)(hy:aJ L y=some v)(hg:eqGuard op xt x y u v=pure ())(hr:∀ w:World,(binOp op xt u v).run P w= .ok r w):
  Ev P n L w ⟨d,.binOp op xt x y yt,ty,pos,af,g⟩ r:=.of λ ρ hρ=>by
 simp only[execOp,hρ hx,hρ hy,hg];simp[go_sem,hr]
theorem Ev.add(hx:aJ L x=some (.int .i64 a))(hy:aJ L y=some (.int .i64 b))(h:aZ (a+b)):Ev P n L w ⟨d,.binOp .add xt x y yt,ty,pos,af,g⟩ (.int .i64 (a+b)):=
 .bin hx hy (Sq ..) λ w=>by simp[go_sem,Op.intArith,wrap_i64 h]
theorem Ev.sub(hx:aJ L x=some (.int .i64 a))(hy:aJ L y=some (.int .i64 b))(h:aZ (a-b)):Ev P n L w ⟨d,.binOp .sub xt x y yt,ty,pos,af,g⟩ (.int .i64 (a-b)):=
 .bin hx hy (Sq ..) λ w=>by simp[go_sem,Op.intArith,wrap_i64 h]
def Ev.mul(hx:aJ L x=some (.int .i64 a))(hy:aJ L y=some (.int .i64 b))(h:aZ (a*b)):Ev P n L w ⟨d,.binOp .mul xt x y yt,ty,pos,af,g⟩ (.int .i64 (a*b)):=
 .bin hx hy (Sq ..) λ w=>by simp[go_sem,Op.intArith,wrap_i64 h]
theorem Ev.addW(hx:aJ L x=some (.int k a))(hy:aJ L y=some (.int k b)):Ev P n L w ⟨d,.binOp .add xt x y yt,ty,pos,af,g⟩ (.int k (k.wrap (a+b))):=
 .bin hx hy (Sq ..) λ w=>by simp[go_sem,Op.intArith]
def Ev.QW(hx:aJ L x=some (.int k a))(hy:aJ L y=some (.int k b)):Ev P n L w ⟨d,.binOp .sub xt x y yt,ty,pos,af,g⟩ (.int k (k.wrap (a-b))):=
 .bin hx hy (Sq ..) λ w=>by simp[go_sem,Op.intArith]
def Ev.lss(hx:aJ L x=some (.int k a))(hy:aJ L y=some (.int k b)):Ev P n L w ⟨d,.binOp .lss xt x y yt,ty,pos,af,g⟩ (.bool (decide (a<b))):=
 .bin hx hy (Sq ..) λ w=>by simp[go_sem]
def Ev.leq(hx:aJ L x=some (.int k a))(hy:aJ L y=some (.int k b)):Ev P n L w ⟨d,.binOp .leq xt x y yt,ty,pos,af,g⟩ (.bool (decide (a<=b))):=
 .bin hx hy (Sq ..) λ w=>by simp[go_sem]
def Ev.gtr(hx:aJ L x=some (.int k a))(hy:aJ L y=some (.int k b)):Ev P n L w ⟨d,.binOp .gtr xt x y yt,ty,pos,af,g⟩ (.bool (decide (b<a))):=
 .bin hx hy (Sq ..) λ w=>by simp[go_sem]
def Ev.geq(hx:aJ L x=some (.int k a))(hy:aJ L y=some (.int k b)):Ev P n L w ⟨d,.binOp .geq xt x y yt,ty,pos,af,g⟩ (.bool (decide (b<=a))):=
 .bin hx hy (Sq ..) λ w=>by simp[go_sem]
def Ev.eql(hx:aJ L x=some (.int k a))(hy:aJ L y=some (.int k b)):Ev P n L w ⟨d,.binOp .eql xt x y yt,ty,pos,af,g⟩ (.bool (decide (a=b))):=
 .bin hx hy (Sq ..) λ w=>by simp[go_sem];rfl
def Ev.neq(hx:aJ L x=some (.int k a))(hy:aJ L y=some (.int k b)):Ev P n L w ⟨d,.binOp .neq xt x y yt,ty,pos,af,g⟩ (.bool (decide (a≠b))):=
 .bin hx hy (Sq ..) λ w=>by simp[go_sem];rfl
def Ev.quo{a b:Nat}(hx:aJ L x=some (.int .i64 (a:Int)))(hy:aJ L y=some (.int .i64 (b:Int)))(hb:0<b)(h:aZ a):Ev P n L w ⟨d,.binOp .quo xt x y yt,ty,pos,af,g⟩ (.int .i64 ((a/b:Nat):Int)):=
 .bin hx hy (Sq ..) λ w=>by
  have h0:(b:Int)≠0:=by omega
  have h1:((a:Int).tdiv (b:Int))=((a/b:Nat):Int):=by rw[Int.tdiv_eq_ediv_of_nonneg (by omega)];simp
  have h2:IntKind.i64.wrap ((a/b:Nat):Int)=((a/b:Nat):Int):=by
   have h3:=SN a b;have h4:=h.2;generalize a/b=q at*;exact wrap_i64 ⟨by omega,by omega⟩
  simp only[binOp,Op.intDiv,h0,SX,h1,h2,go_sem];simp[go_sem]
def Ev.rem{a b:Nat}(hx:aJ L x=some (.int k (a:Int)))(hy:aJ L y=some (.int k (b:Int)))(hb:0<b):Ev P n L w ⟨d,.binOp .rem xt x y yt,ty,pos,af,g⟩ (.int k ((a%b:Nat):Int)):=
 .bin hx hy (Sq ..) λ w=>by
  have h0:(b:Int)≠0:=by omega
  have h1:((a:Int).tmod (b:Int))=((a%b:Nat):Int):=by rw[Int.tmod_eq_emod_of_nonneg (by omega)];simp
  simp only[binOp,Op.intDiv,h0,SX,h1,go_sem];simp[go_sem]
end ints
end
def pa{k:IntKind}(hk:k.signed=false){a:Nat}(h:a<2^k.bits):k.wrap (a:Int)=a:=by
 have h2:((a:Int))<((2^k.bits:Nat):Int):=by omega
 simp only[IntKind.wrap,hk,Bool.false_and,SE,SX];have:((2:Int)^k.bits)=((2^k.bits:Nat):Int):=by norm_cast
 rw[this,<-Int.natCast_emod,RR h]
def Nt{P:Program}{k:IntKind}(hk:k.signed=false){a b:Nat}(ha:a<2^k.bits)(hb:b<2^k.bits)(w:World):(Op.intBits .or k a b).run P w= .ok (.int k ((a|||b:Nat):Int)) w:=by
 have:=pa hk (Us ha hb);simp only[Op.intBits,U9,BitVec.toNat_or,Uj,RR ha,RR hb,this];rfl
def Cx{P:Program}{k:IntKind}(hk:k.signed=false){a b:Nat}(ha:a<2^k.bits)(hb:b<2^k.bits)(w:World):(Op.intBits .xor k a b).run P w= .ok (.int k ((a^^^b:Nat):Int)) w:=by
 have:=pa hk (Nat.xor_lt_two_pow ha hb);simp only[Op.intBits,U9,BitVec.toNat_xor,Uj,RR ha,RR hb,this];rfl
def Kv{P:Program}{k:IntKind}(hk:k.signed=false){a b:Nat}(ha:a<2^k.bits)(hb:b<2^k.bits)(w:World):(Op.intBits .and k a b).run P w= .ok (.int k ((a&&&b:Nat):Int)) w:=by
 have:=pa hk (Nat.and_lt_two_pow a hb);simp only[Op.intBits,U9,BitVec.toNat_and,Uj,RR ha,RR hb,this];rfl
def rU{a:Nat}(h:a<2^63):IntKind.i64.wrap (a:Int)=a:=IntWalk.i64_in _ ⟨by omega,by omega⟩
def Kx{P:Program}{a b:Nat}(ha:a<2^63)(hb:b<2^63)(w:World):(Op.intBits .or .i64 a b).run P w= .ok (.int .i64 ((a|||b:Nat):Int)) w:=by
 have:=rU (Us ha hb);have ha':a<2^IntKind.i64.bits:=by simp only[IntKind.bits];omega
 have hb':b<2^IntKind.i64.bits:=by simp only[IntKind.bits];omega
 simp only[Op.intBits,U9,BitVec.toNat_or,Uj,RR ha',RR hb',this];rfl
def Ky{P:Program}{k yk:IntKind}{a b:Nat}(ha:a<2^k.bits)(w:World):(Op.shift .shr k a yk b).run P w= .ok (.int k ((a/2^b:Nat):Int)) w:=by
 have h1:((a:Int).fdiv (2^(min b k.bits)))=((a/2^b:Nat):Int):=by
  have e:((2:Int)^(min b k.bits))=((2^(min b k.bits):Nat):Int):=by norm_cast
  rw[e,Int.fdiv_eq_ediv_of_nonneg _ (Vm _),<-Int.natCast_ediv];congr 1;rcases Nat.le_total b k.bits with h|h
  ·rw[Sr h]
  ·rw[Vx h,UY ha,UY (TY ha (Sc (by decide) h))]
 have h0:¬ ((b:Int)<0):=by omega
 simp only[Op.shift,h0,SX,TB,h1];rfl
def Cy{P:Program}{k yk:IntKind}{a b:Nat}(hb:b<=k.bits)(w:World):(Op.shift .shl k a yk b).run P w= .ok (.int k (k.wrap ((a*2^b:Nat):Int))) w:=by
 have h0:¬ ((b:Int)<0):=by omega
 have e:((a:Int)*2^b)=((a*2^b:Nat):Int):=by push_cast;rfl
 simp only[Op.shift,h0,SX,TB,Sr hb,e];rfl
def pb{k:IntKind}(hk:k.signed=false)(a:Nat):k.wrap (a:Int)=((a%2^k.bits:Nat):Int):=by
 simp only[IntKind.wrap,hk,Bool.false_and,SE,SX];have:((2:Int)^k.bits)=((2^k.bits:Nat):Int):=by norm_cast
 rw[this,<-Int.natCast_emod]
section
variable {P:Program} {n:Nat} {L:aA} {w:World} {d:Option Nat} {ty:TypeId} {pos:String} {af:Array Edge} {g:Option (Nat×Bool)} {x y:Operand} {k:IntKind} {xt yt:TypeId}
def Ev.Rg{a b:Nat}(hx:aJ L x=some (.int k (a:Int)))(hy:aJ L y=some (.int k (b:Int)))(hk:k.signed=false)(ha:a<2^k.bits)(hb:b<2^k.bits):Ev P n L w ⟨d,.binOp .or xt x y yt,ty,pos,af,g⟩ (.int k ((a|||b:Nat):Int)):=
 .bin hx hy (Sq ..) λ w=>by rw[binOp_or];exact Nt hk ha hb w
def Ev.R2{a b:Nat}(hx:aJ L x=some (.int k (a:Int)))(hy:aJ L y=some (.int k (b:Int)))(hk:k.signed=false)(ha:a<2^k.bits)(hb:b<2^k.bits):Ev P n L w ⟨d,.binOp .and xt x y yt,ty,pos,af,g⟩ (.int k ((a&&&b:Nat):Int)):=
 .bin hx hy (Sq ..) λ w=>by rw[binOp_and];exact Kv hk ha hb w
def Ev.Fs{a b:Nat}(hx:aJ L x=some (.int k (a:Int)))(hy:aJ L y=some (.int k (b:Int)))(hk:k.signed=false)(ha:a<2^k.bits)(hb:b<2^k.bits):Ev P n L w ⟨d,.binOp .xor xt x y yt,ty,pos,af,g⟩ (.int k ((a^^^b:Nat):Int)):=
 .bin hx hy (Sq ..) λ w=>by rw[binOp_xor];exact Cx hk ha hb w
def Ev.Rm{a b:Nat}(hx:aJ L x=some (.int .i64 (a:Int)))(hy:aJ L y=some (.int .i64 (b:Int)))(ha:a<2^63)(hb:b<2^63):Ev P n L w ⟨d,.binOp .or xt x y yt,ty,pos,af,g⟩ (.int .i64 ((a|||b:Nat):Int)):=
 .bin hx hy (Sq ..) λ w=>by rw[binOp_or];exact Kx ha hb w
def Ev.M7{k':IntKind}{a b:Nat}(hx:aJ L x=some (.int k (a:Int)))(hy:aJ L y=some (.int k' (b:Int)))(ha:a<2^k.bits):Ev P n L w ⟨d,.binOp .shr xt x y yt,ty,pos,af,g⟩ (.int k ((a/2^b:Nat):Int)):=
 .bin hx hy (Sq ..) λ w=>by rw[binOp_shr];exact Ky ha w
def Ev.Ra{k':IntKind}{a b:Nat}(hx:aJ L x=some (.int k (a:Int)))(hy:aJ L y=some (.int k' (b:Int)))(hk:k.signed=false)(hb:b<=k.bits):Ev P n L w ⟨d,.binOp .shl xt x y yt,ty,pos,af,g⟩ (.int k ((a*2^b%2^k.bits:Nat):Int)):=
 .bin hx hy (Sq ..) λ w=>by rw[binOp_shl,Cy hb,pb hk]
def Ev.J2{k':IntKind}{a b:Nat}(hx:aJ L x=some (.int .i64 (a:Int)))(hy:aJ L y=some (.int k' (b:Int)))(hb:b<=64)(hr:a*2^b<2^63):Ev P n L w ⟨d,.binOp .shl xt x y yt,ty,pos,af,g⟩ (.int .i64 ((a*2^b:Nat):Int)):=
 .bin hx hy (Sq ..) λ w=>by rw[binOp_shl,Cy (by simpa[IntKind.bits]using hb),rU hr]
def Ev.M8{a b:Nat}(hx:aJ L x=some (.int k (a:Int)))(hy:aJ L y=some (.int k (b:Int)))(hk:k.signed=false):Ev P n L w ⟨d,.binOp .add xt x y yt,ty,pos,af,g⟩ (.int k (((a+b)%2^k.bits:Nat):Int)):=by
 have:=Ev.addW (P:=P) (n:=n) (w:=w) (d:=d) (xt:=xt) (yt:=yt) (ty:=ty) (pos:=pos) (af:=af) (g:=g) hx hy;rwa[<-Int.natCast_add,pb hk]at this
def Ev.Ma{a b:Nat}(hx:aJ L x=some (.int k (a:Int)))(hy:aJ L y=some (.int k (b:Int)))(hk:k.signed=false)(hba:b<=a)(ha:a<2^k.bits):Ev P n L w ⟨d,.binOp .sub xt x y yt,ty,pos,af,g⟩ (.int k ((a-b:Nat):Int)):=by
 have:=Ev.QW (P:=P) (n:=n) (w:=w) (d:=d) (xt:=xt) (yt:=yt) (ty:=ty) (pos:=pos) (af:=af) (g:=g) hx hy;rwa[<-Int.natCast_sub hba,pa hk (by omega)]at this
def Ev.cJ{b:Bool}(hx:aJ L x=some (.bool b)):Ev P n L w ⟨d,.unOp .not xt x,ty,pos,af,g⟩ (.bool (!b)):=.of λ ρ hρ=>by
 simp[execOp,hρ hx,Op.unary,go_sem]
def vd{s t:TypeId}{k':IntKind}{a:Int}(hs:(P.underlying s).isSome=true)(ht:P.underlying t=some (.int k'))(w:World):(convert s t (.int k a)).run P w= .ok (.int k' (k'.wrap a)) w:=by
 obtain⟨d,hd'⟩:=Option.isSome_iff_exists.mp hs;simp[convert,Rt hd',Rt ht,Conv.intToInt]
def Ev.J5{s t:TypeId}{k':IntKind}{a:Int}(hs:(P.underlying s).isSome=true)(ht:P.underlying t=some (.int k'))(hx:aJ L x=some (.int k a))(ha:k'.wrap a=a):Ev P n L w ⟨d,.convert s t x,ty,pos,af,g⟩ (.int k' a):=.of λ ρ hρ=>by
 simp only[execOp,hρ hx,RA,vd hs ht,ha,Rs,RJ]
def Ev.ik{s t:TypeId}{k':IntKind}{a:Nat}(hs:(P.underlying s).isSome=true)(ht:P.underlying t=some (.int k'))(hx:aJ L x=some (.int k (a:Int)))(hk:k'.signed=false):Ev P n L w ⟨d,.convert s t x,ty,pos,af,g⟩ (.int k' ((a%2^k'.bits:Nat):Int)):=.of λ ρ hρ=>by
 simp only[execOp,hρ hx,RA,vd hs ht,pb hk,Rs,RJ]
def Ev.M6{a b:Nat}(hx:aJ L x=some (.int .i64 (a:Int)))(hy:aJ L y=some (.int .i64 (b:Int)))(h:a+b<=9223372036854775807):Ev P n L w ⟨d,.binOp .add xt x y yt,ty,pos,af,g⟩ (.int .i64 ((a+b:Nat):Int)):=by
 have:=Ev.add (P:=P) (n:=n) (w:=w) (d:=d) (xt:=xt) (yt:=yt) (ty:=ty) (pos:=pos) (af:=af) (g:=g) hx hy ⟨by omega,by omega⟩;rwa[<-Int.natCast_add]at this
def Ev.Ov{a b:Nat}(hx:aJ L x=some (.int .i64 (a:Int)))(hy:aJ L y=some (.int .i64 (b:Int)))(hba:b<=a)(h:a<=9223372036854775807):Ev P n L w ⟨d,.binOp .sub xt x y yt,ty,pos,af,g⟩ (.int .i64 ((a-b:Nat):Int)):=by
 have:=Ev.sub (P:=P) (n:=n) (w:=w) (d:=d) (xt:=xt) (yt:=yt) (ty:=ty) (pos:=pos) (af:=af) (g:=g) hx hy ⟨by omega,by omega⟩;rwa[<-Int.natCast_sub hba]at this
def Ev.QX{a b:Nat}(hx:aJ L x=some (.int .i64 (a:Int)))(hy:aJ L y=some (.int .i64 (b:Int)))(h:a*b<=9223372036854775807):Ev P n L w ⟨d,.binOp .mul xt x y yt,ty,pos,af,g⟩ (.int .i64 ((a*b:Nat):Int)):=by
 have:=Ev.mul (P:=P) (n:=n) (w:=w) (d:=d) (xt:=xt) (yt:=yt) (ty:=ty) (pos:=pos) (af:=af) (g:=g) hx hy (by rw[<-VE];exact⟨by omega,by omega⟩);rwa[<-VE]at this
def Ev.QV{a b:Nat}(hx:aJ L x=some (.int k (a:Int)))(hy:aJ L y=some (.int k (b:Int))):Ev P n L w ⟨d,.binOp .lss xt x y yt,ty,pos,af,g⟩ (.bool (decide (a<b))):=by
 have:=Ev.lss (P:=P) (n:=n) (w:=w) (d:=d) (xt:=xt) (yt:=yt) (ty:=ty) (pos:=pos) (af:=af) (g:=g) hx hy;simpa only[Int.ofNat_lt]using this
def Ev.R3{a b:Nat}(hx:aJ L x=some (.int k (a:Int)))(hy:aJ L y=some (.int k (b:Int))):Ev P n L w ⟨d,.binOp .leq xt x y yt,ty,pos,af,g⟩ (.bool (decide (a<=b))):=by
 have:=Ev.leq (P:=P) (n:=n) (w:=w) (d:=d) (xt:=xt) (yt:=yt) (ty:=ty) (pos:=pos) (af:=af) (g:=g) hx hy;simpa only[Int.ofNat_le]using this
def Ev.R1{a b:Nat}(hx:aJ L x=some (.int k (a:Int)))(hy:aJ L y=some (.int k (b:Int))):Ev P n L w ⟨d,.binOp .gtr xt x y yt,ty,pos,af,g⟩ (.bool (decide (b<a))):=by
 have:=Ev.gtr (P:=P) (n:=n) (w:=w) (d:=d) (xt:=xt) (yt:=yt) (ty:=ty) (pos:=pos) (af:=af) (g:=g) hx hy;simpa only[Int.ofNat_lt]using this
def Ev.Qh{a b:Nat}(hx:aJ L x=some (.int k (a:Int)))(hy:aJ L y=some (.int k (b:Int))):Ev P n L w ⟨d,.binOp .geq xt x y yt,ty,pos,af,g⟩ (.bool (decide (b<=a))):=by
 have:=Ev.geq (P:=P) (n:=n) (w:=w) (d:=d) (xt:=xt) (yt:=yt) (ty:=ty) (pos:=pos) (af:=af) (g:=g) hx hy;simpa only[Int.ofNat_le]using this
def Ev.QZ{a b:Nat}(hx:aJ L x=some (.int k (a:Int)))(hy:aJ L y=some (.int k (b:Int))):Ev P n L w ⟨d,.binOp .eql xt x y yt,ty,pos,af,g⟩ (.bool (decide (a=b))):=by
 have:=Ev.eql (P:=P) (n:=n) (w:=w) (d:=d) (xt:=xt) (yt:=yt) (ty:=ty) (pos:=pos) (af:=af) (g:=g) hx hy;simpa only[Int.ofNat_inj]using this
def Ev.QS{a b:Nat}(hx:aJ L x=some (.int k (a:Int)))(hy:aJ L y=some (.int k (b:Int))):Ev P n L w ⟨d,.binOp .neq xt x y yt,ty,pos,af,g⟩ (.bool (decide (a≠b))):=by
 have:=Ev.neq (P:=P) (n:=n) (w:=w) (d:=d) (xt:=xt) (yt:=yt) (ty:=ty) (pos:=pos) (af:=af) (g:=g) hx hy;simpa only[ne_eq,Int.ofNat_inj]using this
def Ev.mN{p:Prop}{dp:Decidable p}(hx:aJ L x=some (.bool (@decide p dp))):Ev P n L w ⟨d,.unOp .not xt x,ty,pos,af,g⟩ (.bool (decide (¬ p))):=by
 have:=Ev.cJ (P:=P) (n:=n) (w:=w) (d:=d) (xt:=xt) (ty:=ty) (pos:=pos) (af:=af) (g:=g) hx;simpa only[decide_not]using this
end
def Rd(w:World)(v:Value)(n:Nat)(cells:List Value):Prop:=
 ∃ a cap,v= .slice a n cap/\n<=cap/\∀ j u,cells[j]? =some u->∃ b o,a=some ⟨b,o,none⟩/\w.cell? ⟨b,o+j,none⟩=some u
def Ext(w w':World):Prop:=∀ a u,w.cell? a=some u->w'.cell? a=some u
theorem Ext.oy{w w':World}(h:Below w.heap.size w w'):Ext w w':=λ a _ hu=>(h.cell (World.block_lt_of_cell? w a hu)).trans hu
theorem Rd.ext{w w':World}{v:Value}{n:Nat}{cells:List Value}(h:Rd w v n cells)(he:Ext w w'):Rd w' v n cells:=by
 obtain⟨a,cap,hv,hn,hc⟩:=h;exact⟨a,cap,hv,hn,λ j u hu=>let ⟨b,o,ha,hw⟩:=hc j u hu;⟨b,o,ha,he _ _ hw⟩⟩
theorem Rd.nil(w:World):Rd w (.slice none 0 0) 0 []:=⟨none,0,Y,KD _,λ j u h=>by simp at h⟩
def bN:Value->Nat->Value
 | .slice (some a) _ _,c=>.pointer (some (a.add c))
 |_,_=>undef
def fM(size:Nat):Value->Nat->Nat->Value
 | .slice a _ cap,l,h=>.slice (if cap=l then a else a.map (·.add (l*size))) (h-l) (cap-l)
 |_,_,_=>undef
theorem Rd.sub{w:World}{v:Value}{n:Nat}{cells:List Value}(hr:Rd w v n cells){size l h:Nat}(hl:l<=h)(hh:h<=n):
  Rd w (fM size v l h) (h-l) ((cells.take (h*size)).drop (l*size)):=by
 obtain⟨a,cap,rfl,hn,hc⟩:=hr;refine⟨_,_,Y,by omega,λ j u hu=>?_⟩;have hj:j<((cells.take (h*size)).drop (l*size)).length:=by
  rcases RG j _ with hlt|hge
  ·exact hlt
  ·rw[RN hge]at hu;cases hu
 have hlt:l<h:=by
  rcases RG l h with h1|h1
  ·exact h1
  ·have:l=h:=by omega
   subst this;simp at hj
 rw[SZ,SG]at hu;split at hu
 ·obtain⟨b,o,ha,hw⟩:=hc _ u hu;subst ha;rw[M2 (by omega)];simp only[T9,Sz];exact⟨b,_,Y,by rw[Ti];exact hw⟩
 ·cases hu
structure Chunk where
 foot:List Nat
 holds:World->Prop
 stable:∀ w w',(∀ k∈foot,w'.heap[k]? =w.heap[k]?)->holds w->holds w'
structure Sat(w0:World)(cs:List Chunk)(w:World):Prop where
 old:Below w0.heap.size w0 w
 holds:∀ c∈cs,c.holds w/\∀ k∈c.foot,w0.heap.size<=k/\k<w.heap.size
 apart:cs.Pairwise λ c d=>∀ k∈c.foot,k∉d.foot
structure Chg(S:List Nat)(w w':World):Prop where
 os:w'.os=w.os
 tape:w'.tape=w.tape
 output:w'.output=w.output
 size:w.heap.size<=w'.heap.size
 block:∀ k,k<w.heap.size->k∉S->w'.heap[k]? =w.heap[k]?
theorem Chg.oy{w w':World}(h:Below w.heap.size w w'):Chg [] w w':=⟨h.os,h.tape,h.output,h.size,λ k hk _=>h.block k hk⟩
theorem Chg.alloc(w:World)(o:Obj):Chg [] w (w.alloc o):=.oy ((Below.refl _ _).alloc (KD _) o)
def Chg.setCell(w:World)(a:Addr)(v:Value):Chg [a.block] w (w.setCell a v):=
 ⟨Y,Y,Y,by simp,λ k hk hn=>Below.heap_setCell w a v k (by simpa using hn)⟩
def Sat.start(w:World):Sat w [] w:=⟨Below.refl _ _,by simp,by simp⟩
theorem Sat.ext{w0 w:World}{cs:List Chunk}(h:Sat w0 cs w):Ext w0 w:=.oy h.old
def Sat.drew{w0 w:World}{cs:List Chunk}(h:Sat w0 cs w):Sat w0 cs w.drew:=
 ⟨h.old.drew,λ c hc=>⟨c.stable w _ (λ _ _=>Y) (h.holds c hc).1,(h.holds c hc).2⟩,h.apart⟩
theorem Sat.sub{w0 w:World}{cs ds:List Chunk}(h:Sat w0 cs w)(hp:ds.Sublist cs):Sat w0 ds w:=
 ⟨h.old,λ c hc=>h.holds c (hp.subset hc),h.apart.sublist hp⟩
def fp:List Nat->Nat->List Chunk->Option (List Chunk)
 |[],_,_=>some []
 |_::_,_,[]=>none
 |i::r,k,c::cs=>cond (Nat.beq i k) (match fp r (k+1) cs with
  |some l=>some (c::l)
  |none=>none) (fp (i::r) (k+1) cs)
def lG:∀ (cs:List Chunk) (is:List Nat) (k:Nat) (l:List Chunk),fp is k cs=some l->l.Sublist cs
 |cs,[],k,l,h=>by simp only[fp,Th]at h;subst h;exact nil_sublist _
 |[],i::r,k,l,h=>by simp[fp]at h
 |c::cs,i::r,k,l,h=>by
  simp only[fp]at h;cases hb:Nat.beq i k with
  |true=>
   rw[hb]at h;simp only[Uk]at h;split at h
   ·rename_i l' hl;cases h;exact(lG cs r (k+1) l' hl).cons_cons c
   ·cases h
  |false=>rw[hb]at h;exact(lG cs (i::r) (k+1) l h).cons c
def Sat.pick{w0 w:World}{cs cs':List Chunk}(h:Sat w0 cs w)(is:List Nat)(hp:fp is 0 cs=some cs'):Sat w0 cs' w:=h.sub (lG _ _ _ _ hp)
def rV:List Chunk->Option (List Chunk)
 |[]=>some []
 |c::cs=>match rV cs with
  |some l=>some (c::l)
  |none=>none
def gW:∀ (cs l:List Chunk),rV cs=some l->l=cs
 |[],l,h=>by simp only[rV,Th]at h;exact h.symm
 |c::cs,l,h=>by
  simp only[rV]at h;split at h
  ·rename_i l' hl;cases h;rw[gW cs l' hl]
  ·cases h
def Sat.nf{w0 w:World}{cs cs':List Chunk}(h:Sat w0 cs w)(hp:rV cs=some cs'):Sat w0 cs' w:=by rw[gW _ _ hp];exact h
def CW.il{P:Program}{n:Nat}{N R:aA->World->Prop}{X G:List (Nat×(aA->World->Prop))}{L:aA}{w w0 w1:World}{cs c1 c2:List Chunk}{id:Nat}{l:List Oper}(is ks:List Nat)(_hs:Sat w0 cs w1)(_h1:fp is 0 cs=some c1)(h2:fp ks 0 c1=some c2)(b:Nat)(p:Plan)(hm:P.follows .mixedOrders=true)(hok:p.Ai l b=true)
  (h:RP P n l [λ w'=>Sat w0 c1 w',λ w'=>Sat w0 c2 w'] p N L w.drew):CW P n (.region id l.toArray true) ⟨N,R,X,G⟩ L w:=CW.Dt (λ w'=>Sat w0 c1 w') (λ w'=>Sat w0 c2 w') b p (λ w' h=>h.pick ks h2) hm hok h
theorem Sat.get{w0 w:World}{cs:List Chunk}(h:Sat w0 cs w){i:Nat}{c:Chunk}(hi:cs[i]? =some c):c.holds w:=(h.holds c (Rv hi)).1
theorem Sat.lo{w0 w:World}{cs:List Chunk}(h:Sat w0 cs w){i:Nat}{c:Chunk}(hi:cs[i]? =some c){k:Nat}(hk:k∈c.foot):w0.heap.size<=k/\k<w.heap.size:=(h.holds c (Rv hi)).2 k hk
def Sat.xG{w0 w:World}{cs:List Chunk}(h:Sat w0 cs w){i j:Nat}{c d:Chunk}(hi:cs[i]? =some c)(hj:cs[j]? =some d)(hne:i≠j){k:Nat}(hk:k∈c.foot):k∉d.foot:=by
 have hp:=SQ.1 h.apart;obtain⟨hil,rfl⟩:=IN.1 hi;obtain⟨hjl,rfl⟩:=IN.1 hj;rcases Nat.lt_or_gt_of_ne hne with hlt|hgt
 ·exact hp i j hil hjl hlt k hk
 ·exact λ hk2=>hp j i hjl hil hgt k hk2 hk
def Sat.set{w0 w w':World}{cs:List Chunk}(h:Sat w0 cs w)(i:Nat){c c':Chunk}(hi:cs[i]? =some c)(hw:Chg c.foot w w')(hc:c'.holds w')
  (hf:∀ k∈c'.foot,k∈c.foot\/(w.heap.size<=k/\k<w'.heap.size)):Sat w0 (cs.set i c') w':=by
 obtain⟨hil,hci⟩:=IN.1 hi;have hlo:∀ k∈c.foot,w0.heap.size<=k/\k<w.heap.size:=λ k hk=>h.lo hi hk;refine⟨?_,?_,?_⟩
 ·refine h.old.trans ⟨hw.os,hw.tape,hw.output,hw.size,λ k hk=>hw.block k (TY hk h.old.size) λ hm=>?_⟩;have:=(hlo _ hm).1;omega
 ·intro e he;rw[U1]at he;obtain⟨j,hj⟩:=he;rw[T8]at hj;by_cases hij:i=j
  ·subst hij;simp[hil]at hj;subst hj;refine⟨hc,λ k hk=>?_⟩;have:=hw.size;have:=h.old.size;rcases hf k hk with h1|h1
   ·have:=hlo _ h1;omega
   ·omega
  ·rw[M2 hij]at hj;have hm:=Rv hj;obtain⟨h1,h2⟩:=h.holds e hm;refine⟨e.stable w w' (λ k hk=>hw.block k (h2 k hk).2 (h.xG hj hi (Ne.symm hij) hk)) h1,λ k hk=>?_⟩;have:=h2 k hk;have:=hw.size;omega
 ·rw[SQ];intro a b ha hb hab k hk hk2;simp only[Ro]at ha hb;rw[getElem_set]at hk hk2;have hnew:∀ j (hj:j<cs.length),j≠i->∀ k,k∈c'.foot->k∉cs[j].foot:=λ j hj hne k hk hk2=>by
   rcases hf k hk with h1|h1
   ·exact h.xG hi (py hj) (Ne.symm hne) h1 hk2
   ·have:=h.lo (py hj) hk2;omega
  split at hk<;>split at hk2
  ·omega
  ·exact hnew b hb (by omega) k hk hk2
  ·exact hnew a ha (by omega) k hk2 hk
  ·exact h.xG (py ha) (py hb) (by omega) hk hk2
def Sat.ax{w0 w w':World}{cs ds:List Chunk}(h:Sat w0 cs w)(k:Sat w ds w'):Sat w0 (cs++ds) w':=by
 refine⟨h.old.trans (k.old.mono h.old.size),?_,?_⟩
 ·intro c hc;rcases RE.1 hc with hc|hc
  ·obtain⟨h1,h2⟩:=h.holds c hc;refine⟨c.stable w w' (λ j hj=>k.old.block j (h2 j hj).2) h1,λ j hj=>?_⟩;have:=h2 j hj;have:=k.old.size;omega
  ·obtain⟨h1,h2⟩:=k.holds c hc;refine⟨h1,λ j hj=>?_⟩;have:=h2 j hj;have:=h.old.size;omega
 ·rw[Tf];refine⟨h.apart,k.apart,λ c hc d hd j hj hj2=>?_⟩;have:=(h.holds c hc).2 j hj;have:=(k.holds d hd).2 j hj2;omega
theorem Sat.add{w0 w w':World}{cs:List Chunk}{c:Chunk}(h:Sat w0 cs w)(hw:Chg [] w w')(hc:c.holds w')(hf:∀ k∈c.foot,w.heap.size<=k/\k<w'.heap.size):Sat w0 (cs++[c]) w':=
 h.ax ⟨⟨hw.os,hw.tape,hw.output,hw.size,λ k hk=>hw.block k hk (by simp)⟩,by simpa using⟨hc,hf⟩,by simp⟩
theorem Sat.perm{w0 w:World}{cs ds:List Chunk}(h:Sat w0 cs w)(hp:cs.Perm ds):Sat w0 ds w:=
 ⟨h.old,λ c hc=>h.holds c (hp.mem_iff.2 hc),hp.pairwise h.apart (λ{_ _} h k hk h2=>h k h2 hk)⟩
theorem Sat.vY{w0 w:World}{A cs ds:List Chunk}(h:Sat w0 ((A++cs)++ds) w):Sat w0 ((A++ds)++cs) w:=
 h.perm (by rw[KV,KV];exact(Ui).append_left A)
def qC:Chunk:=⟨[],λ _=>True,λ _ _ _ h=>h⟩
def rW{α:Type}(l:List α)(d:α):(List.range l.length).map (λ i=>l.getD i d)=l:=by
 apply UH
 ·simp
 ·intro i h1 h2;simp at h1;simp[h1]
def Sat.order{w0 w:World}{A cs:List Chunk}(idx:List Nat)(hp:idx.isPerm (List.range idx.length)=true)(h:Sat w0 (A++cs) w)(hl:A.length=idx.length:=by rfl):Sat w0 (idx.map (λ i=>A.getD i qC)++cs) w:=by
 rw[<-hl]at hp;refine h.perm (UZ cs ?_);have:=(isPerm_iff.1 hp).map (λ i=>A.getD i qC);rw[rW]at this;exact this.symm
def Sat.tail{w0 w:World}{A:List Chunk}(h:Sat w0 A w):Sat w0 (A++[]) w:=by rw[SO];exact h
def Sat.aF{w0 w:World}{A:List Chunk}(h:Sat w0 (A++[]) w):Sat w0 A w:=by rw[SO]at h;exact h
theorem Sat.cut{w0 w:World}{A cs:List Chunk}(k:Nat)(h:Sat w0 (A++cs) w):Sat w0 (A.take k++(A.drop k++cs)) w:=by rw[<-KV,RY];exact h
def Sat.join{w0 w:World}{A B cs:List Chunk}(h:Sat w0 (A++(B++cs)) w):Sat w0 ((A++B)++cs) w:=by rw[KV];exact h
def aq(g:Nat)(T:TypeId)(cells:List Value):Chunk where
 foot:=[g]
 holds w:=w.heap[g]? =some (.cells cells.toArray T (0,0))
 stable w w' h hc:=by rw[h g (by simp)];exact hc
def cell_of_heap{w:World}{g:Nat}{T:TypeId}{cells:Array Value}{fr:Nat×Nat}(h:w.heap[g]? =some (.cells cells T fr))(j:Nat):w.cell? ⟨g,j,none⟩=cells[j]? :=by
 simp[World.cell?,h]
def frozen_of_heap{w:World}{g:Nat}{T:TypeId}{cells:Array Value}(h:w.heap[g]? =some (.cells cells T (0,0)))(j:Nat):w.frozen? ⟨g,j,none⟩=false:=by
 simp[World.frozen?,h]
def Sat.cell{w0 w:World}{cs:List Chunk}(h:Sat w0 cs w){i g T j:Nat}{cells:List Value}{u:Value}(hi:cs[i]? =some (aq g T cells))(hu:cells[j]? =some u):w.cell? ⟨g,j,none⟩=some u:=by
 have:=h.get hi;rw[cell_of_heap this];simpa using hu
def heap_setCell{w:World}{g j:Nat}{T:TypeId}{cells:Array Value}{fr:Nat×Nat}{u:Value}(h:w.heap[g]? =some (.cells cells T fr)):(w.setCell ⟨g,j,none⟩ u).heap[g]? =some (.cells (cells.setIfInBounds j u) T fr):=by
 simp[World.setCell,Tv,h]
def bT:Value->List Nat
 | .slice (some a) _ _=>[a.block]
 |_=>[]
def pV(v:Value)(E size n:Nat)(cells:List Value):Chunk where
 foot:=bT v
 holds w:=w.ownsRow 0 E size v n cells
 stable w w' h hc:=by
  refine⟨hc.1,?_⟩;rcases hc.2 with h2|⟨g,cap,cur,rfl,hg,hh,r⟩
  ·exact .inl h2
  ·exact .inr ⟨g,cap,cur,Y,hg,by rw[h g (by simp[bT])];exact hh,r⟩
def Rd.pM{w:World}{base E size n:Nat}{v:Value}{cells:List Value}(h:w.ownsRow base E size v n cells):Rd w v n cells:=by
 obtain⟨hl,⟨rfl,rfl⟩|⟨g,cap,cur,rfl,_,hh,hnc,_,hcs,ht⟩⟩:=h
 ·have:cells=[]:=RM (by simpa using hl);subst this;exact Rd.nil w
 ·refine⟨_,_,Y,hnc,λ j u hu=>⟨g,0,Y,?_⟩⟩;rw[RX,cell_of_heap hh];rw[<-ht,SG]at hu;split at hu
  ·simpa using hu
  ·cases hu
def Sat.rd{w0 w:World}{cs:List Chunk}(h:Sat w0 cs w){i E size n:Nat}{v:Value}{cells:List Value}(hi:cs[i]? =some (pV v E size n cells)):Rd w v n cells:=.pM (h.get hi)
def Sat.OI{w0 w:World}{cs:List Chunk}(h:Sat w0 cs w)(E size:Nat):Sat w0 (cs++[pV (.slice none 0 0) E size 0 []]) w:=
 h.add ⟨Y,Y,Y,KD _,λ _ _ _=>Y⟩ (World.ownsRow_nil ..) (by simp[pV,bT])
def Sat.newObj{w0 w:World}{cs:List Chunk}(h:Sat w0 cs w)(T:TypeId)(cells:List Value):Sat w0 (cs++[aq w.heap.size T cells]) (w.alloc (.cells cells.toArray T)):=
 h.add (.alloc _ _) (TN w _) (by simp[aq])
def Sat.we{w0 w:World}{cs:List Chunk}(h:Sat w0 cs w)(E size n cap:Nat)(cur:List Value)(hc:cap<=maxLen)(hn:n<=cap)(hl:cur.length=cap*size):
  Sat w0 (cs++[pV (.slice (some ⟨w.heap.size,0,none⟩) n cap) E size n (cur.take (n*size))]) (w.alloc (.cells cur.toArray E)):=
 h.add (.alloc _ _) ⟨by rw[KW,hl,Sr (SY _ hn)],.inr ⟨_,cap,_,Y,KB _,TN w _,hn,hc,by simpa using hl,by simp⟩⟩ (by simp[pV,bT])
def Sat.setObj{w0 w:World}{cs:List Chunk}(h:Sat w0 cs w){i g T j:Nat}{cells:List Value}{u:Value}(hi:cs[i]? =some (aq g T cells)):Sat w0 (cs.set i (aq g T (cells.set j u))) (w.setCell ⟨g,j,none⟩ u):=
 h.set i hi (Chg.setCell w ⟨g,j,none⟩ u) (by have:=heap_setCell (j:=j) (u:=u) (h.get hi);simpa[aq]using this) (λ _ hk=>.inl hk)
def Sat.Qg{w0 w:World}{cs:List Chunk}(h:Sat w0 cs w){i g E size n cap j:Nat}{cells:List Value}{u:Value}(hi:cs[i]? =some (pV (.slice (some ⟨g,0,none⟩) n cap) E size n cells)):
  Sat w0 (cs.set i (pV (.slice (some ⟨g,0,none⟩) n cap) E size n (cells.set j u))) (w.setCell ⟨g,j,none⟩ u):=
 h.set i hi (Chg.setCell w ⟨g,j,none⟩ u) ((h.get hi).stored j u).1 (λ _ hk=>.inl hk)
structure SlTy(P:Program)(t e s:Nat)(z:Value)(b:Nat):Prop where
 und:P.underlying t=some (.slice e)
 info:∃ i,P.info? e=some i/\i.zero=some z/\i.size=s/\i.bytes=b
 zs:z.cells.size=s
 pos:0<s
theorem SlTy.of{P:Program}{t e s:Nat}{z:Value}{b:Nat}(h:P.underlying t=some (.slice e))(hi:(P.info? e).map (λ i=>(i.zero,i.size,i.bytes))=some (some z,s,b))(hz:z.cells.size=s)(hp:0<s):SlTy P t e s z b:=
 ⟨h,by obtain⟨i,h1,h2,h3,h4⟩:=info_parts hi;exact⟨i,h1,h2,h3,h4⟩,hz,hp⟩
def dI(P:Program)(T:TypeId):Bool:=
 match P.underlying T with
 |some (.struct _)|some (.array ..)|none=>false
 |_=>true
def dS(P:Program)(T:TypeId)(s:Nat):Bool:=
 (match P.underlying T with
 |some (.struct _)|some (.array ..)=>true
 |_=>false)&&(P.info? T).map (·.size)==some s
def kO(P:Program)(T:TypeId)(f off:Nat):Bool:=
 match P.underlying T with
 |some (.struct fs)=>match fs[f]? with
  |some fd=>fd.offset==off&&(match (P.info? fd.type).map (·.size)with|some s=>s !=0|none=>false)
  |none=>false
 |_=>false
theorem Rd.ab{w:World}{v:Value}{n:Nat}{cells:List Value}(h:Rd w v n cells):v.oneCell'=true:=by
 obtain⟨a,cap,rfl,_⟩:=h;rfl
section
variable {P:Program} {n:Nat} {L:aA} {w:World} {d:Option Nat} {ty:TypeId} {pos:String} {af:Array Edge} {g:Option (Nat×Bool)}
def Ev.Qb{x:Operand}{t:TypeId}{v:Value}{m:Nat}{cells:List Value}{e:TypeId}(hu:P.underlying t=some (.slice e))(hx:aJ L x=some v)(h:Rd w v m cells):
  Ev P n L w ⟨d,.call ⟨.builtin .len,#[x],#[t]⟩,ty,pos,af,g⟩ (.int .i64 (m:Int)):=.of λ ρ hρ=>by
 obtain⟨a,cap,rfl,_⟩:=h;simp[execOp,hρ hx,resolve,invoke,Builtin.len_,Rt hu,go_sem,goInt]
def Ev.bA{x:Operand}{t:TypeId}{s:ByteArray}(hu:P.underlying t=some .string)(hx:aJ L x=some (.string s)):
  Ev P n L w ⟨d,.call ⟨.builtin .len,#[x],#[t]⟩,ty,pos,af,g⟩ (.int .i64 (s.size:Int)):=.of λ ρ hρ=>by
 simp[execOp,hρ hx,resolve,invoke,Builtin.len_,Rt hu,go_sem,goInt]
def Ev.OJ{x y:Operand}{a b:Int}{k:IntKind}{ts:Array TypeId}(hx:aJ L x=some (.int k a))(hy:aJ L y=some (.int k b)):
  Ev P n L w ⟨d,.call ⟨.builtin .min,#[x,y],ts⟩,ty,pos,af,g⟩ (.int k (min a b)):=.of λ ρ hρ=>by
 simp only[execOp,hρ hx,hρ hy,resolve,invoke,go_sem];simp[Builtin.min_,Builtin.min2,hρ hx,hρ hy,go_sem];omega
def Ev.Oy{x y:Operand}{a b:Int}{k:IntKind}{ts:Array TypeId}(hx:aJ L x=some (.int k a))(hy:aJ L y=some (.int k b)):
  Ev P n L w ⟨d,.call ⟨.builtin .max,#[x,y],ts⟩,ty,pos,af,g⟩ (.int k (max a b)):=.of λ ρ hρ=>by
 simp[execOp,hρ hx,hρ hy,resolve,invoke,Builtin.max_,Builtin.max2,go_sem];omega
def Ev.Jc{x y:Operand}{a b:Nat}{k:IntKind}{ts:Array TypeId}(hx:aJ L x=some (.int k (a:Int)))(hy:aJ L y=some (.int k (b:Int))):
  Ev P n L w ⟨d,.call ⟨.builtin .min,#[x,y],ts⟩,ty,pos,af,g⟩ (.int k ((min a b:Nat):Int)):=by
 have:=Ev.OJ (P:=P) (n:=n) (w:=w) (d:=d) (ts:=ts) (ty:=ty) (pos:=pos) (af:=af) (g:=g) hx hy;rwa[show min (a:Int) (b:Int)=((min a b:Nat):Int) by omega]at this
def Ev.ON{x y:Operand}{a b:Nat}{k:IntKind}{ts:Array TypeId}(hx:aJ L x=some (.int k (a:Int)))(hy:aJ L y=some (.int k (b:Int))):
  Ev P n L w ⟨d,.call ⟨.builtin .max,#[x,y],ts⟩,ty,pos,af,g⟩ (.int k ((max a b:Nat):Int)):=by
 have:=Ev.Oy (P:=P) (n:=n) (w:=w) (d:=d) (ts:=ts) (ty:=ty) (pos:=pos) (af:=af) (g:=g) hx hy;rwa[show max (a:Int) (b:Int)=((max a b:Nat):Int) by omega]at this
def Ev.indexAddr{x i:Operand}{t e s b:Nat}{z v:Value}{m j:Nat}{cells:List Value}{k:IntKind}(hty:SlTy P t e s z b)(hx:aJ L x=some v)(hi:aJ L i=some (.int k (j:Int)))(h:Rd w v m cells)
  (hlen:cells.length=m*s) (hj:j<m):Ev P n L w ⟨d,.indexAddr t x i,ty,pos,af,g⟩ (bN v (j*s)):=.of λ ρ hρ=>by
 obtain⟨a,cap,rfl,_,hc⟩:=h;obtain⟨inf,h1,h2,h3,h4⟩:=hty.info;have hpos:j*s<cells.length:=by rw[hlen];exact TF hj hty.pos
 obtain⟨bb,o,rfl,_⟩:=hc (j*s) _ (py hpos);have hk:(0:Int)<=(j:Int)/\(j:Int)<(m:Int):=by omega
 simp only[execOp,hρ hx,hρ hi,Instr.indexAt,asIntOf];simp[Rt hty.und,sizeOf,typeInfo,h1,h3,hk,bN,go_sem,hj]
def Ev.IZ{x:Operand}{T:TypeId}{v u:Value}{m c:Nat}{cells:List Value}(hT:dI P T=true)(hx:aJ L x=some (bN v c))(h:Rd w v m cells)(hu:cells[c]? =some u):
  Ev P n L w ⟨d,.load T x,ty,pos,af,g⟩ u:=.of λ ρ hρ=>by
 obtain⟨a,cap,rfl,_,hc⟩:=h;obtain⟨bb,o,rfl,hw⟩:=hc c u hu;have hx':ρ x= .pointer (some ⟨bb,o+c,none⟩):=by rw[hρ hx];simp[bN,Sz]
 unfold dI at hT;cases hun:P.underlying T with
 |none=>simp[hun]at hT
 |some D=>cases D<;>simp[hun]at hT<;>simp[execOp,hx',Instr.loadAt,loadVar,isAgg,Rt hun,hw,go_sem]
def Ev.load{x:Operand}{T:TypeId}{a:Addr}{u:Value}(hT:dI P T=true)(hx:aJ L x=some (.pointer (some a)))(hu:w.cell? a=some u):
  Ev P n L w ⟨d,.load T x,ty,pos,af,g⟩ u:=.of λ ρ hρ=>by
 unfold dI at hT;cases hun:P.underlying T with
 |none=>simp[hun]at hT
 |some D=>cases D<;>simp[hun]at hT<;>simp[execOp,hρ hx,Instr.loadAt,loadVar,isAgg,Rt hun,hu,go_sem]
def Ev.fieldAddr{x:Operand}{T:TypeId}{f off o o' b:Nat}(hf:kO P T f off=true)(hx:aJ L x=some (.pointer (some ⟨b,o,none⟩)))(ho:o+off=o'):
  Ev P n L w ⟨d,.fieldAddr T x f,ty,pos,af,g⟩ (.pointer (some ⟨b,o',none⟩)):=.of λ ρ hρ=>by
 subst ho;unfold kO at hf;cases hun:P.underlying T with
 |none=>simp[hun]at hf
 |some D=>
  cases D<;>simp[hun]at hf
  rename_i fs
  cases hfd:fs[f]? with
  |none=>simp[hfd]at hf
  |some fd=>
   simp only[hfd]at hf;cases hin:P.info? fd.type with
   |none=>simp[hin]at hf
   |some i=>
    simp[hin]at hf;simp[execOp,hρ hx,Instr.fieldAt,Rt hun,hfd,fieldPlace,sizeOf,typeInfo,hin,hf,go_sem]
def EM{v:Value}{c off:Nat}{w:World}{m:Nat}{cells:List Value}(h:Rd w v m cells)(hc:c<cells.length):∃ b o,bN v c= .pointer (some ⟨b,o,none⟩)/\bN v (c+off)= .pointer (some ⟨b,o+off,none⟩):=by
 obtain⟨a,cap,rfl,_,h⟩:=h;obtain⟨b,o,rfl,_⟩:=h c _ (py hc);exact⟨b,o+c,by simp[bN,Sz],by simp[bN,Sz,Ti]⟩
def Ev.LZ{x:Operand}{T:TypeId}{f off c c' m:Nat}{v:Value}{cells:List Value}(hf:kO P T f off=true)(hx:aJ L x=some (bN v c))(h:Rd w v m cells)(hc:c<cells.length)(ho:c+off=c'):
  Ev P n L w ⟨d,.fieldAddr T x f,ty,pos,af,g⟩ (bN v c'):=by
 subst ho;obtain⟨b,o,h1,h2⟩:=EM (off:=off) h hc;rw[h2];rw[h1]at hx;exact Ev.fieldAddr hf hx Y
def BoundIs(L:aA)(dflt:Nat):Option Operand->Nat->Prop
 |none,l=>l=dflt
 |some o,l=>∃ k,aJ L o=some (.int k (l:Int))
def gd{isSl:Bool}{len cap l h:Nat}{low high:Option Value}(hl:match low with|none=>l=0|some v=>∃ k,v= .int k (l:Int))(hh:match high with|none=>h=len|some v=>∃ k,v= .int k (h:Int))
  (h1:l<=h) (h2:h<=cap) (w:World):(Instr.sliceBounds isSl len cap low high none).run P w= .ok (l,h,cap) w:=by
 have h1':(0:Int)<=(l:Int)/\(l:Int)<=(h:Int):=by omega
 have h2':(0:Int)<=(h:Int)/\(h:Int)<=(cap:Int):=by omega
 cases low with
 |none=>
  cases high with
  |none=>simp at hl hh;subst hl;subst hh;simp[Instr.sliceBounds,go_sem]
  |some v=>simp at hl;obtain⟨k,rfl⟩:=hh;subst hl;simp[Instr.sliceBounds,Instr.sliceBound,asIntOf,h2,go_sem]
 |some u=>
  obtain⟨k,rfl⟩:=hl;cases high with
  |none=>simp at hh;subst hh;simp[Instr.sliceBounds,Instr.sliceBound,asIntOf,h1,go_sem]
  |some v=>obtain⟨k',rfl⟩:=hh;simp[Instr.sliceBounds,Instr.sliceBound,asIntOf,h1,h2,go_sem]
theorem BoundIs.of{L:aA}{ρ:Operand->Value}(hρ:∀ {x u},aJ L x=some u->ρ x=u){dflt l:Nat}{lo:Option Operand}(h:BoundIs L dflt lo l):match lo.map ρ with|none=>l=dflt|some v=>∃ k,v= .int k (l:Int):=by
 cases lo with
 |none=>exact h
 |some o=>obtain⟨k,hk⟩:=h;exact⟨k,hρ hk⟩
def Ev.slice{x:Operand}{lo hi:Option Operand}{t e s b:Nat}{z v:Value}{m l h:Nat}{cells:List Value}(hty:SlTy P t e s z b)(hx:aJ L x=some v)(hr:Rd w v m cells)
  (hl:BoundIs L 0 lo l) (hh:BoundIs L m hi h) (h1:l<=h) (h2:h<=m):Ev P n L w ⟨d,.slice t x lo hi none,ty,pos,af,g⟩ (fM s v l h):=.of λ ρ hρ=>by
 obtain⟨a,cap,rfl,hmc,hc⟩:=hr;obtain⟨inf,i1,i2,i3,i4⟩:=hty.info;have hsb:=λ w=>gd (P:=P) (isSl:=true) (len:=m) (cap:=cap) (hl.of hρ) (hh.of hρ) h1 (by omega) w;simp only[execOp,hρ hx,Instr.sliceAt,Instr.slice,RA,Rt hty.und,Rs,UB,hsb];simp[sizeOf,typeInfo,i1,i3,fM,go_sem]
def Ev.fZ{x:Operand}{lo hi:Option Operand}{t l h:Nat}{s:ByteArray}(hu:P.underlying t=some .string)(hx:aJ L x=some (.string s))
  (hl:BoundIs L 0 lo l) (hh:BoundIs L s.size hi h) (h1:l<=h) (h2:h<=s.size):Ev P n L w ⟨d,.slice t x lo hi none,ty,pos,af,g⟩ (.string (s.extract l h)):=.of λ ρ hρ=>by
 have hsb:=λ w=>gd (P:=P) (isSl:=false) (len:=s.size) (cap:=s.size) (hl.of hρ) (hh.of hρ) h1 h2 w;simp only[execOp,hρ hx,Instr.sliceAt,Instr.slice,RA,Rt hu,Rs,UB,Option.isSome_none,SE,SX,RJ,hsb]
end
theorem OpE.val{P:Program}{n:Nat}{L:aA}{w w':World}{o:Oper}{v:Value}{K:Value->World->Prop}(h:∀ ρ:Operand->Value,(∀ {x u},aJ L x=some u->ρ x=u)->(execOp ρ o).run P w= .ok (.value v) w')
  (hk:K v w'):OpE P n L w o K:=λ a ha _ _ hn=>by
 simp only[Oper.wp,h a.eval (λ hx=>ha.eval hx),Oper.upon];exact hn _ _ hk
def OpE.unit{P:Program}{n:Nat}{L:aA}{w w':World}{o:Oper}{K:Value->World->Prop}(h:∀ ρ:Operand->Value,(∀ {x u},aJ L x=some u->ρ x=u)->(execOp ρ o).run P w= .ok .skip w')
  (hk:K undef w'):OpE P n L w o K:=λ a ha _ _ hn=>by
 simp only[Oper.wp,h a.eval (λ hx=>ha.eval hx),Oper.upon];exact hn _ _ hk
def Src.Ql{P:Program}{w:World}{s tx e' m:Nat}{y:Value}{news:List Value}(hk:P.underlying tx=some (.slice e'))(h:Rd w y m news)(hl:news.length=m*s)(h1:∀ u∈news,u.oneCell'=true):Src P s tx y m news w:=by
 obtain⟨a,cap,rfl,hn,hc⟩:=h;cases a with
 |some a=>
  refine Src.ofSlice w hk a m cap news hl (λ j u hu=>?_) h1;obtain⟨b,o,hb,hw⟩:=hc j u hu;cases hb;rw[Sz];exact hw
 |none=>
  have hnil:news=[]:=by
   cases news with
   |nil=>rfl
   |cons u r=>obtain⟨b,o,hb,_⟩:=hc 0 u Y;cases hb
  subst hnil;have hf:∀ w':World,(Builtin.firstCells s m (.slice none m cap)).run P w'= .ok #[] w':=λ _=>Y;exact⟨.inl ⟨e',hk⟩,λ _=>Y,hf w,hf w.drew,hl,by simp⟩
def tS{P:Program}{w:World}{t tx ty e s b m n:Nat}{z v y:Value}{cells news:List Value}(hty:SlTy P t e s z b)(hown:w.ownsRow 0 e s v n cells)(hs:Src P s tx y m news w)
  (h63:n+m<=maxLen) (hb:(n+m)*b<=140737488355328):
  ∃ v' w',(Builtin.append_ #[t,tx] ty #[v,y]).run P w= .ok v' w'/\w'.ownsRow 0 e s v' (n+m) (cells++news)/\Chg (bT v) w w'/\∀ k∈bT v',k∈bT v\/(w.heap.size<=k/\k<w'.heap.size):=by
 obtain⟨inf,i1,i2,i3,i4⟩:=hty.info;have hsmall:((n+m:Nat):Int)<=9223372036854775807:=by simp only[maxLen]at h63;omega
 subst i3;subst i4;have hlen:(cells++news).length=(n+m)*inf.size:=by rw[sp,hown.1,hs.newsLen,Sp]
 have grown:∀ (base:Option Addr) (old:Nat),old<n+m->n<=old->(∀ w':World,w'.heap=w.heap->(Builtin.firstCells inf.size n (.slice base n old)).run P w'= .ok cells.toArray w')->
   ∃ v' w',(Builtin.append_ #[t,tx] ty #[.slice base n old,y]).run P w= .ok v' w'/\w'.ownsRow 0 e inf.size v' (n+m) (cells++news)/\Chg (bT (.slice base n old)) w w'/\∀ k∈bT v',k∈bT (.slice base n old)\/(w.heap.size<=k/\k<w'.heap.size):=by
  intro base old ho hno hf;have hr:=run_append_grow_src (P:=P) w t tx ty e inf z hty.und i1 i2 base n old cells (hf _ Y) y m news hs ho hsmall (growslice_fits ho hb);refine⟨_,_,hr,⟨hlen,.inr ⟨_,_,_,Y,KB _,TN w.drew _,VK w (n+m) old e,grownCap_le_maxLen w (n+m) old e h63,?_,?_⟩⟩,?_,?_⟩
  ·simp only[Array.size_append,U6,size_zeroCells,hty.zs,hlen,<-Sp];congr 1;have:=VK w (n+m) old e;omega
  ·simp only[Array.toList_append];rw[<-hlen];exact Vs
  ·exact⟨Y,Y,Y,by simp,λ k hk _=>heap_alloc_old w.drew _ hk⟩
  ·intro k hk;simp[bT]at hk;subst hk;right;simp
 rcases hown.2 with⟨rfl,rfl⟩|⟨g,cap,cur,rfl,hbg,hg,hnc,hcm,hcs,htake⟩
 ·have hx:cells=[]:=RM (by simpa using hown.1);subst hx;by_cases hm:m=0
  ·subst hm;have hn:news=[]:=RM (by simpa using hs.newsLen);subst hn;have hc:=hs.cells;refine⟨.slice none 0 0,w,?_,World.ownsRow_nil w 0 e inf.size,⟨Y,Y,Y,KD _,λ _ _ _=>Y⟩,by simp[bT]⟩;rcases hs.kind with⟨e',hk⟩|hk<;>simp[Builtin.append_,Rt hty.und,Rt hk,sizeOf,typeInfo,i1,hs.len,hc]
  ·simp only[RX]at grown⊢;exact grown none 0 (by omega) (KD _) (λ _ _=>by simp[Builtin.firstCells])
 ·by_cases hroom:n+m<=cap
  ·have hfit:0+n*inf.size+0+news.length<=cur.size:=by rw[hs.newsLen,hcs,RX,T7,<-Sp];exact SY _ hroom
   have hst:=UW (P:=P) g (0+n*inf.size) e news 0 cur w hg hfit hs.one;have hr:(Builtin.append_ #[t,tx] ty #[.slice (some ⟨g,0,none⟩) n cap,y]).run P w= .ok (.slice (some ⟨g,0,none⟩) (n+m) cap) (w.setRow g (cur.toList.take (n*inf.size)++news++cur.toList.drop (n*inf.size+news.length)).toArray):=by
    simp only[RX,T7]at hst;rcases hs.kind with⟨e',hk⟩|hk<;>simp[Builtin.append_,Rt hty.und,Rt hk,sizeOf,typeInfo,i1,hs.len,hroom,hs.cells,Sz,hst]
   refine⟨_,_,hr,⟨hlen,.inr ⟨g,cap,_,Y,hbg,Vk w g cur _ e _ hg,hroom,hcm,?_,?_⟩⟩,⟨Y,Y,Y,by simp,λ k _ hk=>Uf w g k _ (λ e=>hk (by simp[bT,e]))⟩,λ k hk=>.inl hk⟩
   ·simp only[RX,T7]at hfit;simp only[U6,sp,KW,Ry,T4];omega
   ·rw[htake,<-hlen];exact Vs
  ·refine grown (some ⟨g,0,none⟩) cap (by omega) hnc (λ w' hw'=>?_);refine run_firstCells_some w' inf.size n _ _ cap cells hown.1 (λ j u hu=>?_);have hcell:=hown.cells (g:=g) Y j u hu;simp only[World.cell?,hw']at hcell⊢;exact hcell
section
variable {P:Program} {n:Nat} {L:aA} {w w0:World} {cs:List Chunk} {K:Value->World->Prop} {d:Option Nat} {ty:TypeId} {pos:String} {af:Array Edge} {g:Option (Nat×Bool)}
theorem OpE.append{x y:Operand}{t tx e s b i m nn:Nat}{z v u:Value}{cells news:List Value}(hty:SlTy P t e s z b)(hs:Sat w0 cs w)(hi:cs[i]? =some (pV v e s nn cells))(hx:aJ L x=some v)(hy:aJ L y=some u)
  (hsrc:Src P s tx u m news w) (h63:nn+m<=maxLen) (hb:(nn+m)*b<=140737488355328) (hk:∀ v' w',Sat w0 (cs.set i (pV v' e s (nn+m) (cells++news))) w'->Chg (bT v) w w'->K v' w'):
  OpE P n L w ⟨d,.call ⟨.builtin .append,#[x,y],#[t,tx]⟩,ty,pos,af,g⟩ K:=by
 obtain⟨v',w',hr,ho,hc,hf⟩:=tS (ty:=ty) hty (hs.get hi) hsrc h63 hb;refine .val (v:=v') (w':=w') (λ ρ hρ=>?_) (hk v' w' (hs.set i hi hc ho hf) hc);have h1:=hρ hx;have h2:=hρ hy;simp only[Uq,BigFrame.builtin_append];simp only[TM,Sg,U3,h1,h2,RA,hr,Rs,RJ]
def OpE.box{x:Operand}{T:TypeId}{v:Value}(hs:Sat w0 cs w)(hx:aJ L x=some v)
  (hk:∀ b w',Sat w0 (cs++[aq b T v.cells.toList]) w'->Chg [] w w'->w.heap.size<=b->K (.pointer (some ⟨b,0,none⟩)) w'):OpE P n L w ⟨d,.box T x,ty,pos,af,g⟩ K:=by
 refine .val (v:=.pointer (some ⟨w.heap.size,0,none⟩)) (w':=w.alloc (.cells v.cells.toList.toArray T)) (λ ρ hρ=>?_) (hk _ _ (hs.newObj T v.cells.toList) (.alloc _ _) (KD _));simp[execOp,hρ hx,Instr.box,newVar,newRow,go_sem]
theorem OpE.alloc{T:TypeId}{z:Value}(hs:Sat w0 cs w)(hz:(P.info? T).map (·.zero)=some (some z))
  (hk:∀ b w',Sat w0 (cs++[aq b T z.cells.toList]) w'->Chg [] w w'->w.heap.size<=b->K (.pointer (some ⟨b,0,none⟩)) w'):OpE P n L w ⟨d,.alloc T,ty,pos,af,g⟩ K:=by
 refine .val (v:=.pointer (some ⟨w.heap.size,0,none⟩)) (w':=w.alloc (.cells z.cells.toList.toArray T)) (λ ρ hρ=>?_) (hk _ _ (hs.newObj T z.cells.toList) (.alloc _ _) (KD _));cases hi:P.info? T with
 |none=>simp[hi]at hz
 |some i=>
  simp[hi]at hz;simp[execOp,Instr.alloc,zeroValue,typeInfo,hi,hz,newVar,newRow,go_sem]
def OpE.makeSlice{x y:Operand}{t e s b l c:Nat}{z:Value}{k k':IntKind}(hty:SlTy P t e s z b)(hs:Sat w0 cs w)(hx:aJ L x=some (.int k (l:Int)))(hy:aJ L y=some (.int k' (c:Int)))(hlc:l<=c)
  (hb:b*c<=281474976710656) (h63:c<=9223372036854775807)
  (hk:∀ v w',Sat w0 (cs++[pV v e s l ((madeCells z.cells (c*s)).toList.take (l*s))]) w'->Chg [] w w'->K v w'):OpE P n L w ⟨d,.makeSlice t x y,ty,pos,af,g⟩ K:=by
 obtain⟨inf,i1,i2,i3,i4⟩:=hty.info;have h8:(inf.bytes:Int)*(c:Int)<=281474976710656:=by rw[i4,<-VE];omega
 have hr:=run_make (P:=P) (w:=w) t e inf z hty.und i1 i2 k k' (l:Int) (c:Int) (by omega) (by omega) h8 (by omega);rw[i3]at hr;simp only[TB]at hr;refine .val (λ ρ hρ=>?_) (hk _ _ (hs.we e s l c (madeCells z.cells (c*s)).toList (by unfold maxLen;omega) hlc (by rw[T4,size_madeCells])) (.alloc _ _));simp only[execOp,hρ hx,hρ hy,RA,hr,Rs,RJ,Array.toArray_toList]
def OpE.OD{x:Operand}{t e b:Nat}{z v:Value}(hty:SlTy P t e 1 z b)(hs:Sat w0 cs w)(hx:aJ L x=some v)(h1:v.oneCell'=true)
  (hk:∀ u w',Sat w0 (cs++[pV u e 1 1 [v]]) w'->Chg [] w w'->K u w'):OpE P n L w ⟨d,.buildSlice t 1 #[(0,x)],ty,pos,af,g⟩ K:=by
 obtain⟨inf,i1,i2,i3,i4⟩:=hty.info;have hz:=hty.zs;refine .val (λ ρ hρ=>?_) (hk _ _ (hs.we e 1 1 1 [v] (by unfold maxLen;omega) (KD _) Y) (.alloc _ _));have hvc:v.cells= #[v]:=by cases v<;>first|rfl|cases h1
 have hz':∃ q,z.cells= #[q]:=by
  obtain⟨q,hq⟩:=VI.1 (by simpa using hz:z.cells.toList.length=1);exact⟨q,by apply Array.ext';simpa using hq⟩
 obtain⟨q,hq⟩:=hz';have hrun:(Instr.buildSlice t 1 #[(0,v)]).run P w= .ok (.slice (some ⟨w.heap.size,0,none⟩) 1 1) (w.alloc (.cells #[v] e)):=by
  simp[Instr.buildSlice,Rt hty.und,sizeOf,typeInfo,zeroValue,i1,i2,i3,Instr.fill,hvc,hq,newRow,Array.range_succ];simp[show Array.range 0=(#[]:Array Nat)from Y]
 simp only[execOp,TM,Sg,U3,hρ hx,RA,hrun,Rs,RJ]
def OpE.aS{x y:Operand}{T i b j:Nat}{v u0:Value}{U:TypeId}{cells:List Value}(hT:(P.info? T).map (·.size)=some 1)(hs:Sat w0 cs w)(hi:cs[i]? =some (aq b U cells))(hx:aJ L x=some (.pointer (some ⟨b,j,none⟩)))
  (hy:aJ L y=some v) (h1:v.oneCell'=true) (hj:cells[j]? =some u0) (hk:∀ w',Sat w0 (cs.set i (aq b U (cells.set j v))) w'->Chg [b] w w'->K undef w'):OpE P n L w ⟨d,.store T x y,ty,pos,af,g⟩ K:=by
 have hc:=hs.cell hi hj;have hf:=frozen_of_heap (hs.get hi) j;cases hin:P.info? T with
 |none=>simp[hin]at hT
 |some inf=>
  simp[hin]at hT;refine .unit (λ ρ hρ=>?_) (hk _ (hs.setObj (j:=j) (u:=v) hi) (Chg.setCell w ⟨b,j,none⟩ v));have hvc:v.cells= #[v]:=by cases v<;>first|rfl|cases h1
  have hrun:(Instr.storeAt T (.pointer (some ⟨b,j,none⟩)) v).run P w= .ok () (w.setCell ⟨b,j,none⟩ v):=by
   simp[Instr.storeAt,Instr.sureAddr,storeVar,sizeOf,typeInfo,hin,hT,hvc,storeCells,run_store P w _ v .plain h1,hc,hf,Addr.add]
  simp only[execOp,hρ hx,hρ hy,RA,hrun,Rs,RJ]
def OpE.Dl{x y:Operand}{T i e s m c:Nat}{v u u0:Value}{cells:List Value}(hT:(P.info? T).map (·.size)=some 1)(hs:Sat w0 cs w)(hi:cs[i]? =some (pV v e s m cells))(hx:aJ L x=some (bN v c))
  (hy:aJ L y=some u) (h1:u.oneCell'=true) (hc:cells[c]? =some u0) (hk:∀ w',Sat w0 (cs.set i (pV v e s m (cells.set c u))) w'->Chg (bT v) w w'->K undef w'):OpE P n L w ⟨d,.store T x y,ty,pos,af,g⟩ K:=by
 have hown:=hs.get hi;have hcl:c<cells.length:=(IN.1 hc).1;obtain⟨hl,⟨rfl,rfl⟩|⟨g,cap,cur,rfl,hg0,hh,hnc,hcm,hcs,ht⟩⟩:=id hown
 ·simp at hl;subst hl;simp at hcl
 have hcell:w.cell? ⟨g,c,none⟩=some u0:=by rw[World.ownsRow.cellAt hown c (by rw[<-hl];exact hcl)];exact hc
 have hf:=frozen_of_heap hh c;cases hin:P.info? T with
 |none=>simp[hin]at hT
 |some inf=>
  simp[hin]at hT;refine .unit (λ ρ hρ=>?_) (hk _ (hs.Qg (j:=c) (u:=u) hi) (Chg.setCell w ⟨g,c,none⟩ u));have hvc:u.cells= #[u]:=by cases u<;>first|rfl|cases h1
  have hx':ρ x= .pointer (some ⟨g,c,none⟩):=by rw[hρ hx];simp[bN,Sz]
  have hrun:(Instr.storeAt T (.pointer (some ⟨g,c,none⟩)) u).run P w= .ok () (w.setCell ⟨g,c,none⟩ u):=by
   simp[Instr.storeAt,Instr.sureAddr,storeVar,sizeOf,typeInfo,hin,hT,hvc,storeCells,run_store P w _ u .plain h1,hcell,hf,Addr.add]
  simp only[execOp,hx',hρ hy,RA,hrun,Rs,RJ]
end
structure Enc(α:Type) where
 s:Nat
 enc:α->List Value
 len:∀ x,(enc x).length=s
 one:∀ x,∀ u∈enc x,u.oneCell'=true
def encI(k:IntKind):Enc Int:=⟨1,λ x=>[.int k x],λ _=>Y,λ x u h=>by simp at h;subst h;rfl⟩
def a8(k:IntKind):Enc Nat:=⟨1,λ x=>[.int k (x:Int)],λ _=>Y,λ x u h=>by simp at h;subst h;rfl⟩
def au:Enc ByteArray:=⟨1,λ x=>[.string x],λ _=>Y,λ x u h=>by simp at h;subst h;rfl⟩
def iV:Enc Bool:=⟨1,λ x=>[.bool x],λ _=>Y,λ x u h=>by simp at h;subst h;rfl⟩
namespace Enc
variable {α:Type} (E:Enc α)
def all(l:List α):List Value:=l.flatMap E.enc
@[simp] theorem all_nil:E.all []=[]:=rfl
def all_cons(x:α)(l:List α):E.all (x::l)=E.enc x++E.all l:=by simp[all]
def all_append(l m:List α):E.all (l++m)=E.all l++E.all m:=by simp[all]
def all_one(x:α):E.all [x]=E.enc x:=by simp[all]
def all_length(l:List α):(E.all l).length=l.length*E.s:=by
 induction l with
 |nil=>simp
 |cons x r ih=>rw[all_cons,sp,ih,E.len,LW,Sp];omega
def all_oneCell(l:List α):∀ u∈E.all l,u.oneCell'=true:=λ u hu=>by
 obtain⟨x,_,hx⟩:=Tq.1 hu;exact E.one x u hx
def all_get{l:List α}{k:Nat}{x:α}(h:l[k]? =some x){off:Nat}(ho:off<E.s):(E.all l)[k*E.s+off]? =(E.enc x)[off]? :=by
 induction l generalizing k with
 |nil=>simp at h
 |cons y r ih=>
  rw[all_cons];cases k with
  |zero=>
   simp at h;subst h;rw[RH (by rw[E.len];omega),UF,RX]
  |succ k=>
   rw[RO (by rw[E.len,Sp];omega),E.len];have e:(k+1)*E.s+off-E.s=k*E.s+off:=by rw[Sp];omega
   rw[e];exact ih (by simpa using h)
theorem all_take(l:List α)(k:Nat):(E.all l).take (k*E.s)=E.all (l.take k):=by
 induction l generalizing k with
 |nil=>simp
 |cons y r ih=>
  cases k with
  |zero=>simp
  |succ k=>
   have e:(k+1)*E.s=(E.enc y).length+k*E.s:=by rw[E.len,Sp];omega
   rw[all_cons,T5,all_cons,e,take_length_add_append,ih]
def all_drop(l:List α)(k:Nat):(E.all l).drop (k*E.s)=E.all (l.drop k):=by
 induction l generalizing k with
 |nil=>simp
 |cons y r ih=>
  cases k with
  |zero=>simp
  |succ k=>
   have e:(k+1)*E.s=(E.enc y).length+k*E.s:=by rw[E.len,Sp];omega
   rw[all_cons,drop_succ_cons,e,drop_length_add_append,ih]
end Enc
def RdL{α:Type}(w:World)(v:Value)(E:Enc α)(l:List α):Prop:=Rd w v l.length (E.all l)
def cL{α:Type}(v:Value)(e:Nat)(E:Enc α)(l:List α):Chunk:=pV v e E.s l.length (E.all l)
theorem RdL.ext{α:Type}{w w':World}{v:Value}{E:Enc α}{l:List α}(h:RdL w v E l)(he:Ext w w'):RdL w' v E l:=Rd.ext h he
theorem RdL.nil{α:Type}(w:World)(E:Enc α):RdL w (.slice none 0 0) E []:=Rd.nil w
theorem Sat.ah{α:Type}{w0 w:World}{cs:List Chunk}(h:Sat w0 cs w){e:Nat}{v:Value}{E:Enc α}{l:List α}(i:Nat)(hi:cs[i]? =some (cL v e E l)):RdL w v E l:=h.rd hi
theorem RdL.ab{α:Type}{w:World}{v:Value}{E:Enc α}{l:List α}(h:RdL w v E l):v.oneCell'=true:=Rd.ab h
theorem RdL.sub{α:Type}{w:World}{v:Value}{E:Enc α}{l:List α}(hr:RdL w v E l){a b:Nat}(h1:a<=b)(h2:b<=l.length):RdL w (fM E.s v a b) E ((l.take b).drop a):=by
 have:=Rd.sub hr (size:=E.s) h1 h2;rw[E.all_take,E.all_drop]at this;unfold RdL;rw[show((l.take b).drop a).length=b-a by simp;omega];exact this
section
variable {P:Program} {n:Nat} {L:aA} {w w0:World} {cs:List Chunk} {K:Value->World->Prop} {d:Option Nat} {ty:TypeId} {pos:String} {af:Array Edge} {g:Option (Nat×Bool)} {α:Type} {E:Enc α}
def Ev.M5{x:Operand}{t e:TypeId}{v:Value}{l:List α}(hu:P.underlying t=some (.slice e))(hx:aJ L x=some v)(h:RdL w v E l):
  Ev P n L w ⟨d,.call ⟨.builtin .len,#[x],#[t]⟩,ty,pos,af,g⟩ (.int .i64 (l.length:Int)):=Ev.Qb hu hx h
def Ev.jz{x i:Operand}{t e b:Nat}{z v:Value}{j:Nat}{l:List α}{k:IntKind}(hty:SlTy P t e E.s z b)(hx:aJ L x=some v)(hi:aJ L i=some (.int k (j:Int)))(h:RdL w v E l)(hj:j<l.length):
  Ev P n L w ⟨d,.indexAddr t x i,ty,pos,af,g⟩ (bN v (j*E.s)):=Ev.indexAddr hty hx hi h (E.all_length l) hj
def Ev.Qr{x:Operand}{T:TypeId}{v u:Value}{j:Nat}{l:List α}{a:α}(hT:dI P T=true)(hx:aJ L x=some (bN v (j*E.s)))(h:RdL w v E l)(ha:l[j]? =some a)(hs:0<E.s)(hu:(E.enc a)[0]? =some u):
  Ev P n L w ⟨d,.load T x,ty,pos,af,g⟩ u:=Ev.IZ hT hx h (by have:=E.all_get ha hs;rw[T7]at this;rw[this];exact hu)
def Ev.Qf{x:Operand}{T:TypeId}{v u:Value}{j off:Nat}{l:List α}{a:α}(hT:dI P T=true)(hx:aJ L x=some (bN v (j*E.s+off)))(h:RdL w v E l)(ha:l[j]? =some a)(hs:off<E.s)(hu:(E.enc a)[off]? =some u):
  Ev P n L w ⟨d,.load T x,ty,pos,af,g⟩ u:=Ev.IZ hT hx h (by rw[E.all_get ha hs];exact hu)
def Ev.Qc{x:Operand}{T:TypeId}{f off:Nat}{v:Value}{j:Nat}{l:List α}(hf:kO P T f off=true)(hx:aJ L x=some (bN v (j*E.s)))(h:RdL w v E l)(hj:j<l.length)(hs:0<E.s):
  Ev P n L w ⟨d,.fieldAddr T x f,ty,pos,af,g⟩ (bN v (j*E.s+off)):=
 Ev.LZ hf hx h (by rw[E.all_length];exact TF hj hs) Y
def Ev.b9{x:Operand}{lo hi:Option Operand}{t e b:Nat}{z v:Value}{a c:Nat}{l:List α}(hty:SlTy P t e E.s z b)(hx:aJ L x=some v)(hr:RdL w v E l)
  (hl:BoundIs L 0 lo a) (hh:BoundIs L l.length hi c) (h1:a<=c) (h2:c<=l.length):Ev P n L w ⟨d,.slice t x lo hi none,ty,pos,af,g⟩ (fM E.s v a c):=Ev.slice hty hx hr hl hh h1 h2
def Src.J8{s tx e':Nat}{y:Value}{l:List α}(hs:E.s=s)(hk:P.underlying tx=some (.slice e'))(h:RdL w y E l):Src P s tx y l.length (E.all l) w:=by
 subst hs;exact Src.Ql hk h (E.all_length l) (E.all_oneCell l)
def OpE.aD{x y:Operand}{t tx e b e':Nat}{z v u:Value}{l m:List α}(i:Nat)(hty:SlTy P t e E.s z b)(hs:Sat w0 cs w)(hi:cs[i]? =some (cL v e E l))(hx:aJ L x=some v)(hy:aJ L y=some u)
  (hk:P.underlying tx=some (.slice e')) (hr:RdL w u E m) (h63:l.length+m.length<=9223372036854775807) (hb:(l.length+m.length)*b<=140737488355328) (hc:∀ v' w',Sat w0 (cs.set i (cL v' e E (l++m))) w'->Chg (bT v) w w'->K v' w'):
  OpE P n L w ⟨d,.call ⟨.builtin .append,#[x,y],#[t,tx]⟩,ty,pos,af,g⟩ K:=
 OpE.append hty hs hi hx hy (Src.J8 Y hk hr) (by unfold maxLen;omega) hb λ v' w' h1 h2=>hc v' w' (by unfold cL;rw[E.all_append,sp];exact h1) h2
def OpE.gO{x y:Operand}{t tx e b:Nat}{z v u:Value}{l m:List α}(i:Nat)(hty:SlTy P t e E.s z b)(hs:Sat w0 cs w)(hi:cs[i]? =some (cL v e E l))(hx:aJ L x=some v)(hy:aJ L y=some u)
  (hr:Src P E.s tx u m.length (E.all m) w) (h63:l.length+m.length<=9223372036854775807) (hb:(l.length+m.length)*b<=140737488355328) (hc:∀ v' w',Sat w0 (cs.set i (cL v' e E (l++m))) w'->Chg (bT v) w w'->K v' w'):
  OpE P n L w ⟨d,.call ⟨.builtin .append,#[x,y],#[t,tx]⟩,ty,pos,af,g⟩ K:=
 OpE.append hty hs hi hx hy hr (by unfold maxLen;omega) hb λ v' w' h1 h2=>hc v' w' (by unfold cL;rw[E.all_append,sp];exact h1) h2
def OpE.bO{x:Operand}{t e b:Nat}{z v:Value}(E:Enc α)(a:α)(hty:SlTy P t e E.s z b)(he:E.enc a=[v])(hs:Sat w0 cs w)(hx:aJ L x=some v)
  (hk:∀ u w',Sat w0 (cs++[cL u e E [a]]) w'->Chg [] w w'->K u w'):OpE P n L w ⟨d,.buildSlice t 1 #[(0,x)],ty,pos,af,g⟩ K:=by
 have h1:E.s=1:=by have:=E.len a;rw[he]at this;simpa using this.symm
 refine OpE.OD (h1▸hty) hs hx (E.one a v (by rw[he];simp)) λ u w' hS hC=>hk u w' ?_ hC;unfold cL;rw[E.all_one,he,h1];exact hS
def tT{z:Value}{a:α}(he:E.enc a=[z])(h1:E.s=1)(c l:Nat)(hz:z.oneCell'=true)(h:l<=c):(madeCells z.cells (c*E.s)).toList.take (l*E.s)=E.all (List.replicate l a):=by
 have hvc:z.cells= #[z]:=by cases z<;>first|rfl|cases hz
 rw[h1,SA,SA,hvc,toList_madeCells_one,take_replicate,Sr h];induction l with
 |zero=>simp
 |succ l ih=>rw[TR,TR,Enc.all_cons,he,<-ih (by omega)];rfl
def OpE.cQ{x y:Operand}{t e b l c:Nat}{z:Value}{k k':IntKind}(E:Enc α)(a:α)(hty:SlTy P t e E.s z b)(he:E.enc a=[z])(hs:Sat w0 cs w)(hx:aJ L x=some (.int k (l:Int)))(hy:aJ L y=some (.int k' (c:Int)))
  (hlc:l<=c) (hb:b*c<=281474976710656) (h63:c<=9223372036854775807) (hk:∀ v w',Sat w0 (cs++[cL v e E (List.replicate l a)]) w'->Chg [] w w'->K v w'):OpE P n L w ⟨d,.makeSlice t x y,ty,pos,af,g⟩ K:=by
 have h1:E.s=1:=by have:=E.len a;rw[he]at this;simpa using this.symm
 refine OpE.makeSlice hty hs hx hy hlc hb h63 λ v w' hS hC=>hk v w' ?_ hC;rw[tT he h1 c l (E.one a z (by rw[he];simp)) hlc]at hS;unfold cL;rw[Tz];exact hS
def qD{l:List α}{j:Nat}{a:α}{u:Value}(he:E.enc a=[u])(hj:j<l.length):(E.all l).set (j*E.s) u=E.all (l.set j a):=by
 have h1:E.s=1:=by have:=E.len a;rw[he]at this;simpa using this.symm
 have e1:l=l.take j++l[j]::l.drop (j+1):=by simp
 have e2:l.set j a=l.take j++a::l.drop (j+1):=by
  rw[T6];simp[hj]
 obtain⟨q,hq⟩:=VI.1 (by rw[E.len l[j],h1]:(E.enc l[j]).length=1);have hl:(E.all (l.take j)).length=j:=by rw[E.all_length,h1];simp;omega
 rw[e2,E.all_append,E.all_cons,he]
 conv=>lhs;rw[e1,E.all_append,E.all_cons,hq]
 rw[h1,SA,Sf _ _ (by omega),hl,Se];rfl
def OpE.dj{x y:Operand}{T e j:Nat}{v u:Value}{l:List α}{a:α}(i:Nat)(hT:(P.info? T).map (·.size)=some 1)(hs:Sat w0 cs w)(hi:cs[i]? =some (cL v e E l))(hx:aJ L x=some (bN v (j*E.s)))
  (hy:aJ L y=some u) (he:E.enc a=[u]) (hj:j<l.length) (hk:∀ w',Sat w0 (cs.set i (cL v e E (l.set j a))) w'->Chg (bT v) w w'->K undef w'):OpE P n L w ⟨d,.store T x y,ty,pos,af,g⟩ K:=by
 have h1:E.s=1:=by have:=E.len a;rw[he]at this;simpa using this.symm
 have hget:(E.all l)[j*E.s]? =some _:=py (by rw[E.all_length];exact TF hj (by omega));refine OpE.Dl hT hs hi hx hy (E.one a u (by rw[he];simp)) hget λ w' hS hC=>hk w' ?_ hC;rw[qD he hj]at hS;unfold cL;rw[Ro];exact hS
def Sat.az{w0 w:World}{cs:List Chunk}(h:Sat w0 cs w)(e:Nat)(E:Enc α):Sat w0 (cs++[cL (.slice none 0 0) e E []]) w:=h.OI e E.s
def OpE.Q9{x y:Operand}{t tx e b:Nat}{z v u:Value}{l m:List α}(i:Nat)(hty:SlTy P t e E.s z b)(h1:E.s=1)(hs:Sat w0 cs w)(hi:cs[i]? =some (cL v e E l))(hx:aJ L x=some v)(hy:aJ L y=some u)
  (hr:RdL w u E m) (hk:∀ w',Sat w0 (cs.set i (cL v e E (m.take l.length++l.drop m.length))) w'->Chg (bT v) w w'->K (.int .i64 ((min m.length l.length:Nat):Int)) w'):
  OpE P n L w ⟨d,.call ⟨.builtin .copy,#[x,y],#[t,tx]⟩,ty,pos,af,g⟩ K:=by
 obtain⟨inf,i1,i2,i3,i4⟩:=hty.info;have hsz:(P.info? e).map (·.size)=some 1:=by rw[i1];simp[i3,h1]
 have hown:=hs.get hi;have run:∀ w':World,(Builtin.copy_ #[t,tx] ty #[v,u]).run P w= .ok (.int .i64 ((min m.length l.length:Nat):Int)) w'->K (.int .i64 ((min m.length l.length:Nat):Int)) w'->
   OpE P n L w ⟨d,.call ⟨.builtin .copy,#[x,y],#[t,tx]⟩,ty,pos,af,g⟩ K:=λ w' hrun hK=>by
  refine .val (λ ρ hρ=>?_) hK;have e1:=hρ hx;have e2:=hρ hy;simp only[Uq,BigFrame.builtin_copy];simp only[TM,Sg,U3,e1,e2,RA,hrun,Rs,RJ]
 obtain⟨ua,ucap,rfl,hucap,huc⟩:=id hr;by_cases hz:min m.length l.length=0
 ·have hnone:(Builtin.copy_ #[t,tx] ty #[v,.slice ua m.length ucap]).run P w= .ok (.int .i64 ((min m.length l.length:Nat):Int)) w:=by
   rcases hown.2 with⟨rfl,hl0⟩|⟨gg,cap,cur,rfl,_⟩
   ·rw[hz];exact run_copy_none w t tx ty e none ua 0 0 m.length ucap hty.und hsz (by simp)
   ·rw[hz];exact run_copy_none w t tx ty e _ ua l.length cap m.length ucap hty.und hsz hz
  refine run w hnone (hk w ?_ ⟨Y,Y,Y,KD _,λ _ _ _=>Y⟩);have hsame:m.take l.length++l.drop m.length=l:=by
   rcases SJ l.length with h|h
   ·rw[RM h];simp
   ·have:m.length=0:=by omega
    rw[RM this];simp
  rw[hsame];exact hs.set i hi ⟨Y,Y,Y,KD _,λ _ _ _=>Y⟩ hown (λ _ hk=>.inl hk)
 ·obtain⟨hlen,⟨rfl,hl0⟩|⟨gg,cap,cur,rfl,hg0,hh,hnc,hcm,hcs,ht⟩⟩:=hown
  ·omega
  have hun:∃ ub uo,ua=some ⟨ub,uo,none⟩:=by
   have hpos:0<(E.all m).length:=by rw[E.all_length,h1];omega
   obtain⟨bb,o,ha,_⟩:=huc 0 _ (py hpos);exact⟨bb,o,ha⟩
  obtain⟨ub,uo,rfl⟩:=hun;rw[h1,SA]at hlen hcs ht;have hml:(E.all m).length=m.length:=by rw[E.all_length,h1,SA]
  have hrun:=run_copy_row (P:=P) w t tx ty e gg 0 l.length cap ⟨ub,uo,none⟩ m.length ucap cur e ((E.all m).take l.length) hty.und hsz hh
   (by rw[KW,hml,Nat.min_comm])
   (λ j q hq=>by
    rw[SG]at hq;split at hq
    ·obtain⟨b2,o2,hb2,hc2⟩:=huc j q hq;cases hb2;rw[Sz];exact hc2
    ·cases hq)
   (by rw[KW,hml,hcs];omega) (λ q hq=>E.all_oneCell m q (take_subset _ _ hq))
  have hn:((E.all m).take l.length).length=min m.length l.length:=by rw[KW,hml];omega
  rw[hn]at hrun;refine run _ hrun (hk _ (hs.set i hi ⟨Y,Y,Y,by simp,λ k _ hk=>Uf w gg k _ (λ e=>hk (by simp[cL,pV,bT,e]))⟩ ?_ (λ _ hk=>.inl hk)) ⟨Y,Y,Y,by simp,λ k _ hk=>Uf w gg k _ (λ e=>hk (by simp[bT,e]))⟩);have hl2:(m.take l.length++l.drop m.length).length=l.length:=by simp;omega
  refine⟨E.all_length _,.inr ⟨gg,cap,_,?_,hg0,Vk w gg cur _ e _ hh,by omega,hcm,?_,?_⟩⟩
  ·rw[hl2]
  ·simp only[U6,sp,KW,Ry,T4,h1];omega
  ·rw[hl2,h1,SA,E.all_append];have e1:=E.all_take m l.length;have e2:=E.all_drop l m.length;rw[h1,SA]at e1 e2;rw[<-e1,<-e2,<-ht];simp only[VN,Tj,RX];rw[take_append,hn,Ru (by rw[hn];omega)];congr 1;rcases Nat.le_total m.length l.length with h|h
   ·rw[Sr h,drop_take]
   ·rw[Vx h,Se,VN,SF (by rw[KW];omega)]
end
def Sat.bk{α:Type}{w0 w:World}{cs:List Chunk}(h:Sat w0 cs w)(i:Nat){v:Value}{e:Nat}{E:Enc α}{l l':List α}(hi:cs[i]? =some (cL v e E l))(hq:l=l'):Sat w0 (cs.set i (cL v e E l')) w:=by
 subst hq;obtain⟨hil,hci⟩:=IN.1 hi;rw[<-hci,Uh hil];exact h
