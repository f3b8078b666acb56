/-
 KW:A SMALL PROGRAM LOGIC OVER THE KIT'S RULES. A frame is a list of known slots,a region is walked operation by operation (in the text's order,or along a plan where the order is drawn).
 Our own text;it names no program.
-/
import Derived.Test.YtcgidfgdbhihbaaGreatDoorAl
import Derived.WalkKit
import Derived.WalkLawsBesides
import Derived.WalkSpells
import Derived.OrdersHeld
import Derived.Deep.AppendSrc
import Derived.Deep.LoopGhost
import Derived.Laws.CopyOwn
open List renaming length→I,take→J,drop→ww
set_option linter.all false
open Go.Proofs.YtcgidfgdbhihbaaGreatDoor
open List hiding all all_append all_cons all_nil
namespace Go.Kw
open Go.RowKit
abbrev aA:=List (Nat×Value)
def look:aA->Nat->Option Value
 |[],_=>none
 |(t,v)::r,u=>cond (Nat.beq t u) (some v) (look r u)
def aM(L:aA):Operand->Option Value
 | .tmp t=>look L t
 | .const v=>some v
 | .global g=>some (.pointer (some ⟨g,0,none⟩))
 | .func f=>some (.func (.func f) #[] #[])
def pB(L:aA):List Operand->Option (List Value)
 |[]=>some []
 |x::r=>(aM L x).bind λ v=>(pB L r).map (v:: ·)
structure Fits(n:Nat)(L:aA)(a:Act):Prop where
 size:a.tmps.size=n
 slot:∀ t v,look L t=some v->a.tmps[t]? =some v
 defers:a.defers=[]
theorem Fits.eval{n:Nat}{L:aA}{a:Act}(h:Fits n L a){x:Operand}{v:Value}(H:aM L x=some v):a.eval x=v:=by
 cases x with
 |tmp t=>have:=h.slot t v H;simp[Act.eval,Ys,this]
 |const u=>simpa[aM,Act.eval]using H
 |global g=>simpa[aM,Act.eval]using H
 |func f=>simpa[aM,Act.eval]using H
def Fits.BZ{n:Nat}{L:aA}{a:Act}(h:Fits n L a):∀ {X:List Operand} {vs:List Value},pB L X=some vs->X.map a.eval=vs
 |[],vs,hx=>by simpa[pB]using hx
 |x::r,vs,hx=>by
  simp only[pB,Zj,Yz]at hx;obtain⟨v,d,u,H,rfl⟩:=hx;simp[h.eval d,h.BZ H]
def jZ{L:aA}{d t:Nat}{v:Value}:look ((d,v)::L) t=if d=t then some v else look L t:=by
 simp only[look];by_cases e:d=t
 ·subst e;simp
 ·have:Nat.beq d t=false:=by
   cases h:Nat.beq d t with
   |false=>rfl
   |true=>exact absurd (Yw h) e
  simp[e,this]
theorem Fits.put{n:Nat}{L:aA}{a:Act}(h:Fits n L a){d:Nat}{v:Value}(hd:d<n):Fits n ((d,v)::L) (a.put (some d) v):=by
 refine⟨by simp[Act.put,h.size],λ t u H=>?_,h.defers⟩;rw[jZ]at H;simp only[Act.put,Array.getElem?_setIfInBounds];by_cases e:d=t
 ·subst e;simp at H;simp[H,h.size,hd]
 ·simp only[e,Yy]at H⊢;exact h.slot t u H
def Weak:aA->aA->Prop
 |[],_=>True
 |(t,v)::r,L=>look L t=some v/\Weak r L
theorem Weak.look{l L:aA}(h:Weak l L):∀ {t v},Kw.look l t=some v->Kw.look L t=some v:=by
 induction l with
 |nil=>intro t v h;simp[Kw.look]at h
 |cons p r i=>
  intro t v H;obtain⟨d,u⟩:=p;rw[jZ]at H;by_cases e:d=t
  ·subst e;simp at H;subst H;exact h.1
  ·simp[e]at H;exact i h.2 H
theorem Fits.weaken{n:Nat}{L l:aA}{a:Act}(h:Fits n L a)(hw:Weak l L):Fits n l a:=
 ⟨h.size,λ t v H=>h.slot t v (hw.look H),h.defers⟩
structure Qs where
 nrm:aA->World->Prop
 ret:aA->World->Prop
 E:List (Nat×(aA->World->Prop))
 gto:List (Nat×(aA->World->Prop))
def lookE:List (Nat×(aA->World->Prop))->Nat->aA->World->Prop
 |[],_=>λ _ _=>False
 |(t,R)::r,u=>cond (Nat.beq t u) R (lookE r u)
def RR(n:Nat)(Q:Qs):Exit->Act->World->Prop
 | .normal,a,w=>∃ L,Fits n L a/\Q.nrm L w
 | .ret,a,w=>∃ L,Fits n L a/\Q.ret L w
 | .exit id,a,w=>∃ L,Fits n L a/\lookE Q.E id L w
 | .goto l,a,w=>∃ L,Fits n L a/\lookE Q.gto l L w
 |_,_,_=>False
def CW(P:Program)(n:Nat)(c:Code)(Q:Qs)(L:aA)(w:World):Prop:=∀ a,Fits n L a->c.wp P (RR n Q) a w
section
variable {P:Program} {n:Nat} {Q:Qs} {L:aA} {w:World}
theorem CW.weaken{c:Code}(l:aA)(hw:Weak l L)(h:CW P n c Q l w):CW P n c Q L w:=λ a H=>h a (H.weaken hw)
def CW.VO(h:Q.nrm L w):CW P n .skip Q L w:=λ _ H=>wp_skip ⟨L,H,h⟩
def CW.WZ(h:Q.ret L w):CW P n .ret Q L w:=λ _ H=>wp_ret ⟨L,H,h⟩
def CW.vE{id:Nat}(h:lookE Q.E id L w):CW P n (.exit id) Q L w:=λ _ H=>wp_exit ⟨L,H,h⟩
def CW.W9{l:Nat}(h:lookE Q.gto l L w):CW P n (.goto l) Q L w:=λ _ H=>wp_goto ⟨L,H,h⟩
def CW.WS{x y:Code}(h:CW P n x {Q with nrm:=λ L w=>CW P n y Q L w} L w):CW P n (.seq x y) Q L w:=λ a d=>
 wp_seq (a0p (h a d) λ e A W q=>by
  cases e<;>first|(obtain⟨l,H,g⟩:=q;exact g A H)|exact q)
def CW.PS{x y:Code}(R:aA->World->Prop)(h:CW P n x {Q with nrm:=R} L w)(h2:∀ l W,R l W->CW P n y Q l W):CW P n (.seq x y) Q L w:=λ a d=>
 wp_seq (a0p (h a d) λ e A W q=>by
  cases e<;>first|(obtain⟨l,H,g⟩:=q;exact h2 l W g A H)|exact q)
def CW.WT{c:Code}(R:aA->World->Prop)(h:CW P n c {Q with nrm:=R} L w)(h2:∀ l W,R l W->Q.nrm l W):CW P n c Q L w:=λ a d=>
 a0p (h a d) λ e A W q=>by
  cases e<;>first|(obtain⟨l,H,g⟩:=q;exact⟨l,H,h2 l W g⟩)|exact q
def CW.FB{c:Operand}{x y:Code}{b:Bool}(d:aM L c=some (.bool b))(t:b=true->CW P n x Q L w)(g:b=false->CW P n y Q L w):CW P n (.cond c x y) Q L w:=
 λ a H=>wp_cond_split (H.eval d) (λ h=>t h a H) (λ h=>g h a H)
def CW.U3{c:Operand}{x y:Code}{p:Prop}{dp:Decidable p}(H:aM L c=some (.bool (@decide p dp)))(t:p->CW P n x Q L w)(d:¬ p->CW P n y Q L w):CW P n (.cond c x y) Q L w:=
 CW.FB H (λ h=>t (XR h)) (λ h=>d (YY h))
def CW.U6{c:Operand}{x y:Code}{b:Bool}(d:aM L c=some (.bool b))(H:b=true)(t:CW P n x Q L w):CW P n (.cond c x y) Q L w:=
 CW.FB d (λ _=>t) (λ h=>absurd (H.symm.trans h) bw)
def CW.U4{c:Operand}{x y:Code}{b:Bool}(d:aM L c=some (.bool b))(H:b=false)(g:CW P n y Q L w):CW P n (.cond c x y) Q L w:=
 CW.FB d (λ h=>absurd (H.symm.trans h) bw) (λ _=>g)
def cS{E:List (Nat×(aA->World->Prop))}{i id:Nat}{R:aA->World->Prop}:lookE ((i,R)::E) id=if i=id then R else lookE E id:=by
 simp only[lookE];by_cases e:i=id
 ·subst e;simp
 ·have:Nat.beq i id=false:=by
   cases h:Nat.beq i id with
   |false=>rfl
   |true=>exact absurd (Yw h) e
  simp[e,this]
def CW.TR{id:Nat}{c:Code}(h:CW P n c {Q with E:=(id,Q.nrm)::Q.E} L w):CW P n (.block id c) Q L w:=λ a j=>
 wp_block (a0p (h a j) λ e A W q=>by
  cases e with
  |exit i=>
   obtain⟨d,g,H⟩:=q;simp only[cS]at H;simp only[Exit.inBlock];by_cases hid:i=id
   ·subst hid;rw[Xp Y]at H⊢;exact⟨d,g,H⟩
   ·rw[Xn hid];rw[Xn (λ e=>hid e.symm)]at H;exact⟨d,g,H⟩
  |normal=>exact q
  |ret=>exact q
  |goto l=>exact q
  |panic c=>exact q
  |outgrown=>exact q)
def CW.VI{c:Code}{α:Type}(K:α->aA)(i:α->World->Prop)(μ:α->Nat)(d:α)(h0:Weak (K d) L)(o:i d w)
  (r:∀ x w,i x w->CW P n c {Q with nrm:=λ j W=>∃ X,Weak (K X) j/\i X W/\μ X<μ x} (K x) w):CW P n (.loop c) Q L w:=λ a u=>by
 refine wp_loop_ghost (λ m a w=>∃ x,Fits n (K x) a/\i x w/\μ x=m) (μ d) ⟨d,u.weaken h0,o,Y⟩ ?_;rintro m a w ⟨x,k,y,rfl⟩;refine a0p (r x w y a k) λ e A W q=>?_;cases e with
 |normal=>
  obtain⟨j,p,X,g,H,t⟩:=q;exact⟨μ X,t,X,p.weaken g,H,Y⟩
 |ret=>exact q
 |exit id=>exact q
 |goto l=>exact q
 |panic c=>exact q
 |outgrown=>exact q
end
def RQ(n:Nat)(K:aA->World->Prop):Exit->Act->World->Prop
 | .normal,a,w=>∃ L,Fits n L a/\K L w
 |_,_,_=>False
def RT(P:Program)(n:Nat)(ops:List Oper)(l:List Oper)(K:aA->World->Prop)(L:aA)(w:World):Prop:=
 ∀ a,Fits n L a->wpList P ops.toArray (RQ n K) l a w
def Ev(P:Program)(n:Nat)(L:aA)(w:World)(o:Oper)(v:Value):Prop:=
 ∀ a,Fits n L a->(execOp a.eval o).run P w= .ok (.value v) w
def OpE(P:Program)(n:Nat)(L:aA)(w:World)(o:Oper)(K:Value->World->Prop):Prop:=
 ∀ a,Fits n L a->∀ (next:Act->World->Prop) (Q:Exit->Act->World->Prop),(∀ v W,K v W->next (a.put o.dst v) W)->o.wp P a w next Q
def putK(d:Option Nat)(v:Value)(L:aA):aA:=
 match d with
 |some t=>(t,v)::L
 |none=>L
def bX(n:Nat):Option Nat->Bool
 |some t=>Nat.ble (t+1) n
 |none=>true
theorem Fits.putK{n:Nat}{L:aA}{a:Act}(h:Fits n L a){d:Option Nat}{v:Value}(hd:bX n d=true):Fits n (Kw.putK d v L) (a.put d v):=by
 cases d with
 |none=>exact h
 |some t=>exact h.put (XW hd)
def vS(ops:List Oper)(j:Nat):Option Nat:=
 match ops[j]? with
 |some o=>o.dst
 |none=>none
def Fits.yielded{n:Nat}{L:aA}{a:Act}(h:Fits n L a){ops:List Oper}{j d:Nat}{b:Bool}(hj:vS ops j=some d)(hd:look L d=some (.bool b)):Go.yielded ops.toArray a.tmps j=some b:=by
 have g:=h.slot d _ hd;unfold vS at hj;unfold Go.yielded;cases H:ops[j]? with
 |none=>simp[H]at hj
 |some o=>simp only[H]at hj;simp[H,hj,g]
def Fits.C4{n:Nat}{L:aA}{a:Act}(h:Fits n L a){ops:List Oper}{j d:Nat}(hj:vS ops j=some d)(hd:look L d=some undef):Go.yielded ops.toArray a.tmps j=none:=by
 have g:=h.slot d _ hd;unfold vS at hj;unfold Go.yielded;cases H:ops[j]? with
 |none=>simp[H]at hj
 |some o=>simp only[H]at hj;simp[H,hj,g,undef]
section
variable {P:Program} {n:Nat} {Q:Qs} {L:aA} {w:World} {K:aA->World->Prop} {ops:List Oper}
def RQ.lift{n:Nat}{Q:Qs}:∀ e a w,RQ n Q.nrm e a w->RR n Q e a w:=λ e a w h=>by
 cases e<;>first|exact h|exact(h:False).elim
def CW.Q1{id:Nat}{l:List Oper}(h:RT P n l l Q.nrm L w):CW P n (.region id l.toArray false) Q L w:=λ a H=>
 a0p (wp_region_list (by simpa using h a H)) RQ.lift
theorem RT.nil(h:K L w):RT P n ops [] K L w:=λ _ H=>wpList_nil ⟨L,H,h⟩
def RT.j:=@RT.nil
theorem RT.ev{o:Oper}{r:List Oper}{v:Value}(g:o.guard=none)(hd:bX n o.dst=true)(he:Ev P n L w o v)(h:RT P n ops r K (putK o.dst v L) w):RT P n ops (o::r) K L w:=λ a H=>by
 refine wpList_plain g λ k d=>?_;simp only[Oper.wp,he a H,Oper.upon];exact d _ _ (h _ (H.putK hd))
def kQ(n:Nat)(o:Oper):Bool:=o.guard.isNone&&bX n o.dst
def dN{n:Nat}{o:Oper}(h:kQ n o=true):o.guard=none:=by
 unfold kQ at h;simp only[Xz,Zv]at h;exact h.1
def dO{n:Nat}{o:Oper}(h:kQ n o=true):bX n o.dst=true:=by
 unfold kQ at h;simp only[Xz]at h;exact h.2
def eK(n:Nat)(ops:List Oper)(i:Nat):Option Oper:=match ops[i]? with
 |some o=>cond (kQ n o) (some o) none
 |none=>none
def cQ{n:Nat}{ops:List Oper}{i:Nat}{o:Oper}(h:eK n ops i=some o):ops[i]? =some o/\kQ n o=true:=by
 unfold eK at h;cases H:ops[i]? with
 |none=>rw[H]at h;cases h
 |some q=>
  rw[H]at h;cases p:kQ n q with
  |false=>simp[p]at h
  |true=>simp[p]at h;subst h;exact⟨Y,p⟩
theorem RT.e{o:Oper}{r:List Oper}{v:Value}(g:kQ n o=true)(he:Ev P n L w o v)(h:RT P n ops r K (putK o.dst v L) w):RT P n ops (o::r) K L w:=RT.ev (dN g) (dO g) he h
theorem RT.MN{o:Oper}{r:List Oper}(g:o.guard=none)(hd:bX n o.dst=true)(he:OpE P n L w o λ v W=>RT P n ops r K (putK o.dst v L) W):RT P n ops (o::r) K L w:=λ a H=>
 wpList_plain g λ _ d=>he a H _ _ λ _ _ h=>d _ _ (h _ (H.putK hd))
theorem RT.f{o:Oper}{r:List Oper}(g:kQ n o=true)(he:OpE P n L w o λ v W=>RT P n ops r K (putK o.dst v L) W):RT P n ops (o::r) K L w:=RT.MN (dN g) (dO g) he
theorem RT.yes{o:Oper}{r:List Oper}{j d:Nat}{b i:Bool}(q:o.guard=some (j,b))(hj:vS ops j=some d)(p:look L d=some (.bool i))(g:i=b)
  (h:RT P n ops ({o with guard:=none}::r) K L w):RT P n ops (o::r) K L w:=λ a k=>by
 subst g;have H:=h a k;unfold wpList at H⊢;have:Region.wanted o (yielded ops.toArray a.tmps)=true:=a3V
 have l:Region.wanted {o with guard:=none} (yielded ops.toArray a.tmps)=true:=a3y
 simp only[this,l,Z7]at H⊢;exact H
theorem RT.no{o:Oper}{r:List Oper}{j d:Nat}{b g:Bool}(l:o.guard=some (j,b))(hj:vS ops j=some d)(k:look L d=some (.bool g))(H:g= !b)(hd:bX n o.dst=true)
  (h:RT P n ops r K (putK o.dst undef L) w):RT P n ops (o::r) K L w:=λ a i=>by
 have:Region.wanted o (yielded ops.toArray a.tmps)=false:=by
  simp only[Region.wanted,l,i.yielded hj k];subst H;cases b<;>simp
 exact wpList_skip this (h _ (i.putK hd))
def RT.Xj{o:Oper}{r:List Oper}{j d:Nat}{b:Bool}(i:o.guard=some (j,b))(hj:vS ops j=some d)(g:look L d=some undef)(hd:bX n o.dst=true)
  (h:RT P n ops r K (putK o.dst undef L) w):RT P n ops (o::r) K L w:=λ a H=>
 wpList_skip (by simp only[Region.wanted,i,H.C4 hj g];rfl) (h _ (H.putK hd))
def di(b:Option Nat)(S1 S2:World->Prop)(l:Array Bool)(w:World):Prop:=
 match b with
 |none=>S2 w
 |some b=>if l.getD b true=true then S2 w else S1 w
def kR(P:Program)(ops:Array Oper)(Q:Exit->Act->World->Prop)(b:Option Nat)(S1 S2:World->Prop):Nat->Array Bool->Act->World->Prop
 |0,listed,a,w=>Region.ready .any ops listed=[]/\Q .normal a w
 |fuel+1,listed,a,w=>
  (Region.ready .any ops listed=[]->Q .normal a w)/\
  ∀ i∈Region.ready .any ops listed,wpOp P ops Q i (λ A W=>di b S1 S2 (listed.setIfInBounds i true) W/\kR P ops Q b S1 S2 fuel (listed.setIfInBounds i true) A W) a w
def iY{P:Program}{ops:Array Oper}{Q:Exit->Act->World->Prop}{b:Option Nat}{S1 S2:World->Prop}:∀ (l:Nat) (d:Array Bool) (a:Act) (w:World),kR P ops Q b S1 S2 l d a w->wpAny P .any ops Q l d a w
 |0,_,_,_,h=>h
 |l+1,_,_,_,h=>⟨h.1,λ i g=>ZL (λ A W H=>iY l _ A W H.2) (h.2 i g)⟩
def AD{P:Program}{ops:Array Oper}{Q:Exit->Act->World->Prop}{b:Option Nat}{S1 S2:World->Prop}{l:Array Bool}{a:Act}{w:World}(r:Region.ready .any ops l=[])(h:Q .normal a w):
  ∀ d,kR P ops Q b S1 S2 d l a w
 |0=>⟨r,h⟩
 |_+1=>⟨λ _=>h,by rw[r];simp⟩
def iC{P:Program}{ops:Array Oper}{Q:Exit->Act->World->Prop}{b:Option Nat}{S1 S2 T:World->Prop}{i:Nat}{W:Oper}{v:Value}(hi:ops[i]? =some W)(K:∀ (j:Nat) (o:Oper) cs b,ops[j]? =some o->o.op≠.select cs b)
  (hQ:∀ c a w,Q (.panic c) (a.put W.dst v) w->Q (.panic c) a w) (d:Array Bool->Prop)
  (hI:∀ l j u,d l->ops[j]? =some u->j≠i->(∀ e∈u.after,Region.binds .any e=true->e.on≠i)->d (l.setIfInBounds j true))
  (hT:∀ l w,d l->di b S1 S2 l w->T w) (hc:∀ l w,d l->(di b S1 S2 (l.setIfInBounds i true) w↔di b S1 S2 l w)):
  ∀ (q:Nat) (g:Array Bool) (a:Act) (w:World),d g->
   (∀ j u,ops[j]? =some u->j≠i->g.getD j true=false->(∀ e∈u.after,Region.binds .any e=true->e.on≠i)->W.apart ops u=true)->
   i∈Region.ready .any ops g->YieldsIf P ops T W v a->di b S1 S2 g w->
   kR P ops Q b S1 S2 q (g.setIfInBounds i true) (a.put W.dst v) w->kR P ops Q b S1 S2 (q+1) g a w:=by
 intro q;induction q with
 |zero=>
  intro g a w r _ R hy hS H;refine⟨λ h=>(by rw[h]at R;cases R),λ j hj=>?_⟩;by_cases p:j=i
  ·subst p;exact hy.wpOp hi (hT _ _ r hS) ⟨(hc _ _ r).2 hS,H⟩
  ·have:=ready_mono hj p;rw[H.1]at this;cases this
 |succ q ih=>
  intro g a w r t R hy hS H;refine⟨λ h=>(by rw[h]at R;cases R),λ j hj=>?_⟩;by_cases p:j=i
  ·subst p;exact hy.wpOp hi (hT _ _ r hS) ⟨(hc _ _ r).2 hS,H⟩
  ·have N:=H.2 j (ready_mono hj p);obtain⟨D,u,A,a1⟩:=mem_ready.1 hj;have E:∀ e∈u.after,Region.binds .any e=true->e.on≠i:=λ e he hb a4=>by
    have N:=a1 e he hb;have h0:=(mem_ready.1 R).1;rw[a4]at N;rcases XI i g.size with h'|h'
    ·simp[h']at h0 N;rw[h0]at N;cases N
    ·simp[a1m h']at N
   have h2:=wpOp_putIf A (t j u A p D E) (λ cs b=>K i W cs b hi) (λ cs b=>K j u cs b A) hQ hy N;have y:∀ k ok,ops[k]? =some ok->k≠i->(g.setIfInBounds j true).getD k true=false->
     (∀ e∈ok.after,Region.binds .any e=true->e.on≠i)->W.apart ops ok=true:=λ k ok hk a5 a3 a6=>by
    refine t k ok hk a5 ?_ a6;by_cases a2:j=k
    ·subst a2;exact D
    ·rw[a0c true a2]at a3;exact a3
   have X:=hI g j u r A p E;refine ZL (λ a' w' h3=>?_) h2;have h4:=h3.2.1;rw[Array.setIfInBounds_comm _ _ (Ne.symm p)]at h4;have a0:=(hc _ _ X).1 h4;refine⟨a0,ih (g.setIfInBounds j true) a' w' X y (ready_mono R (Ne.symm p)) h3.1 a0 ?_⟩;rw[Array.setIfInBounds_comm _ _ p];exact h3.2.2
inductive Plan where
 |fin
 |free (i:Nat) (p:Plan)
 |loose (i:Nat) (p:Plan)
 |one (i:Nat) (p:Plan)
 |bar (i:Nat) (p:Plan)
 |two (i j:Nat) (p q:Plan)
 |three (i j k:Nat) (p q r:Plan)
def Plan.gX:Plan->Option Nat
 | .fin=>none
 | .free _ p| .one _ p| .loose _ p=>p.gX
 | .bar i _=>some i
 | .two _ _ p _=>p.gX
 | .three _ _ _ _ _ _=>none
def AE(ops:Array Oper)(i:Nat):Option Nat->Bool
 |none=>true
 |some b=>(i !=b)&&(match ops[b]? with|some o=>o.after.any λ e=>Region.binds .any e&&e.on==i|none=>false)
def Plan.ok(ops:Array Oper):Plan->Array Bool->Bool
 | .fin,l=>(Region.ready .any ops l).isEmpty
 | .free i p,l=>Region.free .any ops l i&&(Region.ready .any ops l).contains i&&AE ops i p.gX&&p.ok ops (l.setIfInBounds i true)
 | .loose i p,l=>Region.free .any ops l i&&(Region.ready .any ops l).contains i&&p.gX !=some i&&p.ok ops (l.setIfInBounds i true)
 | .one i p,l=>Region.ready .any ops l==[i]&&p.gX !=some i&&p.ok ops (l.setIfInBounds i true)
 | .bar i p,l=>Region.ready .any ops l==[i]&&p.gX.isNone&&p.ok ops (l.setIfInBounds i true)
 | .two i j p q,l=>Region.ready .any ops l==[i,j]&&p.gX==q.gX&&p.gX !=some i&&p.gX !=some j&&p.ok ops (l.setIfInBounds i true)&&q.ok ops (l.setIfInBounds j true)
 | .three i j k p q r,l=>Region.ready .any ops l==[i,j,k]&&p.gX.isNone&&q.gX.isNone&&r.gX.isNone&&p.ok ops (l.setIfInBounds i true)&&q.ok ops (l.setIfInBounds j true)&&r.ok ops (l.setIfInBounds k true)
def Plan.depth:Plan->Nat
 | .fin=>0
 | .free _ p| .one _ p| .bar _ p| .loose _ p=>p.depth+1
 | .two _ _ p q=>max p.depth q.depth+1
 | .three _ _ _ p q r=>max (max p.depth q.depth) r.depth+1
def HW:List (World->Prop)->World->Prop
 |[]=>λ _=>True
 |S::_=>S
def planWp(P:Program)(n:Nat)(ops:List Oper)(K:aA->World->Prop):List (World->Prop)->Plan->Act->World->Prop
 |_,.fin,a,w=>RQ n K .normal a w
 |S,.free i p,a,w=>∃ o v,ops[i]? =some o/\YieldsIf P ops.toArray (HW S) o v a/\HW S w/\planWp P n ops K S p (a.put o.dst v) w
 |S,.loose i p,a,w=>∃ o v,ops[i]? =some o/\YieldsIf P ops.toArray (HW S.tail) o v a/\HW S w/\planWp P n ops K S p (a.put o.dst v) w
 |S,.one i p,a,w=>wpOp P ops.toArray (RQ n K) i (λ A W=>∃ T:World->Prop,(∀ u,T u->HW S u)/\T W/\planWp P n ops K (T::S.tail) p A W) a w
 |S,.bar i p,a,w=>wpOp P ops.toArray (RQ n K) i (λ A W=>HW S.tail W/\planWp P n ops K S.tail p A W) a w
 |S,.two i j p q,a,w=>wpOp P ops.toArray (RQ n K) i (λ A W=>∃ T:World->Prop,(∀ u,T u->HW S u)/\T W/\planWp P n ops K (T::S.tail) p A W) a w/\wpOp P ops.toArray (RQ n K) j (λ A W=>∃ T:World->Prop,(∀ u,T u->HW S u)/\T W/\planWp P n ops K (T::S.tail) q A W) a w
 |S,.three i j k p q r,a,w=>wpOp P ops.toArray (RQ n K) i (λ A W=>∃ T:World->Prop,(∀ u,T u->HW S u)/\T W/\planWp P n ops K (T::S.tail) p A W) a w/\wpOp P ops.toArray (RQ n K) j (λ A W=>∃ T:World->Prop,(∀ u,T u->HW S u)/\T W/\planWp P n ops K (T::S.tail) q A W) a w/\wpOp P ops.toArray (RQ n K) k (λ A W=>∃ T:World->Prop,(∀ u,T u->HW S u)/\T W/\planWp P n ops K (T::S.tail) r A W) a w
def D6{b:Option Nat}{S1 S2 T t:World->Prop}(h1:∀ u,T u->S1 u)(h2:∀ u,t u->S2 u){l:Array Bool}{w:World}(h:di b T t l w):di b S1 S2 l w:=by
 cases b with
 |none=>exact h2 w h
 |some b=>
  simp only[di]at h⊢;by_cases q:l.getD b true=true
  ·rw[Xp q]at h⊢;exact h2 w h
  ·rw[Xn q]at h⊢;exact h1 w h
def db{P:Program}{ops:Array Oper}{Q:Exit->Act->World->Prop}{b:Option Nat}{S1 S2 T t:World->Prop}(h1:∀ u,T u->S1 u)(h2:∀ u,t u->S2 u):∀ (d:Nat) (l:Array Bool) (a:Act) (w:World),kR P ops Q b T t d l a w->kR P ops Q b S1 S2 d l a w
 |0,_,_,_,h=>h
 |d+1,_,_,_,h=>⟨h.1,λ i g=>ZL (λ A W H=>⟨D6 h1 h2 H.1,db h1 h2 d _ A W H.2⟩) (h.2 i g)⟩
def jH{l:Array Bool}{i:Nat}:(l.setIfInBounds i true).getD i true=true:=by
 by_cases h:i<l.size<;>simp[h]
def bm{l:Array Bool}{i j:Nat}(h:l.getD j true=true):(l.setIfInBounds i true).getD j true=true:=by
 by_cases H:i=j
 ·subst H;exact jH
 ·rw[a0c true H];exact h
def planWp.jb{S1:World->Prop}{b:Option Nat}(H:Region.noSelect ops.toArray=true):∀ (S2:World->Prop) (S:List (World->Prop)),HW S=S2->S.tail=[]->∀ (p:Plan) (l:Array Bool) (d:Nat) (a:Act) (w:World),p.gX=none->(∀ b0,b=some b0->l.getD b0 true=true)->p.ok ops.toArray l=true->p.depth<=d->
  planWp P n ops K S p a w->kR P ops.toArray (RQ n K) b S1 S2 d l a w
 |S2,S,hS,hS2,.fin,l,d,a,w,_,_,hok,_,h=>AD (by simpa[Plan.ok]using hok) h d
 |S2,S,hS,hS2,.free i p,l,d+1,a,w,hb,hl,hok,hd,h=>by
  obtain⟨o,v,ho,hy,hw,u⟩:=h;simp only[Plan.ok,Xz]at hok;rw[hS]at hy hw;have D:∀ l w,(∀ b0,b=some b0->l.getD b0 true=true)->(di b S1 S2 l w↔S2 w):=λ l w h=>by
   cases b with
   |none=>rfl
   |some b=>simp only[di,h b Y,Z7]
  have E:∀ l w,(∀ b0,b=some b0->l.getD b0 true=true)->(di b S1 S2 (l.setIfInBounds i true) w↔di b S1 S2 l w):=λ l w h=>(D _ w λ b0 e=>bm (h b0 e)).trans (D l w h).symm;exact iC (T:=S2) a0W (a0x H) (λ _ _ _ h=>h) (λ l=>∀ b0,b=some b0->l.getD b0 true=true) (λ l j oj h _ _ _ b0 e=>bm (h b0 e)) (λ l w h y=>(D l w h).1 y)
   E d l a w hl (a1q a0W hok.1.1.1) a2E hy ((D l w hl).2 hw)
   (planWp.jb H S2 S hS hS2 p _ d _ w hb (λ b0 e=>bm (hl b0 e)) hok.2 a0K u)
 |S2,S,hS,hS2,.loose i p,l,d+1,a,w,hb,hl,hok,hd,h=>by
  obtain⟨o,v,ho,hy,hw,u⟩:=h;simp only[Plan.ok,Xz]at hok;rw[hS]at hw;rw[hS2]at hy;have D:∀ l w,(∀ b0,b=some b0->l.getD b0 true=true)->(di b S1 S2 l w↔S2 w):=λ l w h=>by
   cases b with
   |none=>rfl
   |some b=>simp only[di,h b Y,Z7]
  have E:∀ l w,(∀ b0,b=some b0->l.getD b0 true=true)->(di b S1 S2 (l.setIfInBounds i true) w↔di b S1 S2 l w):=λ l w h=>(D _ w λ b0 e=>bm (h b0 e)).trans (D l w h).symm;exact iC (T:=λ _=>True) a0W (a0x H) (λ _ _ _ h=>h) (λ l=>∀ b0,b=some b0->l.getD b0 true=true) (λ l j oj h _ _ _ b0 e=>bm (h b0 e)) (λ l w h y=>trivial)
   E d l a w hl (a1q a0W hok.1.1.1) a2E hy ((D l w hl).2 hw)
   (planWp.jb H S2 S hS hS2 p _ d _ w hb (λ b0 e=>bm (hl b0 e)) hok.2 a0K u)
 |S2,S,hS,hS2,.one i p,l,d+1,a,w,hb,hl,hok,hd,h=>by
  simp only[Plan.ok,Xz,Zo]at hok;refine⟨λ h0=>absurd (hok.1.1▸h0) bw,λ j hj=>?_⟩;rw[hok.1.1]at hj;simp only[XJ]at hj;subst hj;refine ZL (λ A W y=>?_) h;obtain⟨T,t,g,u⟩:=y;rw[hS]at t;refine⟨?_,db (λ _ h=>h) t _ _ _ _ (planWp.jb H T (T::S.tail) Y hS2 p _ d A W hb (λ b0 e=>bm (hl b0 e)) hok.2 a0K u)⟩;have:=t _ g;cases b with
  |none=>exact this
  |some b=>simp only[di,bm (hl b Y),Z7];exact this
 |S2,S,hS,hS2,.two i j p q,l,d+1,a,w,hb,hl,hok,hd,h=>by
  simp only[Plan.gX]at hb;simp only[Plan.ok,Xz,Zo]at hok;obtain⟨⟨⟨⟨⟨hr,a4⟩,_⟩,_⟩,Q⟩,R⟩:=hok;simp only[Plan.depth]at hd;refine⟨λ h0=>absurd (hr▸h0) bw,λ k N=>?_⟩;rw[hr]at N;simp only[Xr,Xq,XA]at N;have X:∀ k W,S2 W->di b S1 S2 (l.setIfInBounds k true) W:=λ k W y=>by
   cases b with
   |none=>exact y
   |some b=>simp only[di,bm (hl b Y),Z7];exact y
  rcases N with rfl|rfl
  ·exact ZL (λ A W ⟨T,t,g,u⟩=>⟨X _ _ (hS▸t _ g),db (λ _ h=>h) (hS▸t) _ _ _ _ (planWp.jb H T (T::S.tail) Y hS2 p _ d A W hb (λ b0 e=>bm (hl b0 e)) Q O u)⟩) h.1
  ·exact ZL (λ A W ⟨T,t,g,u⟩=>⟨X _ _ (hS▸t _ g),db (λ _ h=>h) (hS▸t) _ _ _ _ (planWp.jb H T (T::S.tail) Y hS2 q _ d A W (a4▸hb) (λ b0 e=>bm (hl b0 e)) R O u)⟩) h.2
 |S2,S,hS,hS2,.three i j m p q r,l,d+1,a,w,hb,hl,hok,hd,h=>by
  simp only[Plan.ok,Xz,Zo,Zv]at hok;obtain⟨⟨⟨⟨⟨⟨hr,a0⟩,a1⟩,a2⟩,Q⟩,R⟩,a3⟩:=hok;simp only[Plan.depth]at hd;refine⟨λ h0=>absurd (hr▸h0) bw,λ k N=>?_⟩;rw[hr]at N;simp only[Xr,Xq,XA]at N;have X:∀ k W,S2 W->di b S1 S2 (l.setIfInBounds k true) W:=λ k W y=>by
   cases b with
   |none=>exact y
   |some b=>simp only[di,bm (hl b Y),Z7];exact y
  rcases N with rfl|rfl|rfl
  ·exact ZL (λ A W ⟨T,t,g,u⟩=>⟨X _ _ (hS▸t _ g),db (λ _ h=>h) (hS▸t) _ _ _ _ (planWp.jb H T (T::S.tail) Y hS2 p _ d A W a0 (λ b0 e=>bm (hl b0 e)) Q O u)⟩) h.1
  ·exact ZL (λ A W ⟨T,t,g,u⟩=>⟨X _ _ (hS▸t _ g),db (λ _ h=>h) (hS▸t) _ _ _ _ (planWp.jb H T (T::S.tail) Y hS2 q _ d A W a1 (λ b0 e=>bm (hl b0 e)) R O u)⟩) h.2.1
  ·exact ZL (λ A W ⟨T,t,g,u⟩=>⟨X _ _ (hS▸t _ g),db (λ _ h=>h) (hS▸t) _ _ _ _ (planWp.jb H T (T::S.tail) Y hS2 r _ d A W a2 (λ b0 e=>bm (hl b0 e)) a3 O u)⟩) h.2.2
 |S2,S,hS,hS2,.bar i p,l,d,a,w,hb,_,_,_,_=>by simp[Plan.gX]at hb
 |S2,S,hS,hS2,.free i p,l,0,_,_,_,_,_,hd,_=>by simp[Plan.depth]at hd
 |S2,S,hS,hS2,.one i p,l,0,_,_,_,_,_,hd,_=>by simp[Plan.depth]at hd
 |S2,S,hS,hS2,.loose i p,l,0,_,_,_,_,_,hd,_=>by simp[Plan.depth]at hd
 |S2,S,hS,hS2,.two i j p q,l,0,_,_,_,_,_,hd,_=>by simp[Plan.depth]at hd
 |S2,S,hS,hS2,.three i j k p q r,l,0,_,_,_,_,_,hd,_=>by simp[Plan.depth]at hd
def planWp.oH{S2:World->Prop}{b:Nat}(H:Region.noSelect ops.toArray=true):∀ (S1:World->Prop),(∀ w,S1 w->S2 w)->∀ (p:Plan) (l:Array Bool) (d:Nat) (a:Act) (w:World),p.gX=some b->l.getD b true=false->p.ok ops.toArray l=true->p.depth<=d->
  planWp P n ops K [S1,S2] p a w->kR P ops.toArray (RQ n K) (some b) S1 S2 d l a w
 |S1,h12,.free i p,l,d+1,a,w,hb,hl,hok,hd,h=>by
  obtain⟨o,v,ho,hy,hw,E⟩:=h;simp only[Plan.gX]at hb;simp only[Plan.ok,Xz,hb,AE]at hok;have g:i≠b:=by simpa using hok.1.2.1
  have a2:∃ ob,ops.toArray[b]? =some ob/\∃ e∈ob.after,Region.binds .any e=true/\e.on=i:=by
   have h2:=hok.1.2.2;cases D:ops.toArray[b]? with
   |none=>rw[D]at h2;cases h2
   |some ob=>
    rw[D]at h2;obtain⟨e,he,h3⟩:=Array.any_eq_true'.1 h2;simp only[Xz,Zo]at h3;exact⟨ob,Y,e,he,h3.1,h3.2⟩
  obtain⟨ob,D,e,he,a1,a3⟩:=a2;have u:∀ l w,l.getD b true=false->(di (some b) S1 S2 l w↔S1 w):=λ l w h=>by
   simp only[di,h,Yq,Yy]
  exact iC (T:=S1) a0W (a0x H) (λ _ _ _ h=>h) (λ l=>l.getD b true=false)
   (λ l j oj h a0 b3 a6=>by
    have A:j≠b:=λ e2=>by subst e2;rw[D]at a0;cases a0;exact a6 e he a1 a3
    rw[a0c true A];exact h)
   (λ l w h=>(u l w h).1) (λ l w h=>by simp only[di,a0c true g]) d l a w hl (a1q a0W hok.1.1.1) a2E hy ((u l w hl).2 hw)
   (planWp.oH H S1 h12 p _ d _ w hb (by rw[a0c true g];exact hl) hok.2 a0K E)
 |S1,h12,.loose i p,l,d+1,a,w,hb,hl,hok,hd,h=>by
  obtain⟨o,v,ho,hy,hw,E⟩:=h;simp only[Plan.gX]at hb;simp only[Plan.ok,Xz,hb]at hok;have g:i≠b:=λ e=>by have:=hok.1.2;subst e;simp at this
  exact iC (T:=S2) a0W (a0x H) (λ _ _ _ h=>h) (λ _=>True) (λ _ _ _ _ _ _ _=>trivial)
   (λ l w _ h=>by
    simp only[di]at h;by_cases hq:l.getD b true=true
    ·rw[Xp hq]at h;exact h
    ·rw[Xn hq]at h;exact h12 _ h) (λ l w h=>by simp only[di,a0c true g]) d l a w trivial (a1q a0W hok.1.1.1) a2E hy
   (by simp only[di,hl,Yq,Yy];exact hw)
   (planWp.oH H S1 h12 p _ d _ w hb (by rw[a0c true g];exact hl) hok.2 a0K E)
 |S1,h12,.one i p,l,d+1,a,w,hb,hl,hok,hd,h=>by
  simp only[Plan.gX]at hb;simp only[Plan.ok,Xz,Zo,hb]at hok;have g:i≠b:=λ e=>by have:=hok.1.2;subst e;simp at this
  refine⟨λ R=>absurd (hok.1.1▸R) bw,λ j Q=>?_⟩;rw[hok.1.1]at Q;simp only[XJ]at Q;subst Q;have t:(l.setIfInBounds j true).getD b true=false:=by rw[a0c true g];exact hl
  exact ZL (λ N W ⟨T,u,y,E⟩=>⟨by simp only[di,t,Yq,Yy];exact u _ y,db u (λ _ h=>h) _ _ _ _ (planWp.oH H T (λ w h=>h12 w (u w h)) p _ d N W hb t hok.2 a0K E)⟩) h
 |S1,h12,.bar i p,l,d+1,a,w,hb,hl,hok,hd,h=>by
  simp only[Plan.gX,YB]at hb;subst hb;simp only[Plan.ok,Xz,Zo,Zv]at hok;refine⟨λ R=>absurd (hok.1.1▸R) bw,λ j Q=>?_⟩;rw[hok.1.1]at Q;simp only[XJ]at Q;subst Q;exact ZL (λ N W h'=>⟨by simp only[di,jH,Z7];exact h'.1,
   planWp.jb H S2 [S2] Y Y p _ d N W hok.1.2 (λ b0 e=>by cases e;exact jH) hok.2 a0K h'.2⟩) h
 |S1,h12,.fin,l,d,a,w,hb,_,_,_,_=>by simp[Plan.gX]at hb
 |S1,h12,.two i j p q,l,d+1,a,w,hb,hl,hok,hd,h=>by
  simp only[Plan.gX]at hb;simp only[Plan.ok,Xz,Zo,hb]at hok;obtain⟨⟨⟨⟨⟨hr,b2⟩,a4⟩,a5⟩,a9⟩,b1⟩:=hok;have g:i≠b:=λ e=>by subst e;simp at a4
  have A:j≠b:=λ e=>by subst e;simp at a5
  simp only[Plan.depth]at hd;refine⟨λ R=>absurd (hr▸R) bw,λ k X=>?_⟩;rw[hr]at X;simp only[Xr,Xq,XA]at X;have t:∀ k,k≠b->(l.setIfInBounds k true).getD b true=false:=λ k X=>by rw[a0c true X];exact hl
  rcases X with rfl|rfl
  ·exact ZL (λ N W ⟨T,u,y,E⟩=>⟨by simp only[di,t _ g,Yq,Yy];exact u _ y,db u (λ _ h=>h) _ _ _ _ (planWp.oH H T (λ w h=>h12 w (u w h)) p _ d N W hb (t _ g) a9 O E)⟩) h.1
  ·exact ZL (λ N W ⟨T,u,y,E⟩=>⟨by simp only[di,t _ A,Yq,Yy];exact u _ y,db u (λ _ h=>h) _ _ _ _ (planWp.oH H T (λ w h=>h12 w (u w h)) q _ d N W b2.symm (t _ A) b1 O E)⟩) h.2
 |S1,h12,.free i p,l,0,_,_,_,_,_,hd,_=>by simp[Plan.depth]at hd
 |S1,h12,.one i p,l,0,_,_,_,_,_,hd,_=>by simp[Plan.depth]at hd
 |S1,h12,.loose i p,l,0,_,_,_,_,_,hd,_=>by simp[Plan.depth]at hd
 |S1,h12,.bar i p,l,0,_,_,_,_,_,hd,_=>by simp[Plan.depth]at hd
 |S1,h12,.two i j p q,l,0,_,_,_,_,_,hd,_=>by simp[Plan.depth]at hd
 |S1,h12,.three i j k p q r,l,d,a,w,hb,_,_,_,_=>by simp[Plan.gX]at hb
def RP(P:Program)(n:Nat)(ops:List Oper)(S:List (World->Prop))(p:Plan)(K:aA->World->Prop)(L:aA)(w:World):Prop:=
 ∀ a,Fits n L a->planWp P n ops K S p a w
def Plan.sg(ops:List Oper)(p:Plan):Bool:=
 p.ok ops.toArray (Array.replicate (I ops) false)&&Nat.ble p.depth (I ops)&&Region.noSelect ops.toArray&&p.gX.isNone
def Plan.vC(ops:List Oper)(b:Nat)(p:Plan):Bool:=
 p.ok ops.toArray (Array.replicate (I ops) false)&&Nat.ble p.depth (I ops)&&Region.noSelect ops.toArray&&(p.gX==some b)&&Nat.blt b (I ops)
def CW.VM{id:Nat}{l:List Oper}(S:World->Prop)(p:Plan)(d:P.follows .mixedOrders=true)(k:p.sg l=true)
  (h:RP P n l [S] p Q.nrm L w.drew):CW P n (.region id l.toArray true) Q L w:=λ a H=>by
 simp only[Plan.sg,Xz,Zv]at k;refine a0p (wp_region_any d (iY (b:=none) (S1:=S) (S2:=S) _ _ _ _ ?_)) RQ.lift;have:=planWp.jb (b:=none) (S1:=S) k.1.2 S [S] Y Y p (Array.replicate (I l) false) (I l) a _ k.2 (λ _ e=>by cases e) k.1.1.1 (XW k.1.1.2) (h a H);simpa using this
def CW.TV{id:Nat}{l:List Oper}(S1 S2:World->Prop)(b:Nat)(p:Plan)(H:∀ w,S1 w->S2 w)(i:P.follows .mixedOrders=true)(k:p.vC l b=true)
  (h:RP P n l [S1,S2] p Q.nrm L w.drew):CW P n (.region id l.toArray true) Q L w:=λ a d=>by
 simp only[Plan.vC,Xz,Zo]at k;have g:b<I l:=by have:=k.2;simp only[a05]at this;exact this
 refine a0p (wp_region_any i (iY (b:=some b) (S1:=S1) (S2:=S2) _ _ _ _ ?_)) RQ.lift;have:=planWp.oH (S2:=S2) k.1.1.2 S1 H p (Array.replicate (I l) false) (I l) a _ k.1.2 a0G k.1.1.1.1 (XW k.1.1.1.2) (h a d);simpa using this
variable {S:World->Prop} {SS:List (World->Prop)} {p q:Plan}
def RP.fin(h:K L w):RP P n ops SS .fin K L w:=λ _ H=>⟨L,H,h⟩
theorem RP.ev{i:Nat}{o:Oper}{v:Value}(k:ops[i]? =some o)(j:o.guard=none)(hd:bX n o.dst=true)(he:∀ W,S W->Ev P n L W o v)(g:S w)
  (h:RP P n ops (S::SS) p K (putK o.dst v L) w):RP P n ops (S::SS) (.free i p) K L w:=λ a d=>
 ⟨o,v,k,.inl ⟨by simp[Region.wanted,j],λ W H=>he W H a d⟩,g,h _ (d.putK hd)⟩
theorem RP.e{i:Nat}{o:Oper}{v:Value}(H:eK n ops i=some o)(he:∀ W,S W->Ev P n L W o v)(d:S w)
  (h:RP P n ops (S::SS) p K (putK o.dst v L) w):RP P n ops (S::SS) (.free i p) K L w:=RP.ev (cQ H).1 (dN (cQ H).2) (dO (cQ H).2) he d h
theorem OpE.same{o:Oper}{S:World->Prop}{R:(World->Prop)->Value->World->Prop}{P:Program}{n:Nat}{L:aA}{w:World}(he:OpE P n L w o λ v W=>S W/\R S v W):OpE P n L w o λ v W=>∃ T:World->Prop,(∀ u,T u->S u)/\T W/\R T v W:=
 λ a H next Q k=>he a H next Q λ v W h=>k v W ⟨S,λ _ h=>h,h.1,h.2⟩
def kS{i:Nat}{o:Oper}(q:ops[i]? =some o)(l:o.guard=none)(hd:bX n o.dst=true)(he:OpE P n L w o λ v W=>∃ T:World->Prop,(∀ u,T u->S u)/\T W/\RP P n ops (T::SS) p K (putK o.dst v L) W){a:Act}(d:Fits n L a):
  wpOp P ops.toArray (RQ n K) i (λ A W=>∃ T:World->Prop,(∀ u,T u->S u)/\T W/\planWp P n ops K (T::SS) p A W) a w:=by
 have H:ops.toArray[i]? =some o:=a0T
 unfold wpOp;simp only[H,Region.wanted,l,Z7];exact .inl (he a d _ _ λ v W ⟨T,g,j,k⟩=>⟨T,g,j,k _ (d.putK hd)⟩)
def O9{i:Nat}{o:Oper}(j:ops[i]? =some o)(g:o.guard=none)(hd:bX n o.dst=true)(he:OpE P n L w o λ v W=>S W/\RP P n ops (S::SS) p K (putK o.dst v L) W){a:Act}(d:Fits n L a):
  wpOp P ops.toArray (RQ n K) i (λ A W=>S W/\planWp P n ops K (S::SS) p A W) a w:=by
 have H:ops.toArray[i]? =some o:=a4P
 unfold wpOp;simp only[H,Region.wanted,g,Z7];exact .inl (he a d _ _ λ v W h=>⟨h.1,h.2 _ (d.putK hd)⟩)
theorem RP.MN{i:Nat}{o:Oper}(d:ops[i]? =some o)(g:o.guard=none)(hd:bX n o.dst=true)(he:OpE P n L w o λ v W=>S W/\RP P n ops (S::SS) p K (putK o.dst v L) W):RP P n ops (S::SS) (.one i p) K L w:=
 λ _ H=>kS d g hd (OpE.same (R:=λ T v W=>RP P n ops (T::SS) p K (putK o.dst v L) W) he) H
theorem RP.f{i:Nat}{o:Oper}(H:eK n ops i=some o)(he:OpE P n L w o λ v W=>S W/\RP P n ops (S::SS) p K (putK o.dst v L) W):RP P n ops (S::SS) (.one i p) K L w:=
 RP.MN (cQ H).1 (dN (cQ H).2) (dO (cQ H).2) he
theorem RP.two{i j:Nat}{o d:Oper}(u:ops[i]? =some o)(t:o.guard=none)(hd:bX n o.dst=true)(l:ops[j]? =some d)(k:d.guard=none)(H:bX n d.dst=true)
  (he:OpE P n L w o λ v W=>S W/\RP P n ops (S::SS) p K (putK o.dst v L) W) (g:OpE P n L w d λ v W=>S W/\RP P n ops (S::SS) q K (putK d.dst v L) W):RP P n ops (S::SS) (.two i j p q) K L w:=
 λ _ r=>⟨kS u t hd (OpE.same (R:=λ T v W=>RP P n ops (T::SS) p K (putK o.dst v L) W) he) r,kS l k H (OpE.same (R:=λ T v W=>RP P n ops (T::SS) q K (putK d.dst v L) W) g) r⟩
def RP.zj{i:Nat}{o:Oper}(d:ops[i]? =some o)(g:o.guard=none)(hd:bX n o.dst=true)(he:OpE P n L w o λ v W=>∃ T:World->Prop,(∀ u,T u->S u)/\T W/\RP P n ops (T::SS) p K (putK o.dst v L) W):RP P n ops (S::SS) (.one i p) K L w:=
 λ _ H=>kS d g hd he H
def RP.vH{i j:Nat}{o d:Oper}(y:ops[i]? =some o)(t:o.guard=none)(hd:bX n o.dst=true)(l:ops[j]? =some d)(k:d.guard=none)(H:bX n d.dst=true)
  (he:OpE P n L w o λ v W=>∃ T:World->Prop,(∀ u,T u->S u)/\T W/\RP P n ops (T::SS) p K (putK o.dst v L) W) (g:OpE P n L w d λ v W=>∃ T:World->Prop,(∀ u,T u->S u)/\T W/\RP P n ops (T::SS) q K (putK d.dst v L) W):RP P n ops (S::SS) (.two i j p q) K L w:=
 λ _ r=>⟨kS y t hd he r,kS l k H g r⟩
def RP.loose{i:Nat}{o:Oper}{v:Value}{S2:World->Prop}(k:ops[i]? =some o)(j:o.guard=none)(hd:bX n o.dst=true)(he:∀ W,S2 W->Ev P n L W o v)(g:S w)
  (h:RP P n ops (S::S2::SS) p K (putK o.dst v L) w):RP P n ops (S::S2::SS) (.loose i p) K L w:=λ a d=>
 ⟨o,v,k,.inl ⟨by simp[Region.wanted,j],λ W H=>he W H a d⟩,g,h _ (d.putK hd)⟩
def RP.bar{i:Nat}{o:Oper}{S2:World->Prop}(d:ops[i]? =some o)(g:o.guard=none)(hd:bX n o.dst=true)(he:OpE P n L w o λ v W=>S2 W/\RP P n ops (S2::SS) p K (putK o.dst v L) W):RP P n ops (S::S2::SS) (.bar i p) K L w:=
 λ _ H=>O9 d g hd he H
theorem OpE.ev{o:Oper}{v:Value}{K:Value->World->Prop}(he:Ev P n L w o v)(h:K v w):OpE P n L w o K:=λ a H _ _ k=>by
 simp only[Oper.wp,he a H,Oper.upon];exact k _ _ h
end
section
variable {P:Program} {n:Nat} {N R:aA->World->Prop} {X G:List (Nat×(aA->World->Prop))} {L:aA} {w:World}
theorem CW.skip(h:N L w):CW P n .skip ⟨N,R,X,G⟩ L w:=CW.VO h
def CW.k:=@CW.skip
theorem CW.ret(h:R L w):CW P n .ret ⟨N,R,X,G⟩ L w:=CW.WZ h
def CW.exit{id:Nat}(h:lookE X id L w):CW P n (.exit id) ⟨N,R,X,G⟩ L w:=CW.vE h
def CW.aq{id:Nat}{M:aA->World->Prop}(h:M L w):CW P n (.exit id) ⟨N,R,(id,M)::X,G⟩ L w:=CW.vE (by simp only[cS,Xp];exact h)
def bW{E:List (Nat×(aA->World->Prop))}{i id:Nat}{M:aA->World->Prop}(h:(i==id)=false):lookE ((i,M)::E) id=lookE E id:=by
 rw[cS,Xn ra]
def CW.vF{id i:Nat}{M d:aA->World->Prop}(h1:(i==id)=false)(h:M L w):CW P n (.exit id) ⟨N,R,(i,d)::(id,M)::X,G⟩ L w:=CW.vE (by
 show lookE _ id L w;rw[bW h1,cS,Xp Y];exact h)
def CW.QT{id i d:Nat}{M g j:aA->World->Prop}(h1:(i==id)=false)(h2:(d==id)=false)(h:M L w):CW P n (.exit id) ⟨N,R,(i,g)::(d,j)::(id,M)::X,G⟩ L w:=CW.vE (by
 show lookE _ id L w;rw[bW h1,bW h2,cS,Xp Y];exact h)
def CW.QS{id i d g:Nat}{M j k l:aA->World->Prop}(h1:(i==id)=false)(h2:(d==id)=false)(H:(g==id)=false)(h:M L w):CW P n (.exit id) ⟨N,R,(i,j)::(d,k)::(g,l)::(id,M)::X,G⟩ L w:=CW.vE (by
 show lookE _ id L w;rw[bW h1,bW h2,bW H,cS,Xp Y];exact h)
def CW.VK{id i d g j:Nat}{M k l o p:aA->World->Prop}(h1:(i==id)=false)(h2:(d==id)=false)(H:(g==id)=false)(q:(j==id)=false)(h:M L w):CW P n (.exit id) ⟨N,R,(i,k)::(d,l)::(g,o)::(j,p)::(id,M)::X,G⟩ L w:=CW.vE (by
 show lookE _ id L w;rw[bW h1,bW h2,bW H,bW q,cS,Xp Y];exact h)
def CW.Mo{id i d g j k:Nat}{M l o p q r:aA->World->Prop}(h1:(i==id)=false)(h2:(d==id)=false)(H:(g==id)=false)(t:(j==id)=false)(u:(k==id)=false)(h:M L w):
  CW P n (.exit id) ⟨N,R,(i,l)::(d,o)::(g,p)::(j,q)::(k,r)::(id,M)::X,G⟩ L w:=CW.vE (by
 show lookE _ id L w;rw[bW h1,bW h2,bW H,bW t,bW u,cS,Xp Y];exact h)
theorem CW.seq{x y:Code}(h:CW P n x ⟨λ L w=>CW P n y ⟨N,R,X,G⟩ L w,R,X,G⟩ L w):CW P n (.seq x y) ⟨N,R,X,G⟩ L w:=CW.WS h
def CW.s:=@CW.seq
def CW.DN{x y:Code}(M:aA->World->Prop)(h:CW P n x ⟨M,R,X,G⟩ L w)(h2:∀ l W,M l W->CW P n y ⟨N,R,X,G⟩ l W):CW P n (.seq x y) ⟨N,R,X,G⟩ L w:=CW.PS M h h2
theorem CW.sR{c:Code}(M:aA->World->Prop)(h:CW P n c ⟨M,R,X,G⟩ L w)(h2:∀ l W,M l W->N l W):CW P n c ⟨N,R,X,G⟩ L w:=CW.WT M h h2
theorem CW.cond{c:Operand}{x y:Code}{b:Bool}(H:aM L c=some (.bool b))(t:b=true->CW P n x ⟨N,R,X,G⟩ L w)(d:b=false->CW P n y ⟨N,R,X,G⟩ L w):CW P n (.cond c x y) ⟨N,R,X,G⟩ L w:=CW.FB H t d
theorem CW.ab{c:Operand}{x y:Code}{p:Prop}{dp:Decidable p}(H:aM L c=some (.bool (@decide p dp)))(t:p->CW P n x ⟨N,R,X,G⟩ L w)(d:¬ p->CW P n y ⟨N,R,X,G⟩ L w):CW P n (.cond c x y) ⟨N,R,X,G⟩ L w:=CW.U3 H t d
def CW.cc{c:Operand}{x y:Code}{b:Bool}(d:aM L c=some (.bool b))(H:b=true)(t:CW P n x ⟨N,R,X,G⟩ L w):CW P n (.cond c x y) ⟨N,R,X,G⟩ L w:=CW.U6 d H t
def CW.ak{c:Operand}{x y:Code}{b:Bool}(d:aM L c=some (.bool b))(H:b=false)(g:CW P n y ⟨N,R,X,G⟩ L w):CW P n (.cond c x y) ⟨N,R,X,G⟩ L w:=CW.U4 d H g
theorem CW.block{id:Nat}{c:Code}(h:CW P n c ⟨N,R,(id,N)::X,G⟩ L w):CW P n (.block id c) ⟨N,R,X,G⟩ L w:=CW.TR h
def CW.p{a b:Code}{R0:aA->World->Prop}{X0 G0:List (Nat×(aA->World->Prop))}(h:CW P n a ⟨λ L w=>CW P n b ⟨N,R,X,G⟩ L w,R,X,G⟩ L w):CW P n .skip ⟨λ L w=>CW P n (.seq a b) ⟨N,R,X,G⟩ L w,R0,X0,G0⟩ L w:=.skip (.seq h)
def CW.q{i:Nat}{a b:Code}{R0:aA->World->Prop}{X0 G0:List (Nat×(aA->World->Prop))}(h:CW P n a ⟨λ L w=>CW P n b ⟨N,R,X,G⟩ L w,R,(i,λ L w=>CW P n b ⟨N,R,X,G⟩ L w)::X,G⟩ L w):CW P n .skip ⟨λ L w=>CW P n (.seq (.block i a) b) ⟨N,R,X,G⟩ L w,R0,X0,G0⟩ L w:=.skip (.seq (.block h))
def CW.l:=@CW.block
def CW.loop{c:Code}{α:Type}(K:α->aA)(i:α->World->Prop)(μ:α->Nat)(g:α)(h0:Weak (K g) L)(H:i g w)
  (r:∀ x w,i x w->CW P n c ⟨λ l W=>∃ d,Weak (K d) l/\i d W/\μ d<μ x,R,X,G⟩ (K x) w):CW P n (.loop c) ⟨N,R,X,G⟩ L w:=CW.VI K i μ g h0 H r
theorem CW.region{id:Nat}{l:List Oper}(h:RT P n l l N L w):CW P n (.region id l.toArray false) ⟨N,R,X,G⟩ L w:=CW.Q1 h
def CW.r:=@CW.region
def CW.FA{id:Nat}{l:List Oper}(S1 S2:World->Prop)(b:Nat)(p:Plan)(H:∀ w,S1 w->S2 w)(d:P.follows .mixedOrders=true)(k:p.vC l b=true)
  (h:RP P n l [S1,S2] p N L w.drew):CW P n (.region id l.toArray true) ⟨N,R,X,G⟩ L w:=CW.TV S1 S2 b p H d k h
theorem CW.draw{id:Nat}{l:List Oper}(S:World->Prop)(p:Plan)(H:P.follows .mixedOrders=true)(k:p.sg l=true)
  (h:RP P n l [S] p N L w.drew):CW P n (.region id l.toArray true) ⟨N,R,X,G⟩ L w:=CW.VM S p H k h
end
def Wx(Φ:Value->World->Prop):Ending->World->Prop:=λ e w=>∃ v,e= .returned v/\Φ v w
def CallsV(P:Program)(f:FuncId)(args:List Value)(w:World)(Φ:Value->World->Prop):Prop:=Calls P f args.toArray w (Wx Φ)
theorem CallsV.mono{P:Program}{f:FuncId}{args:List Value}{w:World}{Φ Ψ:Value->World->Prop}(h:CallsV P f args w Φ)(k:∀ v W,Φ v W->Ψ v W):CallsV P f args w Ψ:=
 YS h λ _ W ⟨v,he,H⟩=>⟨v,he,k v W H⟩
def Enters(P:Program)(f:FuncId):Prop:=∀ A w,(callFunc f A).run P w= .ok (.enter f A) w
theorem Enters.of{P : Program}{f : FuncId}{fn : Func}(i : P.funcs[f]? = some fn)(H : fn.body.isNone = false)(j : (fn.name == "runtime.NumGoroutine") = false) : Enters P f := fun A w => by
 have d : fn.name ≠ "runtime.NumGoroutine" := by simpa using j
 have g:fn.body≠none:=by intro h;rw[h]at H;cases H
 have p:∀ w,(program).run P w= .ok P w:=λ _=>Y;simp[callFunc,p,i,d,g]
section
variable {P:Program} {n:Nat} {L:aA} {w:World} {K:Value->World->Prop}
def OpE.call{d:Option Nat}{f:FuncId}{X:List Operand}{A:Array TypeId}{ty:TypeId}{pos:String}{af:Array Edge}{g:Option (Nat×Bool)}{vs:List Value}
  (k:Enters P f) (q:pB L X=some vs) (h:CallsV P f vs w K):OpE P n L w ⟨d,.call ⟨.value (.func f),X.toArray,A⟩,ty,pos,af,g⟩ K:=λ a j next Q l=>by
 have he:=j.BZ q;have H:(execOp a.eval ⟨d,.call ⟨.value (.func f),X.toArray,A⟩,ty,pos,af,g⟩).run P w= .ok (.enter f vs.toArray) w:=by
  have o:X.toArray.map a.eval=vs.toArray:=a3b
  have:=k vs.toArray w;simp only[execOp,resolve,o,Act.eval,Deferred.ofValue,bind,Sem.bind,pure,invoke];simpa[Sem.run]using this
 simp only[Oper.wp,H,Oper.upon];refine YS h λ e W ⟨v,i,p⟩=>?_;subst i;exact l v W p
def OpE.kD{d:Option Nat}{t:Nat}{f:FuncId}{cap:Array Value}{X:List Operand}{A:Array TypeId}{ty:TypeId}{pos:String}{af:Array Edge}{g:Option (Nat×Bool)}{vs:List Value}
  (o:Enters P f) (r:look L t=some (.func (.func f) #[] cap)) (u:pB L X=some vs) (h:CallsV P f (vs++cap.toList) w K):OpE P n L w ⟨d,.call ⟨.value (.tmp t),X.toArray,A⟩,ty,pos,af,g⟩ K:=λ a k next Q p=>by
 have he:=k.BZ u;have j:a.eval (.tmp t)= .func (.func f) #[] cap:=k.eval r;have H:(execOp a.eval ⟨d,.call ⟨.value (.tmp t),X.toArray,A⟩,ty,pos,af,g⟩).run P w= .ok (.enter f (vs++cap.toList).toArray) w:=by
  have q:X.toArray.map a.eval=vs.toArray:=a3b
  have:=o (vs++cap.toList).toArray w;have l: #[]++vs.toArray++cap=(vs++cap.toList).toArray:=bw
  simp only[execOp,resolve,q,j,Deferred.ofValue,bind,Sem.bind,pure,invoke,l];simpa only[Sem.run]using this
 simp only[Oper.wp,H,Oper.upon];refine YS h λ e W ⟨v,i,j⟩=>?_;subst i;exact p v W j
end
def aE(P:Program)(n:Nat)(fn:Func)(Φ:Value->World->Prop)(L:aA)(w:World):Prop:=∀ a,Fits n L a->∃ v,(results fn a.tmps).run P w= .ok v w/\Φ v w
def initK:List Value->Nat->aA
 |[],_=>[]
 |v::r,i=>(i,v)::initK r (i+1)
def oq:∀ (l:List Value) (i t:Nat) (v:Value),look (initK l i) t=some v->i<=t/\l[t-i]? =some v
 |[],i,t,v,h=>by simp[initK,look]at h
 |x::r,i,t,v,h=>by
  simp only[initK]at h;rw[jZ]at h;by_cases e:i=t
  ·subst e;simp at h;subst h;exact⟨KM _,bw⟩
  ·simp only[e,Yy]at h;obtain⟨d,H⟩:=oq r (i+1) t v h;refine⟨O,?_⟩;have:t-i=(t-(i+1))+1:=O
   rw[this];simpa using H
def aa{P:Program}{f:FuncId}{fn:Func}{c:Code}{args:List Value}{w:World}{Φ:Value->World->Prop}(r:P.funcs[f]? =some fn)(o:fn.body=some c)
  (u:Nat.ble (I args) fn.ntmps=true) (h:CW P fn.ntmps c ⟨aE P fn.ntmps fn Φ,aE P fn.ntmps fn Φ,[],[]⟩ (initK args 0) w):CallsV P f args w Φ:=by
 refine calls_of_wp r o (a0p (h _ ⟨?_,?_,Y⟩) ?_)
 ·have:=XW u;simp;omega
 ·intro t v d;obtain⟨_,g⟩:=oq args 0 t v d;simp only[a0j]at g;rw[a1s];have j:t<I args:=by
   rcases XI t (I args) with h|h
   ·exact h
   ·simp[XQ h]at g
  simp[j]at g⊢;exact g
 ·intro e A W q;cases e with
  |normal=>obtain⟨i,H,p⟩:=q;obtain⟨v,d,k⟩:=p A H;exact⟨H.defers,v,d,v,Y,k⟩
  |ret=>obtain⟨i,H,p⟩:=q;obtain⟨v,d,k⟩:=p A H;exact⟨H.defers,v,d,v,Y,k⟩
  |exit id=>obtain⟨i,H,p⟩:=q;exact p
  |goto l=>obtain⟨i,H,p⟩:=q;exact p
  |panic c=>exact q.elim
  |outgrown=>exact q.elim
section
variable {P:Program} {n:Nat} {fn:Func} {Φ:Value->World->Prop} {L:aA} {w:World}
def cr(r:fn.results= #[])(h:Φ (.tuple #[]) w):aE P n fn Φ L w:=λ _ _=>⟨_,results_none r _ _ _,h⟩
def JK{t:Nat}{v:Value}(r:fn.results= #[.tmp t])(d:look L t=some v)(h:Φ v w):aE P n fn Φ L w:=λ a H=>
 ⟨_,results_tmp r _ _ _,by have:=H.slot t v d;simpa[Ys,this]using h⟩
def UK{t u:Nat}{v x:Value}(r:fn.results= #[.tmp t,.tmp u])(i:look L t=some v)(j:look L u=some x)(h:Φ (.tuple #[v,x]) w):aE P n fn Φ L w:=λ a H=>
 ⟨_,results_tmp2 r _ _ _,by have d:=H.slot t v i;have g:=H.slot u x j;simpa[Ys,d,g]using h⟩
def js{t u s:Nat}{v x y:Value}(r:fn.results= #[.tmp t,.tmp u,.tmp s])(j:look L t=some v)(k:look L u=some x)(l:look L s=some y)(h:Φ (.tuple #[v,x,y]) w):aE P n fn Φ L w:=λ a H=>
 ⟨_,results_tmp3 r _ _ _,by have d:=H.slot t v j;have g:=H.slot u x k;have i:=H.slot s y l;simpa[Ys,d,g,i]using h⟩
def CW.ax{N:aA->World->Prop}{X G:List (Nat×(aA->World->Prop))}{t:Nat}{v:Value}(r:fn.results= #[.tmp t])(H:look L t=some v)(h:Φ v w):CW P n .ret ⟨N,aE P n fn Φ,X,G⟩ L w:=CW.ret (JK r H h)
def CW.bK{N:aA->World->Prop}{X G:List (Nat×(aA->World->Prop))}{t u:Nat}{v x:Value}(r:fn.results= #[.tmp t,.tmp u])(H:look L t=some v)(d:look L u=some x)(h:Φ (.tuple #[v,x]) w):CW P n .ret ⟨N,aE P n fn Φ,X,G⟩ L w:=CW.ret (UK r H d h)
end
section
variable {P:Program} {n:Nat} {L:aA} {w:World} {d:Option Nat} {ty:TypeId} {pos:String} {af:Array Edge} {g:Option (Nat×Bool)}
theorem Ev.of{o:Oper}{v:Value}(h:∀ ρ:Operand->Value,(∀ {x u},aM L x=some u->ρ x=u)->(execOp ρ o).run P w= .ok (.value v) w):Ev P n L w o v:=λ a H=>h a.eval λ d=>H.eval d
def Ev.move{x:Operand}{v:Value}(H:aM L x=some v):Ev P n L w ⟨d,.move x,ty,pos,af,g⟩ v:=.of λ ρ i=>by
 simp[execOp,i H,go_sem]
def Ev.assign{x:Operand}{v:Value}(H:aM L x=some v):Ev P n L w ⟨d,.assign x,ty,pos,af,g⟩ v:=.of λ ρ i=>by
 simp[execOp,i H,go_sem]
def RP.m{ops:List Oper}{SS:List (World->Prop)}{S:World->Prop}{p:Plan}{K:aA->World->Prop}{i:Nat}{x:Operand}{v:Value}(o:eK n ops i=some ⟨d,.move x,ty,pos,af,g⟩)(j:aM L x=some v)(H:S w)
  (h:RP P n ops (S::SS) p K (putK d v L) w):RP P n ops (S::SS) (.free i p) K L w:=RP.e o (λ _ _=>Ev.move j) H h
def Eo(L:aA):Op->Option Value
 | .move x=>aM L x
 | .assign x=>aM L x
 | .extract x i=>match aM L x with
  |some (.tuple vs)=>vs[i]?
  |_=>none
 | .nilCheck x=>match aM L x with
  |some (.pointer (some p))=>some (.pointer (some p))
  |_=>none
 |_=>none
def Ev.QR{op:Op}{v:Value}(h:Eo L op=some v):Ev P n L w ⟨d,op,ty,pos,af,g⟩ v:=.of λ ρ H=>by
 cases op<;>simp only[Eo]at h<;>first|(cases h;done)|skip
 case move x=>simp[execOp,H h,go_sem]
 case assign x=>simp[execOp,H h,go_sem]
 case extract x i=>
  split at h
  ·rename_i vs hx;simp[execOp,H hx,Instr.extract,h,go_sem]
  ·cases h
 case nilCheck x=>
  split at h
  ·rename_i p hx;cases h;simp[execOp,H hx,go_sem]
  ·cases h
def runN(n:Nat):Nat->List Oper->aA->Option (aA×List Oper)
 |0,ops,L=>some (L,ops)
 |_+1,[],_=>none
 |k+1,⟨d,op,_,_,_,g⟩::ops,L=>cond (g.isNone&&bX n d) (match Eo L op with
  |some v=>runN n k ops (putK d v L)
  |none=>none) none
theorem RT.x{ops r:List Oper}{K:aA->World->Prop}:∀ (k:Nat) {l:List Oper} {L i:aA},runN n k l L=some (i,r)->RT P n ops r K i w->RT P n ops l K L w
 |0,l,L,i,h,hk=>by simp only[runN,YB,XO]at h;obtain⟨rfl,rfl⟩:=h;exact hk
 |k+1,[],L,i,h,hk=>by simp[runN]at h
 |k+1,⟨d,op,ty,pos,af,g⟩::l,L,i,h,hk=>by
  simp only[runN]at h;cases H:(g.isNone&&bX n d)with
  |false=>rw[H]at h;cases h
  |true=>
   rw[H]at h;simp only[a0b]at h;cases j:Eo L op with
   |none=>rw[j]at h;cases h
   |some v=>
    rw[j]at h;exact RT.e (o:=⟨d,op,ty,pos,af,g⟩) H (Ev.QR j) (RT.x k h hk)
def pC:List Nat->aA->Option aA
 |[],_=>some []
 |t::ts,L=>(look L t).bind λ v=>(pC ts L).map λ r=>(t,v)::r
def tU:∀ (ts:List Nat) {L l:aA},pC ts L=some l->Weak l L
 |[],L,l,h=>by simp[pC]at h;subst h;trivial
 |t::ts,L,l,h=>by
  simp only[pC,Zj,Yz]at h;obtain⟨v,d,r,H,rfl⟩:=h;exact⟨d,tU ts H⟩
def CW.trim{c:Code}{Q:Qs}{l:aA}(ts:List Nat)(h:pC ts L=some l)(k:CW P n c Q l w):CW P n c Q L w:=CW.weaken l (tU ts h) k
theorem wk{l L:aA}(h:l.map (λ p=>look L p.1)=l.map (λ p=>some p.2)):Weak l L:=by
 induction l with
 |nil=>trivial
 |cons p r i=>
  obtain⟨t,v⟩:=p;simp only[XZ,a2m]at h;exact⟨h.1,i h.2⟩
def JL:List Nat->aA->aA
 |_,[]=>[]
 |S,(u,v)::r=>cond (S.any (Nat.beq u)) (JL S r) ((u,v)::JL (u::S) r)
def Ep(t:Nat)(L:aA):aA:=JL [t] L
def CW.bM{id:Nat}{l:List Oper}{y:Code}{Q:Qs}{R:aA->World->Prop}{X G:List (Nat×(aA->World->Prop))}(t:Nat)(p:Prop)[dp:Decidable p](h:RT P n l l (λ d W=>W=w/\look d t=some (.bool (decide p))/\Weak (Ep t L) d) L w)(h2:CW P n y Q ((t,.bool (decide p))::Ep t L) w):
  CW P n (.region id l.toArray false) ⟨λ L w=>CW P n y Q L w,R,X,G⟩ L w:=by
 refine CW.sR (λ d W=>W=w/\look d t=some (.bool (decide p))/\Weak (Ep t L) d) (CW.region h) ?_;rintro d W ⟨rfl,H,g⟩;exact CW.weaken _ (show Weak ((t,.bool (decide p))::Ep t L) d from⟨H,g⟩) h2
theorem Ev.gZ{c x y:Operand}{v:Value}(i:aM L c=some (.bool true))(j:aM L x=some v):Ev P n L w ⟨d,.pick c x y,ty,pos,af,g⟩ v:=.of λ ρ H=>by
 simp[execOp,H j,H i,go_sem]
def Ev.QQ{c x y:Operand}{v:Value}(i:aM L c=some (.bool false))(j:aM L y=some v):Ev P n L w ⟨d,.pick c x y,ty,pos,af,g⟩ v:=.of λ ρ H=>by
 simp[execOp,H j,H i,go_sem]
def Ev.QU{c x y:Operand}{v:Value}{b:Bool}(i:aM L c=some (.bool b))(H:b=true)(j:aM L x=some v):Ev P n L w ⟨d,.pick c x y,ty,pos,af,g⟩ v:=Ev.gZ (H▸i) j
def Ev.VN{c x y:Operand}{v:Value}{b:Bool}(i:aM L c=some (.bool b))(H:b=false)(j:aM L y=some v):Ev P n L w ⟨d,.pick c x y,ty,pos,af,g⟩ v:=Ev.QQ (H▸i) j
def Ev.nilCheck{x:Operand}{p:Addr}(H:aM L x=some (.pointer (some p))):Ev P n L w ⟨d,.nilCheck x,ty,pos,af,g⟩ (.pointer (some p)):=.of λ ρ i=>by
 simp[execOp,i H,go_sem]
def Ev.extract{x:Operand}{i:Nat}{vs:Array Value}{v:Value}(j:aM L x=some (.tuple vs))(H:vs[i]? =some v):Ev P n L w ⟨d,.extract x i,ty,pos,af,g⟩ v:=.of λ ρ k=>by
 simp[execOp,k j,Instr.extract,H,go_sem]
def bh(z:Int):Prop:= -9223372036854775808<=z/\z<=9223372036854775807
def wrap_i64{z:Int}(h:bh z):IntKind.i64.wrap z=z:=IntWalk.i64_in _ h
section ints
variable {x y:Operand} {k:IntKind} {a b:Int} {xt yt:TypeId}
def Ev.bin{op:BinOp}{u v r:Value}(k:aM L x=some u)(l:aM L y=some v)(i:eqGuard op xt x y u v=pure ())(j:∀ w:World,(binOp op xt u v).run P w= .ok r w):
  Ev P n L w ⟨d,.binOp op xt x y yt,ty,pos,af,g⟩ r:=.of λ ρ H=>by
 simp only[execOp,H k,H l,i];simp[go_sem,j]
theorem Ev.add(H:aM L x=some (.int .i64 a))(i:aM L y=some (.int .i64 b))(h:bh (a+b)):Ev P n L w ⟨d,.binOp .add xt x y yt,ty,pos,af,g⟩ (.int .i64 (a+b)):=
 .bin H i (Yd ..) λ w=>by simp[go_sem,Op.intArith,wrap_i64 h]
theorem Ev.sub(H:aM L x=some (.int .i64 a))(i:aM L y=some (.int .i64 b))(h:bh (a-b)):Ev P n L w ⟨d,.binOp .sub xt x y yt,ty,pos,af,g⟩ (.int .i64 (a-b)):=
 .bin H i (Yd ..) λ w=>by simp[go_sem,Op.intArith,wrap_i64 h]
def Ev.mul(H:aM L x=some (.int .i64 a))(i:aM L y=some (.int .i64 b))(h:bh (a*b)):Ev P n L w ⟨d,.binOp .mul xt x y yt,ty,pos,af,g⟩ (.int .i64 (a*b)):=
 .bin H i (Yd ..) λ w=>by simp[go_sem,Op.intArith,wrap_i64 h]
theorem Ev.addW(H:aM L x=some (.int k a))(i:aM L y=some (.int k b)):Ev P n L w ⟨d,.binOp .add xt x y yt,ty,pos,af,g⟩ (.int k (k.wrap (a+b))):=
 .bin H i (Yd ..) λ w=>by simp[go_sem,Op.intArith]
def Ev.U2(H:aM L x=some (.int k a))(i:aM L y=some (.int k b)):Ev P n L w ⟨d,.binOp .sub xt x y yt,ty,pos,af,g⟩ (.int k (k.wrap (a-b))):=
 .bin H i (Yd ..) λ w=>by simp[go_sem,Op.intArith]
def Ev.lss(H:aM L x=some (.int k a))(i:aM L y=some (.int k b)):Ev P n L w ⟨d,.binOp .lss xt x y yt,ty,pos,af,g⟩ (.bool (decide (a<b))):=
 .bin H i (Yd ..) λ w=>by simp[go_sem]
def Ev.leq(H:aM L x=some (.int k a))(i:aM L y=some (.int k b)):Ev P n L w ⟨d,.binOp .leq xt x y yt,ty,pos,af,g⟩ (.bool (decide (a<=b))):=
 .bin H i (Yd ..) λ w=>by simp[go_sem]
def Ev.gtr(H:aM L x=some (.int k a))(i:aM L y=some (.int k b)):Ev P n L w ⟨d,.binOp .gtr xt x y yt,ty,pos,af,g⟩ (.bool (decide (b<a))):=
 .bin H i (Yd ..) λ w=>by simp[go_sem]
def Ev.geq(H:aM L x=some (.int k a))(i:aM L y=some (.int k b)):Ev P n L w ⟨d,.binOp .geq xt x y yt,ty,pos,af,g⟩ (.bool (decide (b<=a))):=
 .bin H i (Yd ..) λ w=>by simp[go_sem]
def Ev.eql(H:aM L x=some (.int k a))(i:aM L y=some (.int k b)):Ev P n L w ⟨d,.binOp .eql xt x y yt,ty,pos,af,g⟩ (.bool (decide (a=b))):=
 .bin H i (Yd ..) λ w=>by simp[go_sem];rfl
def Ev.neq(H:aM L x=some (.int k a))(i:aM L y=some (.int k b)):Ev P n L w ⟨d,.binOp .neq xt x y yt,ty,pos,af,g⟩ (.bool (decide (a≠b))):=
 .bin H i (Yd ..) λ w=>by simp[go_sem];rfl
def Ev.quo{a b:Nat}(k:aM L x=some (.int .i64 (a:Int)))(l:aM L y=some (.int .i64 (b:Int)))(r:0<b)(h:bh a):Ev P n L w ⟨d,.binOp .quo xt x y yt,ty,pos,af,g⟩ (.int .i64 ((a/b:Nat):Int)):=
 .bin k l (Yd ..) λ w=>by
  have H:(b:Int)≠0:=O
  have i:((a:Int).tdiv (b:Int))=((a/b:Nat):Int):=by rw[Int.tdiv_eq_ediv_of_nonneg O];simp
  have j:IntKind.i64.wrap ((a/b:Nat):Int)=((a/b:Nat):Int):=by
   have o:=Yn a b;have p:=h.2;generalize a/b=q at*;exact wrap_i64 ⟨O,O⟩
  simp only[binOp,Op.intDiv,H,Yy,i,j,go_sem];simp[go_sem]
def Ev.rem{a b:Nat}(j:aM L x=some (.int k (a:Int)))(l:aM L y=some (.int k (b:Int)))(o:0<b):Ev P n L w ⟨d,.binOp .rem xt x y yt,ty,pos,af,g⟩ (.int k ((a%b:Nat):Int)):=
 .bin j l (Yd ..) λ w=>by
  have H:(b:Int)≠0:=O
  have i:((a:Int).tmod (b:Int))=((a%b:Nat):Int):=by rw[Int.tmod_eq_emod_of_nonneg O];simp
  simp only[binOp,Op.intDiv,H,Yy,i,go_sem];simp[go_sem]
end ints
end
def qK{k:IntKind}(H:k.signed=false){a:Nat}(h:a<2^k.bits):k.wrap (a:Int)=a:=by
 have d:(a:Int)<((2^k.bits:Nat):Int):=O
 simp only[IntKind.wrap,H,Bool.false_and,Yq,Yy];have:((2:Int)^k.bits)=((2^k.bits:Nat):Int):=by norm_cast
 rw[this,<-Int.natCast_emod,XN h]
def RV{P:Program}{k:IntKind}(g:k.signed=false){a b:Nat}(H:a<2^k.bits)(d:b<2^k.bits)(w:World):(Op.intBits .or k a b).run P w= .ok (.int k ((a|||b:Nat):Int)) w:=by
 have:=qK g (Zz H d);simp only[Op.intBits,ZY,BitVec.toNat_or,a0g,XN H,XN d,this];rfl
def Er{P:Program}{k:IntKind}(g:k.signed=false){a b:Nat}(H:a<2^k.bits)(d:b<2^k.bits)(w:World):(Op.intBits .xor k a b).run P w= .ok (.int k ((a^^^b:Nat):Int)) w:=by
 have:=qK g (Nat.xor_lt_two_pow H d);simp only[Op.intBits,ZY,BitVec.toNat_xor,a0g,XN H,XN d,this];rfl
def Oa{P:Program}{k:IntKind}(g:k.signed=false){a b:Nat}(d:a<2^k.bits)(H:b<2^k.bits)(w:World):(Op.intBits .and k a b).run P w= .ok (.int k ((a&&&b:Nat):Int)) w:=by
 have:=qK g (Nat.and_lt_two_pow a H);simp only[Op.intBits,ZY,BitVec.toNat_and,a0g,XN d,XN H,this];rfl
def tV{a:Nat}(h:a<2^63):IntKind.i64.wrap (a:Int)=a:=IntWalk.i64_in _ ⟨O,O⟩
def Ob{P:Program}{a b:Nat}(g:a<2^63)(i:b<2^63)(w:World):(Op.intBits .or .i64 a b).run P w= .ok (.int .i64 ((a|||b:Nat):Int)) w:=by
 have:=tV (Zz g i);have H:a<2^IntKind.i64.bits:=by simp only[IntKind.bits];omega
 have d:b<2^IntKind.i64.bits:=by simp only[IntKind.bits];omega
 simp only[Op.intBits,ZY,BitVec.toNat_or,a0g,XN H,XN d,this];rfl
def Oc{P:Program}{k y:IntKind}{a b:Nat}(H:a<2^k.bits)(w:World):(Op.shift .shr k a y b).run P w= .ok (.int k ((a/2^b:Nat):Int)) w:=by
 have g:((a:Int).fdiv (2^(min b k.bits)))=((a/2^b:Nat):Int):=by
  have e:((2:Int)^(min b k.bits))=((2^(min b k.bits):Nat):Int):=by norm_cast
  rw[e,Int.fdiv_eq_ediv_of_nonneg _ (a19 _),<-Int.natCast_ediv];congr 1;rcases Nat.le_total b k.bits with h|h
  ·rw[Y5 h]
  ·rw[a2f h,a1j H,a1j (ZM H (Y1 bl h))]
 have d:¬ ((b:Int)<0):=O
 simp only[Op.shift,d,Yy,Zi,g];rfl
def Es{P:Program}{k y:IntKind}{a b:Nat}(d:b<=k.bits)(w:World):(Op.shift .shl k a y b).run P w= .ok (.int k (k.wrap ((a*2^b:Nat):Int))) w:=by
 have H:¬ ((b:Int)<0):=O
 have e:((a:Int)*2^b)=((a*2^b:Nat):Int):=by push_cast;rfl
 simp only[Op.shift,H,Yy,Zi,Y5 d,e];rfl
def qL{k:IntKind}(H:k.signed=false)(a:Nat):k.wrap (a:Int)=((a%2^k.bits:Nat):Int):=by
 simp only[IntKind.wrap,H,Bool.false_and,Yq,Yy];have:((2:Int)^k.bits)=((2^k.bits:Nat):Int):=by norm_cast
 rw[this,<-Int.natCast_emod]
section
variable {P:Program} {n:Nat} {L:aA} {w:World} {d:Option Nat} {ty:TypeId} {pos:String} {af:Array Edge} {g:Option (Nat×Bool)} {x y:Operand} {k:IntKind} {xt yt:TypeId}
def Ev.Xe{a b:Nat}(l:aM L x=some (.int k (a:Int)))(o:aM L y=some (.int k (b:Int)))(j:k.signed=false)(H:a<2^k.bits)(i:b<2^k.bits):Ev P n L w ⟨d,.binOp .or xt x y yt,ty,pos,af,g⟩ (.int k ((a|||b:Nat):Int)):=
 .bin l o (Yd ..) λ w=>by rw[binOp_or];exact RV j H i w
def Ev.TX{a b:Nat}(l:aM L x=some (.int k (a:Int)))(o:aM L y=some (.int k (b:Int)))(j:k.signed=false)(H:a<2^k.bits)(i:b<2^k.bits):Ev P n L w ⟨d,.binOp .and xt x y yt,ty,pos,af,g⟩ (.int k ((a&&&b:Nat):Int)):=
 .bin l o (Yd ..) λ w=>by rw[binOp_and];exact Oa j H i w
def Ev.HP{a b:Nat}(l:aM L x=some (.int k (a:Int)))(o:aM L y=some (.int k (b:Int)))(j:k.signed=false)(H:a<2^k.bits)(i:b<2^k.bits):Ev P n L w ⟨d,.binOp .xor xt x y yt,ty,pos,af,g⟩ (.int k ((a^^^b:Nat):Int)):=
 .bin l o (Yd ..) λ w=>by rw[binOp_xor];exact Er j H i w
def Ev.Xi{a b:Nat}(j:aM L x=some (.int .i64 (a:Int)))(k:aM L y=some (.int .i64 (b:Int)))(H:a<2^63)(i:b<2^63):Ev P n L w ⟨d,.binOp .or xt x y yt,ty,pos,af,g⟩ (.int .i64 ((a|||b:Nat):Int)):=
 .bin j k (Yd ..) λ w=>by rw[binOp_or];exact Ob H i w
def Ev.Q0{K:IntKind}{a b:Nat}(i:aM L x=some (.int k (a:Int)))(j:aM L y=some (.int K (b:Int)))(H:a<2^k.bits):Ev P n L w ⟨d,.binOp .shr xt x y yt,ty,pos,af,g⟩ (.int k ((a/2^b:Nat):Int)):=
 .bin i j (Yd ..) λ w=>by rw[binOp_shr];exact Oc H w
def Ev.TP{K:IntKind}{a b:Nat}(j:aM L x=some (.int k (a:Int)))(l:aM L y=some (.int K (b:Int)))(i:k.signed=false)(H:b<=k.bits):Ev P n L w ⟨d,.binOp .shl xt x y yt,ty,pos,af,g⟩ (.int k ((a*2^b%2^k.bits:Nat):Int)):=
 .bin j l (Yd ..) λ w=>by rw[binOp_shl,Es H,qL i]
def Ev.Mq{k:IntKind}{a b:Nat}(i:aM L x=some (.int .i64 (a:Int)))(j:aM L y=some (.int k (b:Int)))(H:b<=64)(r:a*2^b<2^63):Ev P n L w ⟨d,.binOp .shl xt x y yt,ty,pos,af,g⟩ (.int .i64 ((a*2^b:Nat):Int)):=
 .bin i j (Yd ..) λ w=>by rw[binOp_shl,Es (by simpa[IntKind.bits]using H),tV r]
def Ev.PX{a b:Nat}(i:aM L x=some (.int k (a:Int)))(j:aM L y=some (.int k (b:Int)))(H:k.signed=false):Ev P n L w ⟨d,.binOp .add xt x y yt,ty,pos,af,g⟩ (.int k (((a+b)%2^k.bits:Nat):Int)):=by
 have:=Ev.addW (P:=P) (n:=n) (w:=w) (d:=d) (xt:=xt) (yt:=yt) (ty:=ty) (pos:=pos) (af:=af) (g:=g) i j;rwa[<-Int.natCast_add,qL H]at this
def Ev.Q3{a b:Nat}(j:aM L x=some (.int k (a:Int)))(l:aM L y=some (.int k (b:Int)))(i:k.signed=false)(H:b<=a)(o:a<2^k.bits):Ev P n L w ⟨d,.binOp .sub xt x y yt,ty,pos,af,g⟩ (.int k ((a-b:Nat):Int)):=by
 have:=Ev.U2 (P:=P) (n:=n) (w:=w) (d:=d) (xt:=xt) (yt:=yt) (ty:=ty) (pos:=pos) (af:=af) (g:=g) j l;rwa[<-Int.natCast_sub H,qK i O]at this
def Ev.cK{b:Bool}(H:aM L x=some (.bool b)):Ev P n L w ⟨d,.unOp .not xt x,ty,pos,af,g⟩ (.bool (!b)):=.of λ ρ i=>by
 simp[execOp,i H,Op.unary,go_sem]
def xg{s t:TypeId}{K:IntKind}{a:Int}(g:(P.underlying s).isSome=true)(i:P.underlying t=some (.int K))(w:World):(convert s t (.int k a)).run P w= .ok (.int K (K.wrap a)) w:=by
 obtain⟨d,H⟩:=Option.isSome_iff_exists.mp g;simp[convert,Xy H,Xy i,Conv.intToInt]
def Ev.FL{s t:TypeId}{K:IntKind}{a:Int}(i:(P.underlying s).isSome=true)(j:P.underlying t=some (.int K))(l:aM L x=some (.int k a))(H:K.wrap a=a):Ev P n L w ⟨d,.convert s t x,ty,pos,af,g⟩ (.int K a):=.of λ ρ o=>by
 simp only[execOp,o l,XC,xg i j,H,Xw,XG]
def Ev.ja{s t:TypeId}{K:IntKind}{a:Nat}(i:(P.underlying s).isSome=true)(j:P.underlying t=some (.int K))(l:aM L x=some (.int k (a:Int)))(H:K.signed=false):Ev P n L w ⟨d,.convert s t x,ty,pos,af,g⟩ (.int K ((a%2^K.bits:Nat):Int)):=.of λ ρ o=>by
 simp only[execOp,o l,XC,xg i j,qL H,Xw,XG]
def Ev.Me{a b:Nat}(H:aM L x=some (.int .i64 (a:Int)))(i:aM L y=some (.int .i64 (b:Int)))(h:a+b<=9223372036854775807):Ev P n L w ⟨d,.binOp .add xt x y yt,ty,pos,af,g⟩ (.int .i64 ((a+b:Nat):Int)):=by
 have:=Ev.add (P:=P) (n:=n) (w:=w) (d:=d) (xt:=xt) (yt:=yt) (ty:=ty) (pos:=pos) (af:=af) (g:=g) H i ⟨O,O⟩;rwa[<-Int.natCast_add]at this
def Ev.PQ{a b:Nat}(i:aM L x=some (.int .i64 (a:Int)))(j:aM L y=some (.int .i64 (b:Int)))(H:b<=a)(h:a<=9223372036854775807):Ev P n L w ⟨d,.binOp .sub xt x y yt,ty,pos,af,g⟩ (.int .i64 ((a-b:Nat):Int)):=by
 have:=Ev.sub (P:=P) (n:=n) (w:=w) (d:=d) (xt:=xt) (yt:=yt) (ty:=ty) (pos:=pos) (af:=af) (g:=g) i j ⟨O,O⟩;rwa[<-Int.natCast_sub H]at this
def Ev.TU{a b:Nat}(H:aM L x=some (.int .i64 (a:Int)))(i:aM L y=some (.int .i64 (b:Int)))(h:a*b<=9223372036854775807):Ev P n L w ⟨d,.binOp .mul xt x y yt,ty,pos,af,g⟩ (.int .i64 ((a*b:Nat):Int)):=by
 have:=Ev.mul (P:=P) (n:=n) (w:=w) (d:=d) (xt:=xt) (yt:=yt) (ty:=ty) (pos:=pos) (af:=af) (g:=g) H i (by rw[<-a2n];exact⟨O,O⟩);rwa[<-a2n]at this
def Ev.WU{a b:Nat}(H:aM L x=some (.int k (a:Int)))(i:aM L y=some (.int k (b:Int))):Ev P n L w ⟨d,.binOp .lss xt x y yt,ty,pos,af,g⟩ (.bool (decide (a<b))):=by
 have:=Ev.lss (P:=P) (n:=n) (w:=w) (d:=d) (xt:=xt) (yt:=yt) (ty:=ty) (pos:=pos) (af:=af) (g:=g) H i;simpa only[Int.ofNat_lt]using this
def Ev.WW{a b:Nat}(H:aM L x=some (.int k (a:Int)))(i:aM L y=some (.int k (b:Int))):Ev P n L w ⟨d,.binOp .leq xt x y yt,ty,pos,af,g⟩ (.bool (decide (a<=b))):=by
 have:=Ev.leq (P:=P) (n:=n) (w:=w) (d:=d) (xt:=xt) (yt:=yt) (ty:=ty) (pos:=pos) (af:=af) (g:=g) H i;simpa only[Int.ofNat_le]using this
def Ev.WK{a b:Nat}(H:aM L x=some (.int k (a:Int)))(i:aM L y=some (.int k (b:Int))):Ev P n L w ⟨d,.binOp .gtr xt x y yt,ty,pos,af,g⟩ (.bool (decide (b<a))):=by
 have:=Ev.gtr (P:=P) (n:=n) (w:=w) (d:=d) (xt:=xt) (yt:=yt) (ty:=ty) (pos:=pos) (af:=af) (g:=g) H i;simpa only[Int.ofNat_lt]using this
def Ev.W6{a b:Nat}(H:aM L x=some (.int k (a:Int)))(i:aM L y=some (.int k (b:Int))):Ev P n L w ⟨d,.binOp .geq xt x y yt,ty,pos,af,g⟩ (.bool (decide (b<=a))):=by
 have:=Ev.geq (P:=P) (n:=n) (w:=w) (d:=d) (xt:=xt) (yt:=yt) (ty:=ty) (pos:=pos) (af:=af) (g:=g) H i;simpa only[Int.ofNat_le]using this
def Ev.W1{a b:Nat}(H:aM L x=some (.int k (a:Int)))(i:aM L y=some (.int k (b:Int))):Ev P n L w ⟨d,.binOp .eql xt x y yt,ty,pos,af,g⟩ (.bool (decide (a=b))):=by
 have:=Ev.eql (P:=P) (n:=n) (w:=w) (d:=d) (xt:=xt) (yt:=yt) (ty:=ty) (pos:=pos) (af:=af) (g:=g) H i;simpa only[Int.ofNat_inj]using this
def Ev.VQ{a b:Nat}(H:aM L x=some (.int k (a:Int)))(i:aM L y=some (.int k (b:Int))):Ev P n L w ⟨d,.binOp .neq xt x y yt,ty,pos,af,g⟩ (.bool (decide (a≠b))):=by
 have:=Ev.neq (P:=P) (n:=n) (w:=w) (d:=d) (xt:=xt) (yt:=yt) (ty:=ty) (pos:=pos) (af:=af) (g:=g) H i;simpa only[ne_eq,Int.ofNat_inj]using this
def Ev.oG{p:Prop}{dp:Decidable p}(H:aM L x=some (.bool (@decide p dp))):Ev P n L w ⟨d,.unOp .not xt x,ty,pos,af,g⟩ (.bool (decide (¬ p))):=by
 have:=Ev.cK (P:=P) (n:=n) (w:=w) (d:=d) (xt:=xt) (ty:=ty) (pos:=pos) (af:=af) (g:=g) H;simpa only[decide_not]using this
end
def Rd(w:World)(v:Value)(n:Nat)(d:List Value):Prop:=
 ∃ a p,v= .slice a n p/\n<=p/\∀ j u,d[j]? =some u->∃ b o,a=some ⟨b,o,none⟩/\w.cell? ⟨b,o+j,none⟩=some u
def Ext(w w':World):Prop:=∀ a u,w.cell? a=some u->w'.cell? a=some u
theorem Ext.qx{w w':World}(h:Below w.heap.size w w'):Ext w w':=λ a _ u=>(h.cell (World.block_lt_of_cell? w a u)).trans u
theorem Rd.E{w w':World}{v:Value}{n:Nat}{d:List Value}(h:Rd w v n d)(he:Ext w w'):Rd w' v n d:=by
 obtain⟨a,p,l,i,g⟩:=h;exact⟨a,p,l,i,λ j u k=>let ⟨b,o,H,hw⟩:=g j u k;⟨b,o,H,he _ _ hw⟩⟩
theorem Rd.nil(w:World):Rd w (.slice none 0 0) 0 []:=⟨none,0,Y,KM _,λ j u h=>by simp at h⟩
def bY:Value->Nat->Value
 | .slice (some a) _ _,c=>.pointer (some (a.add c))
 |_,_=>undef
def gL(size:Nat):Value->Nat->Nat->Value
 | .slice a _ cap,l,h=>.slice (if cap=l then a else a.map (·.add (l*size))) (h-l) (cap-l)
 |_,_,_=>undef
theorem Rd.sub{w:World}{v:Value}{n:Nat}{d:List Value}(r:Rd w v n d){size l h:Nat}(A:l<=h)(y:h<=n):
  Rd w (gL size v l h) (h-l) (ww (l*size) (J (h*size) d)):=by
 obtain⟨a,p,rfl,D,k⟩:=r;refine⟨_,_,Y,O,λ j u H=>?_⟩;have q:j<I (ww (l*size) (J (h*size) d)):=by
  rcases XI j _ with t|hge
  ·exact t
  ·rw[XQ hge]at H;cases H
 have t:l<h:=by
  rcases XI l h with g|g
  ·exact g
  ·have:l=h:=O
   subst this;simp at q
 rw[YI,Yu]at H;split at H
 ·obtain⟨b,o,i,hw⟩:=k _ u H;subst i;rw[Xn O];simp only[Z6,Yg];exact⟨b,_,Y,by rw[YG];exact hw⟩
 ·cases H
structure Chunk where
 foot:List Nat
 holds:World->Prop
 stable:∀ w w',(∀ k∈foot,w'.heap[k]? =w.heap[k]?)->holds w->holds w'
structure Sat(w0:World)(cs:List Chunk)(w:World):Prop where
 old:Below w0.heap.size w0 w
 holds:∀ c∈cs,c.holds w/\∀ k∈c.foot,w0.heap.size<=k/\k<w.heap.size
 apart:cs.Pairwise λ c d=>∀ k∈c.foot,k∉d.foot
structure Chg(S:List Nat)(w w':World):Prop where
 os:w'.os=w.os
 tape:w'.tape=w.tape
 output:w'.output=w.output
 size:w.heap.size<=w'.heap.size
 block:∀ k,k<w.heap.size->k∉S->w'.heap[k]? =w.heap[k]?
theorem Chg.qx{w w':World}(h:Below w.heap.size w w'):Chg [] w w':=⟨h.os,h.tape,h.output,h.size,λ k H _=>h.block k H⟩
theorem Chg.alloc(w:World)(o:Obj):Chg [] w (w.alloc o):=.qx ((Below.refl _ _).alloc (KM _) o)
def Chg.setCell(w:World)(a:Addr)(v:Value):Chg [a.block] w (w.setCell a v):=
 ⟨Y,Y,Y,bw,λ k d H=>Below.heap_setCell w a v k te⟩
def Sat.start(w:World):Sat w [] w:=⟨Below.refl _ _,bw,bw⟩
theorem Sat.E{w0 w:World}{cs:List Chunk}(h:Sat w0 cs w):Ext w0 w:=.qx h.old
def Sat.drew{w0 w:World}{cs:List Chunk}(h:Sat w0 cs w):Sat w0 cs w.drew:=
 ⟨h.old.drew,λ c H=>⟨c.stable w _ (λ _ _=>Y) (h.holds c H).1,(h.holds c H).2⟩,h.apart⟩
theorem Sat.sub{w0 w:World}{cs ds:List Chunk}(h:Sat w0 cs w)(p:ds.Sublist cs):Sat w0 ds w:=
 ⟨h.old,λ c H=>h.holds c (p.subset H),h.apart.sublist p⟩
def fj:List Nat->Nat->List Chunk->Option (List Chunk)
 |[],_,_=>some []
 |_::_,_,[]=>none
 |i::r,k,c::cs=>cond (Nat.beq i k) (match fj r (k+1) cs with
  |some l=>some (c::l)
  |none=>none) (fj (i::r) (k+1) cs)
def mT:∀ (cs:List Chunk) (d:List Nat) (k:Nat) (l:List Chunk),fj d k cs=some l->l.Sublist cs
 |cs,[],k,l,h=>by simp only[fj,YB]at h;subst h;exact nil_sublist _
 |[],i::r,k,l,h=>by simp[fj]at h
 |c::cs,i::r,k,l,h=>by
  simp only[fj]at h;cases H:Nat.beq i k with
  |true=>
   rw[H]at h;simp only[a0b]at h;split at h
   ·rename_i l' hl;cases h;exact(mT cs r (k+1) l' hl).cons_cons c
   ·cases h
  |false=>rw[H]at h;exact(mT cs (i::r) (k+1) l h).cons c
def Sat.pick{w0 w:World}{cs d:List Chunk}(h:Sat w0 cs w)(i:List Nat)(p:fj i 0 cs=some d):Sat w0 d w:=h.sub (mT _ _ _ _ p)
def tW:List Chunk->Option (List Chunk)
 |[]=>some []
 |c::cs=>match tW cs with
  |some l=>some (c::l)
  |none=>none
def iZ:∀ (cs l:List Chunk),tW cs=some l->l=cs
 |[],l,h=>by simp only[tW,YB]at h;exact h.symm
 |c::cs,l,h=>by
  simp only[tW]at h;split at h
  ·rename_i l' hl;cases h;rw[iZ cs l' hl]
  ·cases h
def Sat.nf{w0 w:World}{cs d:List Chunk}(h:Sat w0 cs w)(p:tW cs=some d):Sat w0 d w:=by rw[iZ _ _ p];exact h
def CW.gB{P:Program}{n:Nat}{N R:aA->World->Prop}{X G:List (Nat×(aA->World->Prop))}{L:aA}{w w0 q:World}{cs d g:List Chunk}{id:Nat}{l:List Oper}(o ks:List Nat)(j:Sat w0 cs q)(i:fj o 0 cs=some d)(h2:fj ks 0 d=some g)(b:Nat)(p:Plan)(H:P.follows .mixedOrders=true)(k:p.vC l b=true)
  (h:RP P n l [λ W=>Sat w0 d W,λ W=>Sat w0 g W] p N L w.drew):CW P n (.region id l.toArray true) ⟨N,R,X,G⟩ L w:=CW.FA (λ W=>Sat w0 d W) (λ W=>Sat w0 g W) b p (λ W h=>h.pick ks h2) H k h
theorem Sat.get{w0 w:World}{cs:List Chunk}(h:Sat w0 cs w){i:Nat}{c:Chunk}(H:cs[i]? =some c):c.holds w:=(h.holds c (Xs H)).1
theorem Sat.lo{w0 w:World}{cs:List Chunk}(h:Sat w0 cs w){i:Nat}{c:Chunk}(H:cs[i]? =some c){k:Nat}(d:k∈c.foot):w0.heap.size<=k/\k<w.heap.size:=(h.holds c (Xs H)).2 k d
def Sat.zo{w0 w:World}{cs:List Chunk}(h:Sat w0 cs w){i j:Nat}{c d:Chunk}(r:cs[i]? =some c)(hj:cs[j]? =some d)(o:i≠j){k:Nat}(p:k∈c.foot):k∉d.foot:=by
 have q:=YJ.1 h.apart;obtain⟨l,rfl⟩:=KC.1 r;obtain⟨H,rfl⟩:=KC.1 hj;rcases Nat.lt_or_gt_of_ne o with t|hgt
 ·exact q i j l H t k p
 ·exact λ g=>q j i H l hgt k g p
def Sat.set{w0 w w':World}{cs:List Chunk}(h:Sat w0 cs w)(i:Nat){c r:Chunk}(t:cs[i]? =some c)(hw:Chg c.foot w w')(Q:r.holds w')
  (N:∀ k∈r.foot,k∈c.foot\/(w.heap.size<=k/\k<w'.heap.size)):Sat w0 (cs.set i r) w':=by
 obtain⟨A,R⟩:=KC.1 t;have q:∀ k∈c.foot,w0.heap.size<=k/\k<w.heap.size:=λ k H=>h.lo t H;refine⟨?_,?_,?_⟩
 ·refine h.old.trans ⟨hw.os,hw.tape,hw.output,hw.size,λ k H=>hw.block k (ZM H h.old.size) λ D=>?_⟩;have:=(q _ D).1;omega
 ·intro e he;rw[Zh]at he;obtain⟨j,g⟩:=he;rw[YQ]at g;by_cases p:i=j
  ·subst p;simp[A]at g;subst g;refine⟨Q,λ k H=>?_⟩;have:=hw.size;have:=h.old.size;rcases N k H with o|o
   ·have:=q _ o;omega
   ·omega
  ·rw[Xn p]at g;have D:=Xs g;obtain⟨o,K⟩:=h.holds e D;refine⟨e.stable w w' (λ k H=>hw.block k (K k H).2 (h.zo g t (Ne.symm p) H)) o,λ k H=>?_⟩;have:=K k H;have:=hw.size;omega
 ·rw[YJ];intro a b u y P k H d;simp only[Xt]at u y;rw[getElem_set]at H d;have l:∀ j (g:j<I cs),j≠i->∀ k,k∈r.foot->k∉cs[j].foot:=λ j g E k H d=>by
   rcases N k H with o|o
   ·exact h.zo t (py g) (Ne.symm E) o d
   ·have:=h.lo (py g) d;omega
  split at H<;>split at d
  ·omega
  ·exact l b y O k H d
  ·exact l a u O k d H
  ·exact h.zo (py u) (py y) O H d
def Sat.ay{w0 w w':World}{cs ds:List Chunk}(h:Sat w0 cs w)(k:Sat w ds w'):Sat w0 (cs++ds) w':=by
 refine⟨h.old.trans (k.old.mono h.old.size),?_,?_⟩
 ·intro c H;rcases XE.1 H with H|H
  ·obtain⟨l,i⟩:=h.holds c H;refine⟨c.stable w w' (λ j g=>k.old.block j (i j g).2) l,λ j g=>?_⟩;have:=i j g;have:=k.old.size;omega
  ·obtain⟨l,i⟩:=k.holds c H;refine⟨l,λ j g=>?_⟩;have:=i j g;have:=h.old.size;omega
 ·rw[YU];refine⟨h.apart,k.apart,λ c H d hd j g o=>?_⟩;have:=(h.holds c H).2 j g;have:=(k.holds d hd).2 j o;omega
theorem Sat.add{w0 w w':World}{cs:List Chunk}{c:Chunk}(h:Sat w0 cs w)(hw:Chg [] w w')(H:c.holds w')(d:∀ k∈c.foot,w.heap.size<=k/\k<w'.heap.size):Sat w0 (cs++[c]) w':=
 h.ay ⟨⟨hw.os,hw.tape,hw.output,hw.size,λ k g=>hw.block k g bw⟩,by simpa using⟨H,d⟩,bw⟩
theorem Sat.perm{w0 w:World}{cs ds:List Chunk}(h:Sat w0 cs w)(p:cs.Perm ds):Sat w0 ds w:=
 ⟨h.old,λ c d=>h.holds c (p.mem_iff.2 d),p.pairwise h.apart (λ{_ _} h k g H=>h k H g)⟩
theorem Sat.sR{w0 w:World}{A cs ds:List Chunk}(h:Sat w0 ((A++cs)++ds) w):Sat w0 ((A++ds)++cs) w:=
 h.perm (by rw[KW,KW];exact(ZP).append_left A)
def sB:Chunk:=⟨[],λ _=>True,λ _ _ _ h=>h⟩
def tX{α:Type}(l:List α)(d:α):(List.range (I l)).map (λ i=>l.getD i d)=l:=by
 apply a01
 ·simp
 ·intro i H g;simp at H;simp[H]
def Sat.order{w0 w:World}{A cs:List Chunk}(d:List Nat)(p:d.isPerm (List.range (I d))=true)(h:Sat w0 (A++cs) w)(l:I A=I d:=by rfl):Sat w0 (d.map (λ i=>A.getD i sB)++cs) w:=by
 rw[<-l]at p;refine h.perm (a1l cs ?_);have:=(isPerm_iff.1 p).map (λ i=>A.getD i sB);rw[tX]at this;exact this.symm
def Sat.tail{w0 w:World}{A:List Chunk}(h:Sat w0 A w):Sat w0 (A++[]) w:=by rw[Yr];exact h
def Sat.aH{w0 w:World}{A:List Chunk}(h:Sat w0 (A++[]) w):Sat w0 A w:=by rw[Yr]at h;exact h
theorem Sat.cut{w0 w:World}{A cs:List Chunk}(k:Nat)(h:Sat w0 (A++cs) w):Sat w0 (J k A++(ww k A++cs)) w:=by rw[<-KW,XV];exact h
def Sat.join{w0 w:World}{A B cs:List Chunk}(h:Sat w0 (A++(B++cs)) w):Sat w0 ((A++B)++cs) w:=by rw[KW];exact h
def ai(g:Nat)(T:TypeId)(d:List Value):Chunk where
 foot:=[g]
 holds w:=w.heap[g]? =some (.cells d.toArray T (0,0))
 stable w w' h hc:=by rw[h g bw];exact hc
def cell_of_heap{w:World}{g:Nat}{T:TypeId}{d:Array Value}{r:Nat×Nat}(h:w.heap[g]? =some (.cells d T r))(j:Nat):w.cell? ⟨g,j,none⟩=d[j]? :=by
 simp[World.cell?,h]
def frozen_of_heap{w:World}{g:Nat}{T:TypeId}{d:Array Value}(h:w.heap[g]? =some (.cells d T (0,0)))(j:Nat):w.frozen? ⟨g,j,none⟩=false:=by
 simp[World.frozen?,h]
def Sat.cell{w0 w:World}{cs:List Chunk}(h:Sat w0 cs w){i g T j:Nat}{d:List Value}{u:Value}(H:cs[i]? =some (ai g T d))(k:d[j]? =some u):w.cell? ⟨g,j,none⟩=some u:=by
 have:=h.get H;rw[cell_of_heap this];simpa using k
def heap_setCell{w:World}{g j:Nat}{T:TypeId}{d:Array Value}{r:Nat×Nat}{u:Value}(h:w.heap[g]? =some (.cells d T r)):(w.setCell ⟨g,j,none⟩ u).heap[g]? =some (.cells (d.setIfInBounds j u) T r):=by
 simp[World.setCell,Z9,h]
def ck:Value->List Nat
 | .slice (some a) _ _=>[a.block]
 |_=>[]
def rI(v:Value)(E size n:Nat)(d:List Value):Chunk where
 foot:=ck v
 holds w:=w.ownsRow 0 E size v n d
 stable w w' h hc:=by
  refine⟨hc.1,?_⟩;rcases hc.2 with H|⟨g,cap,cur,rfl,hg,hh,r⟩
  ·exact .inl H
  ·exact .inr ⟨g,cap,cur,Y,hg,by rw[h g (by simp[ck])];exact hh,r⟩
def Rd.ry{w:World}{i E size n:Nat}{v:Value}{d:List Value}(h:w.ownsRow i E size v n d):Rd w v n d:=by
 obtain⟨q,⟨rfl,rfl⟩|⟨g,p,r,rfl,_,o,k,_,l,t⟩⟩:=h
 ·have:d=[]:=XM a0T;subst this;exact Rd.nil w
 ·refine⟨_,_,Y,k,λ j u H=>⟨g,0,Y,?_⟩⟩;rw[XU,cell_of_heap o];rw[<-t,Yu]at H;split at H
  ·simpa using H
  ·cases H
def Sat.rd{w0 w:World}{cs:List Chunk}(h:Sat w0 cs w){i E size n:Nat}{v:Value}{d:List Value}(H:cs[i]? =some (rI v E size n d)):Rd w v n d:=.ry (h.get H)
def Sat.TW{w0 w:World}{cs:List Chunk}(h:Sat w0 cs w)(E size:Nat):Sat w0 (cs++[rI (.slice none 0 0) E size 0 []]) w:=
 h.add ⟨Y,Y,Y,KM _,λ _ _ _=>Y⟩ (World.ownsRow_nil ..) (by simp[rI,ck])
def Sat.newObj{w0 w:World}{cs:List Chunk}(h:Sat w0 cs w)(T:TypeId)(d:List Value):Sat w0 (cs++[ai w.heap.size T d]) (w.alloc (.cells d.toArray T)):=
 h.add (.alloc _ _) (Zu w _) (by simp[ai])
def Sat.vG{w0 w:World}{cs:List Chunk}(h:Sat w0 cs w)(E size n cap:Nat)(r:List Value)(d:cap<=maxLen)(H:n<=cap)(l:I r=cap*size):
  Sat w0 (cs++[rI (.slice (some ⟨w.heap.size,0,none⟩) n cap) E size n (J (n*size) r)]) (w.alloc (.cells r.toArray E)):=
 h.add (.alloc _ _) ⟨by rw[Xo,l,Y5 (YH _ H)],.inr ⟨_,cap,_,Y,KD _,Zu w _,H,d,a2Q,bw⟩⟩ (by simp[rI,ck])
def Sat.setObj{w0 w:World}{cs:List Chunk}(h:Sat w0 cs w){i g T j:Nat}{d:List Value}{u:Value}(H:cs[i]? =some (ai g T d)):Sat w0 (cs.set i (ai g T (d.set j u))) (w.setCell ⟨g,j,none⟩ u):=
 h.set i H (Chg.setCell w ⟨g,j,none⟩ u) (by have:=heap_setCell (j:=j) (u:=u) (h.get H);simpa[ai]using this) (λ _ k=>.inl k)
def Sat.W5{w0 w:World}{cs:List Chunk}(h:Sat w0 cs w){i g E size n cap j:Nat}{d:List Value}{u:Value}(H:cs[i]? =some (rI (.slice (some ⟨g,0,none⟩) n cap) E size n d)):
  Sat w0 (cs.set i (rI (.slice (some ⟨g,0,none⟩) n cap) E size n (d.set j u))) (w.setCell ⟨g,j,none⟩ u):=
 h.set i H (Chg.setCell w ⟨g,j,none⟩ u) ((h.get H).stored j u).1 (λ _ k=>.inl k)
structure SlTy(P:Program)(t e s:Nat)(z:Value)(b:Nat):Prop where
 und:P.underlying t=some (.slice e)
 info:∃ i,P.info? e=some i/\i.zero=some z/\i.size=s/\i.bytes=b
 zs:z.cells.size=s
 pos:0<s
theorem SlTy.of{P:Program}{t e s:Nat}{z:Value}{b:Nat}(h:P.underlying t=some (.slice e))(k:(P.info? e).map (λ i=>(i.zero,i.size,i.bytes))=some (some z,s,b))(l:z.cells.size=s)(p:0<s):SlTy P t e s z b:=
 ⟨h,by obtain⟨i,H,d,g,j⟩:=info_parts k;exact⟨i,H,d,g,j⟩,l,p⟩
def cX(P:Program)(T:TypeId):Bool:=
 match P.underlying T with
 |some (.struct _)|some (.array ..)|none=>false
 |_=>true
def dF(P:Program)(T:TypeId)(s:Nat):Bool:=
 (match P.underlying T with
 |some (.struct _)|some (.array ..)=>true
 |_=>false)&&(P.info? T).map (·.size)==some s
def kT(P:Program)(T:TypeId)(f off:Nat):Bool:=
 match P.underlying T with
 |some (.struct fs)=>match fs[f]? with
  |some d=>d.offset==off&&(match (P.info? d.type).map (·.size)with|some s=>s !=0|none=>false)
  |none=>false
 |_=>false
theorem Rd.ae{w:World}{v:Value}{n:Nat}{d:List Value}(h:Rd w v n d):v.oneCell'=true:=by
 obtain⟨a,p,rfl,_⟩:=h;rfl
section
variable {P:Program} {n:Nat} {L:aA} {w:World} {d:Option Nat} {ty:TypeId} {pos:String} {af:Array Edge} {g:Option (Nat×Bool)}
def Ev.VR{x:Operand}{t:TypeId}{v:Value}{m:Nat}{i:List Value}{e:TypeId}(u:P.underlying t=some (.slice e))(H:aM L x=some v)(h:Rd w v m i):
  Ev P n L w ⟨d,.call ⟨.builtin .len,#[x],#[t]⟩,ty,pos,af,g⟩ (.int .i64 (m:Int)):=.of λ ρ j=>by
 obtain⟨a,p,rfl,_⟩:=h;simp[execOp,j H,resolve,invoke,Builtin.len_,Xy u,go_sem,goInt]
def Ev.br{x:Operand}{t:TypeId}{s:ByteArray}(u:P.underlying t=some .string)(H:aM L x=some (.string s)):
  Ev P n L w ⟨d,.call ⟨.builtin .len,#[x],#[t]⟩,ty,pos,af,g⟩ (.int .i64 (s.size:Int)):=.of λ ρ i=>by
 simp[execOp,i H,resolve,invoke,Builtin.len_,Xy u,go_sem,goInt]
def Ev.Uc{x y:Operand}{a b:Int}{k:IntKind}{ts:Array TypeId}(i:aM L x=some (.int k a))(j:aM L y=some (.int k b)):
  Ev P n L w ⟨d,.call ⟨.builtin .min,#[x,y],ts⟩,ty,pos,af,g⟩ (.int k (min a b)):=.of λ ρ H=>by
 simp only[execOp,H i,H j,resolve,invoke,go_sem];simp[Builtin.min_,Builtin.min2,H i,H j,go_sem];omega
def Ev.Ub{x y:Operand}{a b:Int}{k:IntKind}{ts:Array TypeId}(i:aM L x=some (.int k a))(j:aM L y=some (.int k b)):
  Ev P n L w ⟨d,.call ⟨.builtin .max,#[x,y],ts⟩,ty,pos,af,g⟩ (.int k (max a b)):=.of λ ρ H=>by
 simp[execOp,H i,H j,resolve,invoke,Builtin.max_,Builtin.max2,go_sem];omega
def Ev.C0{x y:Operand}{a b:Nat}{k:IntKind}{ts:Array TypeId}(H:aM L x=some (.int k (a:Int)))(i:aM L y=some (.int k (b:Int))):
  Ev P n L w ⟨d,.call ⟨.builtin .min,#[x,y],ts⟩,ty,pos,af,g⟩ (.int k ((min a b:Nat):Int)):=by
 have:=Ev.Uc (P:=P) (n:=n) (w:=w) (d:=d) (ts:=ts) (ty:=ty) (pos:=pos) (af:=af) (g:=g) H i;rwa[show min (a:Int) (b:Int)=((min a b:Nat):Int) by omega]at this
def Ev.HQ{x y:Operand}{a b:Nat}{k:IntKind}{ts:Array TypeId}(H:aM L x=some (.int k (a:Int)))(i:aM L y=some (.int k (b:Int))):
  Ev P n L w ⟨d,.call ⟨.builtin .max,#[x,y],ts⟩,ty,pos,af,g⟩ (.int k ((max a b:Nat):Int)):=by
 have:=Ev.Ub (P:=P) (n:=n) (w:=w) (d:=d) (ts:=ts) (ty:=ty) (pos:=pos) (af:=af) (g:=g) H i;rwa[show max (a:Int) (b:Int)=((max a b:Nat):Int) by omega]at this
def Ev.indexAddr{x i:Operand}{t e s b:Nat}{z v:Value}{m j:Nat}{l:List Value}{k:IntKind}(y:SlTy P t e s z b)(N:aM L x=some v)(E:aM L i=some (.int k (j:Int)))(h:Rd w v m l)
  (H:I l=m*s) (hj:j<m):Ev P n L w ⟨d,.indexAddr t x i,ty,pos,af,g⟩ (bY v (j*s)):=.of λ ρ q=>by
 obtain⟨a,r,rfl,_,D⟩:=h;obtain⟨Q,u,T,A,W⟩:=y.info;have p:j*s<I l:=by rw[H];exact Zm hj y.pos
 obtain⟨R,o,rfl,_⟩:=D (j*s) _ (py p);have K:(0:Int)<=(j:Int)/\(j:Int)<(m:Int):=O
 simp only[execOp,q N,q E,Instr.indexAt,asIntOf];simp[Xy y.und,sizeOf,typeInfo,u,A,K,bY,go_sem,hj]
def Ev.Mi{x:Operand}{T:TypeId}{v u:Value}{m c:Nat}{i:List Value}(j:cX P T=true)(t:aM L x=some (bY v c))(h:Rd w v m i)(r:i[c]? =some u):
  Ev P n L w ⟨d,.load T x,ty,pos,af,g⟩ u:=.of λ ρ y=>by
 obtain⟨a,p,rfl,_,q⟩:=h;obtain⟨l,o,rfl,hw⟩:=q c u r;have k:ρ x= .pointer (some ⟨l,o+c,none⟩):=by rw[y t];simp[bY,Yg]
 unfold cX at j;cases H:P.underlying T with
 |none=>simp[H]at j
 |some D=>cases D<;>simp[H]at j<;>simp[execOp,k,Instr.loadAt,loadVar,isAgg,Xy H,hw,go_sem]
def Ev.load{x:Operand}{T:TypeId}{a:Addr}{u:Value}(i:cX P T=true)(k:aM L x=some (.pointer (some a)))(j:w.cell? a=some u):
  Ev P n L w ⟨d,.load T x,ty,pos,af,g⟩ u:=.of λ ρ l=>by
 unfold cX at i;cases H:P.underlying T with
 |none=>simp[H]at i
 |some D=>cases D<;>simp[H]at i<;>simp[execOp,l k,Instr.loadAt,loadVar,isAgg,Xy H,j,go_sem]
def Ev.fieldAddr{x:Operand}{T:TypeId}{f off o o' b:Nat}(H:kT P T f off=true)(r:aM L x=some (.pointer (some ⟨b,o,none⟩)))(q:o+off=o'):
  Ev P n L w ⟨d,.fieldAddr T x f,ty,pos,af,g⟩ (.pointer (some ⟨b,o',none⟩)):=.of λ ρ t=>by
 subst q;unfold kT at H;cases l:P.underlying T with
 |none=>simp[l]at H
 |some D=>
  cases D<;>simp[l]at H
  rename_i fs
  cases j:fs[f]? with
  |none=>simp[j]at H
  |some p=>
   simp only[j]at H;cases k:P.info? p.type with
   |none=>simp[k]at H
   |some i=>
    simp[k]at H;simp[execOp,t r,Instr.fieldAt,Xy l,j,fieldPlace,sizeOf,typeInfo,k,H,go_sem]
def Hd{v:Value}{c off:Nat}{w:World}{m:Nat}{d:List Value}(h:Rd w v m d)(H:c<I d):∃ b o,bY v c= .pointer (some ⟨b,o,none⟩)/\bY v (c+off)= .pointer (some ⟨b,o+off,none⟩):=by
 obtain⟨a,p,rfl,_,h⟩:=h;obtain⟨b,o,rfl,_⟩:=h c _ (py H);exact⟨b,o+c,by simp[bY,Yg],by simp[bY,Yg,YG]⟩
def Ev.Q5{x:Operand}{T:TypeId}{f off c j m:Nat}{v:Value}{i:List Value}(q:kT P T f off=true)(H:aM L x=some (bY v c))(h:Rd w v m i)(p:c<I i)(r:c+off=j):
  Ev P n L w ⟨d,.fieldAddr T x f,ty,pos,af,g⟩ (bY v j):=by
 subst r;obtain⟨b,o,k,l⟩:=Hd (off:=off) h p;rw[l];rw[k]at H;exact Ev.fieldAddr q H Y
def BoundIs(L:aA)(d:Nat):Option Operand->Nat->Prop
 |none,l=>l=d
 |some o,l=>∃ k,aM L o=some (.int k (l:Int))
def ic{isSl:Bool}{len cap l h:Nat}{low high:Option Value}(d:match low with|none=>l=0|some v=>∃ k,v= .int k (l:Int))(H:match high with|none=>h=len|some v=>∃ k,v= .int k (h:Int))
  (h1:l<=h) (h2:h<=cap) (w:World):(Instr.sliceBounds isSl len cap low high none).run P w= .ok (l,h,cap) w:=by
 have g:(0:Int)<=(l:Int)/\(l:Int)<=(h:Int):=O
 have i:(0:Int)<=(h:Int)/\(h:Int)<=(cap:Int):=O
 cases low with
 |none=>
  cases high with
  |none=>simp at d H;subst d;subst H;simp[Instr.sliceBounds,go_sem]
  |some v=>simp at d;obtain⟨k,rfl⟩:=H;subst d;simp[Instr.sliceBounds,Instr.sliceBound,asIntOf,h2,go_sem]
 |some u=>
  obtain⟨k,rfl⟩:=d;cases high with
  |none=>simp at H;subst H;simp[Instr.sliceBounds,Instr.sliceBound,asIntOf,h1,go_sem]
  |some v=>obtain⟨K,rfl⟩:=H;simp[Instr.sliceBounds,Instr.sliceBound,asIntOf,h1,h2,go_sem]
theorem BoundIs.of{L:aA}{ρ:Operand->Value}(g:∀ {x u},aM L x=some u->ρ x=u){d l:Nat}{lo:Option Operand}(h:BoundIs L d lo l):match lo.map ρ with|none=>l=d|some v=>∃ k,v= .int k (l:Int):=by
 cases lo with
 |none=>exact h
 |some o=>obtain⟨k,H⟩:=h;exact⟨k,g H⟩
def Ev.slice{x:Operand}{lo k:Option Operand}{t e s b:Nat}{z v:Value}{m l h:Nat}{i:List Value}(y:SlTy P t e s z b)(A:aM L x=some v)(u:Rd w v m i)
  (q:BoundIs L 0 lo l) (o:BoundIs L m k h) (h1:l<=h) (h2:h<=m):Ev P n L w ⟨d,.slice t x lo k none,ty,pos,af,g⟩ (gL s v l h):=.of λ ρ j=>by
 obtain⟨a,p,rfl,r,N⟩:=u;obtain⟨K,D,Q,E,R⟩:=y.info;have H:=λ w=>ic (P:=P) (isSl:=true) (len:=m) (cap:=p) (q.of j) (o.of j) h1 O w;simp only[execOp,j A,Instr.sliceAt,Instr.slice,XC,Xy y.und,Xw,a0v,H];simp[sizeOf,typeInfo,D,E,gL,go_sem]
def Ev.eF{x:Operand}{lo j:Option Operand}{t l h:Nat}{s:ByteArray}(u:P.underlying t=some .string)(p:aM L x=some (.string s))
  (o:BoundIs L 0 lo l) (k:BoundIs L s.size j h) (h1:l<=h) (h2:h<=s.size):Ev P n L w ⟨d,.slice t x lo j none,ty,pos,af,g⟩ (.string (s.extract l h)):=.of λ ρ i=>by
 have H:=λ w=>ic (P:=P) (isSl:=false) (len:=s.size) (cap:=s.size) (o.of i) (k.of i) h1 h2 w;simp only[execOp,i p,Instr.sliceAt,Instr.slice,XC,Xy u,Xw,a0v,Option.isSome_none,Yq,Yy,XG,H]
end
theorem OpE.val{P:Program}{n:Nat}{L:aA}{w w':World}{o:Oper}{v:Value}{K:Value->World->Prop}(h:∀ ρ:Operand->Value,(∀ {x u},aM L x=some u->ρ x=u)->(execOp ρ o).run P w= .ok (.value v) w')
  (k:K v w'):OpE P n L w o K:=λ a H _ _ d=>by
 simp only[Oper.wp,h a.eval (λ g=>H.eval g),Oper.upon];exact d _ _ k
def OpE.unit{P:Program}{n:Nat}{L:aA}{w w':World}{o:Oper}{K:Value->World->Prop}(h:∀ ρ:Operand->Value,(∀ {x u},aM L x=some u->ρ x=u)->(execOp ρ o).run P w= .ok .skip w')
  (k:K undef w'):OpE P n L w o K:=λ a H _ _ d=>by
 simp only[Oper.wp,h a.eval (λ g=>H.eval g),Oper.upon];exact d _ _ k
def Src.Wc{P:Program}{w:World}{s tx E m:Nat}{y:Value}{N:List Value}(k:P.underlying tx=some (.slice E))(h:Rd w y m N)(i:I N=m*s)(h1:∀ u∈N,u.oneCell'=true):Src P s tx y m N w:=by
 obtain⟨a,p,rfl,t,d⟩:=h;cases a with
 |some a=>
  refine Src.ofSlice w k a m p N i (λ j u q=>?_) h1;obtain⟨b,o,H,hw⟩:=d j u q;cases H;rw[Yg];exact hw
 |none=>
  have l:N=[]:=by
   cases N with
   |nil=>rfl
   |cons u r=>obtain⟨b,o,H,_⟩:=d 0 u Y;cases H
  subst l;have g:∀ W:World,(Builtin.firstCells s m (.slice none m p)).run P W= .ok #[] W:=λ _=>Y;exact⟨.inl ⟨E,k⟩,λ _=>Y,g w,g w.drew,i,bw⟩
def vT{P:Program}{w:World}{t tx ty e s b m n:Nat}{z v y:Value}{d N:List Value}(K:SlTy P t e s z b)(p:w.ownsRow 0 e s v n d)(E:Src P s tx y m N w)
  (X:n+m<=maxLen) (hb:(n+m)*b<=140737488355328):
  ∃ T W,(Builtin.append_ #[t,tx] ty #[v,y]).run P w= .ok T W/\W.ownsRow 0 e s T (n+m) (d++N)/\Chg (ck v) w W/\∀ k∈ck T,k∈ck v\/(w.heap.size<=k/\k<W.heap.size):=by
 obtain⟨i,i1,i2,i3,i4⟩:=K.info;have Q:((n+m:Nat):Int)<=9223372036854775807:=by simp only[maxLen]at X;omega
 subst i3;subst i4;have H:I (d++N)=(n+m)*i.size:=by rw[AT,p.1,E.newsLen,Yc]
 have q:∀ (l:Option Addr) (o:Nat),o<n+m->n<=o->(∀ W:World,W.heap=w.heap->(Builtin.firstCells i.size n (.slice l n o)).run P W= .ok d.toArray W)->
   ∃ T W,(Builtin.append_ #[t,tx] ty #[.slice l n o,y]).run P w= .ok T W/\W.ownsRow 0 e i.size T (n+m) (d++N)/\Chg (ck (.slice l n o)) w W/\∀ k∈ck T,k∈ck (.slice l n o)\/(w.heap.size<=k/\k<W.heap.size):=by
  intro l o ho a2 hf;have hr:=run_append_grow_src (P:=P) w t tx ty e i z K.und i1 i2 l n o d (hf _ Y) y m N E ho Q (growslice_fits ho hb);refine⟨_,_,hr,⟨H,.inr ⟨_,_,_,Y,KD _,Zu w.drew _,a2r w (n+m) o e,grownCap_le_maxLen w (n+m) o e X,?_,?_⟩⟩,?_,?_⟩
  ·simp only[Array.size_append,ZW,size_zeroCells,K.zs,H,<-Yc];congr 1;have:=a2r w (n+m) o e;omega
  ·simp only[Array.toList_append];rw[<-H];exact a2b
  ·exact⟨Y,Y,Y,bw,λ k A _=>heap_alloc_old w.drew _ A⟩
  ·intro k A;simp[ck]at A;subst A;right;simp
 rcases p.2 with⟨rfl,rfl⟩|⟨g,cap,cur,rfl,hbg,hg,hnc,hcm,hcs,htake⟩
 ·have hx:d=[]:=XM (by simpa using p.1);subst hx;by_cases hm:m=0
  ·subst hm;have hn:N=[]:=XM (by simpa using E.newsLen);subst hn;have hc:=E.cells;refine⟨.slice none 0 0,w,?_,World.ownsRow_nil w 0 e i.size,⟨Y,Y,Y,KM _,λ _ _ _=>Y⟩,by simp[ck]⟩;rcases E.kind with⟨e',A⟩|A<;>simp[Builtin.append_,Xy K.und,Xy A,sizeOf,typeInfo,i1,E.len,hc]
  ·simp only[XU]at q⊢;exact q none 0 O (KM _) (λ _ _=>by simp[Builtin.firstCells])
 ·by_cases r:n+m<=cap
  ·have R:0+n*i.size+0+I N<=cur.size:=by rw[E.newsLen,hcs,XU,YP,<-Yc];exact YH _ r
   have a0:=a1i (P:=P) g (0+n*i.size) e N 0 cur w hg R E.one;have hr:(Builtin.append_ #[t,tx] ty #[.slice (some ⟨g,0,none⟩) n cap,y]).run P w= .ok (.slice (some ⟨g,0,none⟩) (n+m) cap) (w.setRow g (J (n*i.size) cur.toList++N++ww (n*i.size+I N) cur.toList).toArray):=by
    simp only[XU,YP]at a0;rcases E.kind with⟨e',A⟩|A<;>simp[Builtin.append_,Xy K.und,Xy A,sizeOf,typeInfo,i1,E.len,r,E.cells,Yg,a0]
   refine⟨_,_,hr,⟨H,.inr ⟨g,cap,_,Y,hbg,a16 w g cur _ e _ hg,r,hcm,?_,?_⟩⟩,⟨Y,Y,Y,bw,λ k _ A=>a0e w g k _ (λ e=>A (by simp[ck,e]))⟩,λ k A=>.inl A⟩
   ·simp only[XU,YP]at R;simp only[ZW,AT,Xo,XD,YL];omega
   ·rw[htake,<-H];exact a2b
  ·refine q (some ⟨g,0,none⟩) cap O hnc (λ W a1=>run_firstCells_some W i.size n _ _ cap d p.1 (λ j u hu=>?_));have D:=p.cells (g:=g) Y j u hu;simp only[World.cell?,a1]at D⊢;exact D
section
variable {P:Program} {n:Nat} {L:aA} {w w0:World} {cs:List Chunk} {K:Value->World->Prop} {d:Option Nat} {ty:TypeId} {pos:String} {af:Array Edge} {g:Option (Nat×Bool)}
theorem OpE.append{x y:Operand}{t tx e s b i m nn:Nat}{z v u:Value}{j N:List Value}(o:SlTy P t e s z b)(r:Sat w0 cs w)(q:cs[i]? =some (rI v e s nn j))(hx:aM L x=some v)(hy:aM L y=some u)
  (H:Src P s tx u m N w) (l:nn+m<=maxLen) (Q:(nn+m)*b<=140737488355328) (T:∀ k W,Sat w0 (cs.set i (rI k e s (nn+m) (j++N))) W->Chg (ck v) w W->K k W):
  OpE P n L w ⟨d,.call ⟨.builtin .append,#[x,y],#[t,tx]⟩,ty,pos,af,g⟩ K:=by
 obtain⟨k,W,hr,X,p,R⟩:=vT (ty:=ty) o (r.get q) H l Q;refine .val (v:=k) (w':=W) (λ ρ A=>?_) (T k W (r.set i q p X R) p);have D:=A hx;have E:=A hy;simp only[a0k,BigFrame.builtin_append];simp only[Zk,XZ,Zy,D,E,XC,hr,Xw,XG]
def OpE.box{x:Operand}{T:TypeId}{v:Value}(H:Sat w0 cs w)(i:aM L x=some v)
  (k:∀ b W,Sat w0 (cs++[ai b T v.cells.toList]) W->Chg [] w W->w.heap.size<=b->K (.pointer (some ⟨b,0,none⟩)) W):OpE P n L w ⟨d,.box T x,ty,pos,af,g⟩ K:=by
 refine .val (v:=.pointer (some ⟨w.heap.size,0,none⟩)) (w':=w.alloc (.cells v.cells.toList.toArray T)) (λ ρ j=>?_) (k _ _ (H.newObj T v.cells.toList) (.alloc _ _) (KM _));simp[execOp,j i,Instr.box,newVar,newRow,go_sem]
theorem OpE.alloc{T:TypeId}{z:Value}(l:Sat w0 cs w)(j:(P.info? T).map (·.zero)=some (some z))
  (k:∀ b W,Sat w0 (cs++[ai b T z.cells.toList]) W->Chg [] w W->w.heap.size<=b->K (.pointer (some ⟨b,0,none⟩)) W):OpE P n L w ⟨d,.alloc T,ty,pos,af,g⟩ K:=by
 refine .val (v:=.pointer (some ⟨w.heap.size,0,none⟩)) (w':=w.alloc (.cells z.cells.toList.toArray T)) (λ ρ o=>?_) (k _ _ (l.newObj T z.cells.toList) (.alloc _ _) (KM _));cases H:P.info? T with
 |none=>simp[H]at j
 |some i=>
  simp[H]at j;simp[execOp,Instr.alloc,zeroValue,typeInfo,H,j,newVar,newRow,go_sem]
def OpE.makeSlice{x y:Operand}{t e s b l c:Nat}{z:Value}{k p:IntKind}(H:SlTy P t e s z b)(D:Sat w0 cs w)(E:aM L x=some (.int k (l:Int)))(N:aM L y=some (.int p (c:Int)))(j:l<=c)
  (hb:b*c<=281474976710656) (q:c<=9223372036854775807)
  (A:∀ v W,Sat w0 (cs++[rI v e s l (J (l*s) (madeCells z.cells (c*s)).toList)]) W->Chg [] w W->K v W):OpE P n L w ⟨d,.makeSlice t x y,ty,pos,af,g⟩ K:=by
 obtain⟨i,Q,R,T,X⟩:=H.info;have u:(i.bytes:Int)*(c:Int)<=281474976710656:=by rw[X,<-a2n];omega
 have r:=run_make (P:=P) (w:=w) t e i z H.und Q R k p (l:Int) (c:Int) O O u O;rw[T]at r;simp only[Zi]at r;refine .val (λ ρ o=>?_) (A _ _ (D.vG e s l c (madeCells z.cells (c*s)).toList a0B j (by rw[YL,size_madeCells])) (.alloc _ _));simp only[execOp,o E,o N,XC,r,Xw,XG,Array.toArray_toList]
def OpE.U7{x:Operand}{t e b:Nat}{z v:Value}(y:SlTy P t e 1 z b)(o:Sat w0 cs w)(p:aM L x=some v)(h1:v.oneCell'=true)
  (l:∀ u W,Sat w0 (cs++[rI u e 1 1 [v]]) W->Chg [] w W->K u W):OpE P n L w ⟨d,.buildSlice t 1 #[(0,x)],ty,pos,af,g⟩ K:=by
 obtain⟨Q,D,E,N,R⟩:=y.info;have r:=y.zs;refine .val (λ ρ A=>?_) (l _ _ (o.vG e 1 1 1 [v] a0B (KM _) Y) (.alloc _ _));have j:v.cells= #[v]:=by cases v<;>first|rfl|cases h1
 have k:∃ q,z.cells= #[q]:=by
  obtain⟨q,i⟩:=ZE.1 (by simpa using r:I z.cells.toList=1);exact⟨q,by apply a18;simpa using i⟩
 obtain⟨q,i⟩:=k;have H:(Instr.buildSlice t 1 #[(0,v)]).run P w= .ok (.slice (some ⟨w.heap.size,0,none⟩) 1 1) (w.alloc (.cells #[v] e)):=by
  simp[Instr.buildSlice,Xy y.und,sizeOf,typeInfo,zeroValue,D,E,N,Instr.fill,j,i,newRow,Array.range_succ];simp[show Array.range 0=(#[]:Array Nat)from Y]
 simp only[execOp,Zk,XZ,Zy,A p,XC,H,Xw,XG]
def OpE.aG{x y:Operand}{T i b j:Nat}{v X:Value}{U:TypeId}{k:List Value}(o:(P.info? T).map (·.size)=some 1)(q:Sat w0 cs w)(p:cs[i]? =some (ai b U k))(N:aM L x=some (.pointer (some ⟨b,j,none⟩)))
  (Q:aM L y=some v) (h1:v.oneCell'=true) (hj:k[j]? =some X) (E:∀ W,Sat w0 (cs.set i (ai b U (k.set j v))) W->Chg [b] w W->K undef W):OpE P n L w ⟨d,.store T x y,ty,pos,af,g⟩ K:=by
 have A:=q.cell p hj;have D:=frozen_of_heap (q.get p) j;cases H:P.info? T with
 |none=>simp[H]at o
 |some R=>
  simp[H]at o;refine .unit (λ ρ t=>?_) (E _ (q.setObj (j:=j) (u:=v) p) (Chg.setCell w ⟨b,j,none⟩ v));have r:v.cells= #[v]:=by cases v<;>first|rfl|cases h1
  have l:(Instr.storeAt T (.pointer (some ⟨b,j,none⟩)) v).run P w= .ok () (w.setCell ⟨b,j,none⟩ v):=by
   simp[Instr.storeAt,Instr.sureAddr,storeVar,sizeOf,typeInfo,H,o,r,storeCells,run_store P w _ v .plain h1,A,D,Addr.add]
  simp only[execOp,t N,t Q,XC,l,Xw,XG]
def OpE.FG{x y:Operand}{T i e s m c:Nat}{v u X:Value}{k:List Value}(r:(P.info? T).map (·.size)=some 1)(Q:Sat w0 cs w)(N:cs[i]? =some (rI v e s m k))(hx:aM L x=some (bY v c))
  (hy:aM L y=some u) (h1:u.oneCell'=true) (E:k[c]? =some X) (hk:∀ W,Sat w0 (cs.set i (rI v e s m (k.set c u))) W->Chg (ck v) w W->K undef W):OpE P n L w ⟨d,.store T x y,ty,pos,af,g⟩ K:=by
 have H:=Q.get N;have p:c<I k:=(KC.1 E).1;obtain⟨t,⟨rfl,rfl⟩|⟨g,a0,a1,rfl,a4,hh,a5,a2,a3,ht⟩⟩:=id H
 ·simp at t;subst t;simp at p
 have l:w.cell? ⟨g,c,none⟩=some X:=by rw[World.ownsRow.cellAt H c (by rw[<-t];exact p)];exact E
 have hf:=frozen_of_heap hh c;cases o:P.info? T with
 |none=>simp[o]at r
 |some a6=>
  simp[o]at r;refine .unit (λ ρ R=>?_) (hk _ (Q.W5 (j:=c) (u:=u) N) (Chg.setCell w ⟨g,c,none⟩ u));have A:u.cells= #[u]:=by cases u<;>first|rfl|cases h1
  have D:ρ x= .pointer (some ⟨g,c,none⟩):=by rw[R hx];simp[bY,Yg]
  have q:(Instr.storeAt T (.pointer (some ⟨g,c,none⟩)) u).run P w= .ok () (w.setCell ⟨g,c,none⟩ u):=by
   simp[Instr.storeAt,Instr.sureAddr,storeVar,sizeOf,typeInfo,o,r,A,storeCells,run_store P w _ u .plain h1,l,hf,Addr.add]
  simp only[execOp,D,R hy,XC,q,Xw,XG]
end
structure Enc(α:Type) where
 s:Nat
 enc:α->List Value
 len:∀ x,I (enc x)=s
 one:∀ x,∀ u∈enc x,u.oneCell'=true
def encI(k:IntKind):Enc Int:=⟨1,λ x=>[.int k x],λ _=>Y,λ x u h=>by simp at h;subst h;rfl⟩
def a7(k:IntKind):Enc Nat:=⟨1,λ x=>[.int k (x:Int)],λ _=>Y,λ x u h=>by simp at h;subst h;rfl⟩
abbrev t2:=a7 .u64
abbrev t1:=a7 .u8
abbrev un:=a7 .i64
def aw:Enc ByteArray:=⟨1,λ x=>[.string x],λ _=>Y,λ x u h=>by simp at h;subst h;rfl⟩
def jI:Enc Bool:=⟨1,λ x=>[.bool x],λ _=>Y,λ x u h=>by simp at h;subst h;rfl⟩
namespace Enc
variable {α:Type} (E:Enc α)
def all(l:List α):List Value:=l.flatMap E.enc
@[simp] theorem all_nil:E.all []=[]:=rfl
def all_cons(x:α)(l:List α):E.all (x::l)=E.enc x++E.all l:=by simp[all]
def all_append(l m:List α):E.all (l++m)=E.all l++E.all m:=by simp[all]
def all_one(x:α):E.all [x]=E.enc x:=by simp[all]
def all_length(l:List α):I (E.all l)=I l*E.s:=by
 induction l with
 |nil=>simp
 |cons x r i=>rw[all_cons,AT,i,E.len,No,Yc];omega
def all_oneCell(l:List α):∀ u∈E.all l,u.oneCell'=true:=λ u H=>by
 obtain⟨x,_,d⟩:=Z4.1 H;exact E.one x u d
def all_get{l:List α}{k:Nat}{x:α}(h:l[k]? =some x){off:Nat}(o:off<E.s):(E.all l)[k*E.s+off]? =(E.enc x)[off]? :=by
 induction l generalizing k with
 |nil=>simp at h
 |cons y r i=>
  rw[all_cons];cases k with
  |zero=>
   simp at h;subst h;rw[XK a3d,a0z,XU]
  |succ k=>
   rw[XP (by rw[E.len,Yc];omega),E.len];have e:(k+1)*E.s+off-E.s=k*E.s+off:=by rw[Yc];omega
   rw[e];exact i ra
theorem all_take(l:List α)(k:Nat):J (k*E.s) (E.all l)=E.all (J k l):=by
 induction l generalizing k with
 |nil=>simp
 |cons y r i=>
  cases k with
  |zero=>simp
  |succ k=>
   have e:(k+1)*E.s=I (E.enc y)+k*E.s:=by rw[E.len,Yc];omega
   rw[all_cons,YN,all_cons,e,take_length_add_append,i]
def all_drop(l:List α)(k:Nat):ww (k*E.s) (E.all l)=E.all (ww k l):=by
 induction l generalizing k with
 |nil=>simp
 |cons y r i=>
  cases k with
  |zero=>simp
  |succ k=>
   have e:(k+1)*E.s=I (E.enc y)+k*E.s:=by rw[E.len,Yc];omega
   rw[all_cons,drop_succ_cons,e,drop_length_add_append,i]
end Enc
def RdL{α:Type}(w:World)(v:Value)(E:Enc α)(l:List α):Prop:=Rd w v (I l) (E.all l)
def cL{α:Type}(v:Value)(e:Nat)(E:Enc α)(l:List α):Chunk:=rI v e E.s (I l) (E.all l)
theorem RdL.E{α:Type}{w w':World}{v:Value}{E:Enc α}{l:List α}(h:RdL w v E l)(he:Ext w w'):RdL w' v E l:=Rd.E h he
theorem RdL.nil{α:Type}(w:World)(E:Enc α):RdL w (.slice none 0 0) E []:=Rd.nil w
theorem Sat.aj{α:Type}{w0 w:World}{cs:List Chunk}(h:Sat w0 cs w){e:Nat}{v:Value}{E:Enc α}{l:List α}(i:Nat)(H:cs[i]? =some (cL v e E l)):RdL w v E l:=h.rd H
theorem RdL.ae{α:Type}{w:World}{v:Value}{E:Enc α}{l:List α}(h:RdL w v E l):v.oneCell'=true:=Rd.ae h
theorem RdL.sub{α:Type}{w:World}{v:Value}{E:Enc α}{l:List α}(r:RdL w v E l){a b:Nat}(h1:a<=b)(h2:b<=I l):RdL w (gL E.s v a b) E (ww a (J b l)):=by
 have:=Rd.sub r (size:=E.s) h1 h2;rw[E.all_take,E.all_drop]at this;unfold RdL;rw[show(ww a (J b l)).length=b-a by simp;omega];exact this
section
variable {P:Program} {n:Nat} {L:aA} {w w0:World} {cs:List Chunk} {K:Value->World->Prop} {d:Option Nat} {ty:TypeId} {pos:String} {af:Array Edge} {g:Option (Nat×Bool)} {α:Type} {E:Enc α}
def Ev.TT{x:Operand}{t e:TypeId}{v:Value}{l:List α}(u:P.underlying t=some (.slice e))(H:aM L x=some v)(h:RdL w v E l):
  Ev P n L w ⟨d,.call ⟨.builtin .len,#[x],#[t]⟩,ty,pos,af,g⟩ (.int .i64 (I l:Int)):=Ev.VR u H h
def Ev.ik{x i:Operand}{t e b:Nat}{z v:Value}{j:Nat}{l:List α}{k:IntKind}(y:SlTy P t e E.s z b)(o:aM L x=some v)(H:aM L i=some (.int k (j:Int)))(h:RdL w v E l)(hj:j<I l):
  Ev P n L w ⟨d,.indexAddr t x i,ty,pos,af,g⟩ (bY v (j*E.s)):=Ev.indexAddr y o H h (E.all_length l) hj
def Ev.Wh{x:Operand}{T:TypeId}{v u:Value}{j:Nat}{l:List α}{a:α}(H:cX P T=true)(p:aM L x=some (bY v (j*E.s)))(h:RdL w v E l)(i:l[j]? =some a)(k:0<E.s)(o:(E.enc a)[0]? =some u):
  Ev P n L w ⟨d,.load T x,ty,pos,af,g⟩ u:=Ev.Mi H p h (by have:=E.all_get i k;rw[YP]at this;rw[this];exact o)
def Ev.W3{x:Operand}{T:TypeId}{v u:Value}{j off:Nat}{l:List α}{a:α}(H:cX P T=true)(p:aM L x=some (bY v (j*E.s+off)))(h:RdL w v E l)(i:l[j]? =some a)(k:off<E.s)(o:(E.enc a)[off]? =some u):
  Ev P n L w ⟨d,.load T x,ty,pos,af,g⟩ u:=Ev.Mi H p h (by rw[E.all_get i k];exact o)
def Ev.W7{x:Operand}{T:TypeId}{f off:Nat}{v:Value}{j:Nat}{l:List α}(H:kT P T f off=true)(k:aM L x=some (bY v (j*E.s)))(h:RdL w v E l)(hj:j<I l)(i:0<E.s):
  Ev P n L w ⟨d,.fieldAddr T x f,ty,pos,af,g⟩ (bY v (j*E.s+off)):=
 Ev.Q5 H k h (by rw[E.all_length];exact Zm hj i) Y
def Ev.bg{x:Operand}{lo i:Option Operand}{t e b:Nat}{z v:Value}{a c:Nat}{l:List α}(y:SlTy P t e E.s z b)(k:aM L x=some v)(r:RdL w v E l)
  (j:BoundIs L 0 lo a) (H:BoundIs L (I l) i c) (h1:a<=c) (h2:c<=I l):Ev P n L w ⟨d,.slice t x lo i none,ty,pos,af,g⟩ (gL E.s v a c):=Ev.slice y k r j H h1 h2
def Src.Ms{s tx d:Nat}{y:Value}{l:List α}(H:E.s=s)(k:P.underlying tx=some (.slice d))(h:RdL w y E l):Src P s tx y (I l) (E.all l) w:=by
 subst H;exact Src.Wc k h (E.all_length l) (E.all_oneCell l)
def OpE.aD{x y:Operand}{t tx e b k:Nat}{z v u:Value}{l m:List α}(i:Nat)(H:SlTy P t e E.s z b)(R:Sat w0 cs w)(D:cs[i]? =some (cL v e E l))(T:aM L x=some v)(X:aM L y=some u)
  (N:P.underlying tx=some (.slice k)) (Q:RdL w u E m) (q:I l+I m<=9223372036854775807) (r:(I l+I m)*b<=140737488355328) (A:∀ j W,Sat w0 (cs.set i (cL j e E (l++m))) W->Chg (ck v) w W->K j W):
  OpE P n L w ⟨d,.call ⟨.builtin .append,#[x,y],#[t,tx]⟩,ty,pos,af,g⟩ K:=
 OpE.append H R D T X (Src.Ms Y N Q) a0B r λ j W o p=>A j W (by unfold cL;rw[E.all_append,AT];exact o) p
def OpE.fJ{x y:Operand}{t tx e b:Nat}{z v u:Value}{l m:List α}(i:Nat)(H:SlTy P t e E.s z b)(N:Sat w0 cs w)(A:cs[i]? =some (cL v e E l))(Q:aM L x=some v)(R:aM L y=some u)
  (D:Src P E.s tx u (I m) (E.all m) w) (p:I l+I m<=9223372036854775807) (q:(I l+I m)*b<=140737488355328) (r:∀ j W,Sat w0 (cs.set i (cL j e E (l++m))) W->Chg (ck v) w W->K j W):
  OpE P n L w ⟨d,.call ⟨.builtin .append,#[x,y],#[t,tx]⟩,ty,pos,af,g⟩ K:=
 OpE.append H N A Q R D a0B q λ j W k o=>r j W (by unfold cL;rw[E.all_append,AT];exact k) o
def OpE.bS{x:Operand}{t e b:Nat}{z v:Value}(E:Enc α)(a:α)(y:SlTy P t e E.s z b)(he:E.enc a=[v])(l:Sat w0 cs w)(o:aM L x=some v)
  (k:∀ u W,Sat w0 (cs++[cL u e E [a]]) W->Chg [] w W->K u W):OpE P n L w ⟨d,.buildSlice t 1 #[(0,x)],ty,pos,af,g⟩ K:=by
 have H:E.s=1:=by have:=E.len a;rw[he]at this;simpa using this.symm
 refine OpE.U7 (H▸y) l o (E.one a v a3G) λ u W j i=>k u W ?_ i;unfold cL;rw[E.all_one,he,H];exact j
def vU{z:Value}{a:α}(he:E.enc a=[z])(h1:E.s=1)(c l:Nat)(d:z.oneCell'=true)(h:l<=c):J (l*E.s) (madeCells z.cells (c*E.s)).toList=E.all (List.replicate l a):=by
 have H:z.cells= #[z]:=by cases z<;>first|rfl|cases d
 rw[h1,Yj,Yj,H,toList_madeCells_one,take_replicate,Y5 h];induction l with
 |zero=>simp
 |succ l i=>rw[Zx,Zx,Enc.all_cons,he,<-i O];rfl
def OpE.df{x y:Operand}{t e b l c:Nat}{z:Value}{k Q:IntKind}(E:Enc α)(a:α)(j:SlTy P t e E.s z b)(he:E.enc a=[z])(A:Sat w0 cs w)(D:aM L x=some (.int k (l:Int)))(N:aM L y=some (.int Q (c:Int)))
  (H:l<=c) (r:b*c<=281474976710656) (i:c<=9223372036854775807) (u:∀ v W,Sat w0 (cs++[cL v e E (List.replicate l a)]) W->Chg [] w W->K v W):OpE P n L w ⟨d,.makeSlice t x y,ty,pos,af,g⟩ K:=by
 have p:E.s=1:=by have:=E.len a;rw[he]at this;simpa using this.symm
 refine OpE.makeSlice j A D N H r i λ v W o q=>u v W ?_ q;rw[vU he p c l (E.one a z a3G) H]at o;unfold cL;rw[Zf];exact o
def sC{l:List α}{j:Nat}{a:α}{u:Value}(he:E.enc a=[u])(hj:j<I l):(E.all l).set (j*E.s) u=E.all (l.set j a):=by
 have H:E.s=1:=by have:=E.len a;rw[he]at this;simpa using this.symm
 have d:l=J j l++l[j]::ww (j+1) l:=bw
 have g:l.set j a=J j l++a::ww (j+1) l:=by
  rw[YO];simp[hj]
 obtain⟨q,k⟩:=ZE.1 (by rw[E.len l[j],H]:I (E.enc l[j])=1);have i:I (E.all (J j l))=j:=by rw[E.all_length,H];simp;omega
 rw[g,E.all_append,E.all_cons,he]
 conv=>lhs;rw[d,E.all_append,E.all_cons,k]
 rw[H,Yj,Y2 _ _ O,i,Y4];rfl
def OpE.dJ{x y:Operand}{T e j:Nat}{v u:Value}{l:List α}{a:α}(i:Nat)(o:(P.info? T).map (·.size)=some 1)(r:Sat w0 cs w)(p:cs[i]? =some (cL v e E l))(A:aM L x=some (bY v (j*E.s)))
  (D:aM L y=some u) (he:E.enc a=[u]) (hj:j<I l) (q:∀ W,Sat w0 (cs.set i (cL v e E (l.set j a))) W->Chg (ck v) w W->K undef W):OpE P n L w ⟨d,.store T x y,ty,pos,af,g⟩ K:=by
 have N:E.s=1:=by have:=E.len a;rw[he]at this;simpa using this.symm
 have t:(E.all l)[j*E.s]? =some _:=py a3F;refine OpE.FG o r p A D (E.one a u a3G) t λ W H k=>q W ?_ k;rw[sC he hj]at H;unfold cL;rw[Xt];exact H
def Sat.aC{w0 w:World}{cs:List Chunk}(h:Sat w0 cs w)(e:Nat)(E:Enc α):Sat w0 (cs++[cL (.slice none 0 0) e E []]) w:=h.TW e E.s
def OpE.VX{x y:Operand}{t tx e b:Nat}{z v u:Value}{l m:List α}(i:Nat)(N:SlTy P t e E.s z b)(h1:E.s=1)(hs:Sat w0 cs w)(hi:cs[i]? =some (cL v e E l))(hx:aM L x=some v)(hy:aM L y=some u)
  (hr:RdL w u E m) (A:∀ w',Sat w0 (cs.set i (cL v e E (J (I l) m++ww (I m) l))) w'->Chg (ck v) w w'->K (.int .i64 ((min (I m) (I l):Nat):Int)) w'):
  OpE P n L w ⟨d,.call ⟨.builtin .copy,#[x,y],#[t,tx]⟩,ty,pos,af,g⟩ K:=by
 obtain⟨c0,i1,i2,i3,i4⟩:=N.info;have X:(P.info? e).map (·.size)=some 1:=by rw[i1];simp[i3,h1]
 have r:=hs.get hi;have a5:∀ w':World,(Builtin.copy_ #[t,tx] ty #[v,u]).run P w= .ok (.int .i64 ((min (I m) (I l):Nat):Int)) w'->K (.int .i64 ((min (I m) (I l):Nat):Int)) w'->
   OpE P n L w ⟨d,.call ⟨.builtin .copy,#[x,y],#[t,tx]⟩,ty,pos,af,g⟩ K:=λ w' H hK=>by
  refine .val (λ ρ hρ=>?_) hK;have e1:=hρ hx;have e2:=hρ hy;simp only[a0k,BigFrame.builtin_copy];simp only[Zk,XZ,Zy,e1,e2,XC,H,Xw,XG]
 obtain⟨ua,p,rfl,b5,a4⟩:=id hr;by_cases hz:min (I m) (I l)=0
 ·have T:(Builtin.copy_ #[t,tx] ty #[v,.slice ua (I m) p]).run P w= .ok (.int .i64 ((min (I m) (I l):Nat):Int)) w:=by
   rcases r.2 with⟨rfl,b4⟩|⟨gg,D,Q,rfl,_⟩
   ·rw[hz];exact run_copy_none w t tx ty e none ua 0 0 (I m) p N.und X bw
   ·rw[hz];exact run_copy_none w t tx ty e _ ua (I l) D (I m) p N.und X hz
  refine a5 w T (A w ?_ ⟨Y,Y,Y,KM _,λ _ _ _=>Y⟩);have W:J (I l) m++ww (I m) l=l:=by
   rcases Yv (I l) with h|h
   ·rw[XM h];simp
   ·have:I m=0:=O
    rw[XM this];simp
  rw[W];exact hs.set i hi ⟨Y,Y,Y,KM _,λ _ _ _=>Y⟩ r (λ _ A=>.inl A)
 ·obtain⟨a2,⟨rfl,b4⟩|⟨gg,D,Q,rfl,b3,hh,b7,b1,a0,ht⟩⟩:=r
  ·omega
  have b6:∃ ub uo,ua=some ⟨ub,uo,none⟩:=by
   have a3:0<I (E.all m):=by rw[E.all_length,h1];omega
   obtain⟨bb,o,ha,_⟩:=a4 0 _ (py a3);exact⟨bb,o,ha⟩
  obtain⟨ub,uo,rfl⟩:=b6;rw[h1,Yj]at a2 a0 ht;have R:I (E.all m)=I m:=by rw[E.all_length,h1,Yj]
  have H:=run_copy_row (P:=P) w t tx ty e gg 0 (I l) D ⟨ub,uo,none⟩ (I m) p Q e (J (I l) (E.all m)) N.und X hh
   (by rw[Xo,R,Nat.min_comm])
   (λ j q hq=>by
    rw[Yu]at hq;split at hq
    ·obtain⟨b2,o2,a6,a9⟩:=a4 j q hq;cases a6;rw[Yg];exact a9
    ·cases hq)
   (by rw[Xo,R,a0];omega) (λ q hq=>E.all_oneCell m q (take_subset _ _ hq))
  have hn:I (J (I l) (E.all m))=min (I m) (I l):=by rw[Xo,R];omega
  rw[hn]at H;refine a5 _ H (A _ (hs.set i hi ⟨Y,Y,Y,bw,λ k _ A=>a0e w gg k _ (λ e=>A a4c)⟩ ?_ (λ _ A=>.inl A)) ⟨Y,Y,Y,bw,λ k _ A=>a0e w gg k _ (λ e=>A (by simp[ck,e]))⟩);have a1:I (J (I l) m++ww (I m) l)=I l:=by simp;omega
  refine⟨E.all_length _,.inr ⟨gg,D,_,?_,b3,a16 w gg Q _ e _ hh,O,b1,?_,?_⟩⟩
  ·rw[a1]
  ·simp only[ZW,AT,Xo,XD,YL,h1];omega
  ·rw[a1,h1,Yj,E.all_append];have e1:=E.all_take m (I l);have e2:=E.all_drop l (I m);rw[h1,Yj]at e1 e2;rw[<-e1,<-e2,<-ht];simp only[a2u,YW,XU];rw[take_append,hn,Xx (by rw[hn];omega)];congr 1;rcases Nat.le_total (I m) (I l) with h|h
   ·rw[Y5 h,drop_take]
   ·rw[a2f h,Y4,a2u,Yo a1A]
end
def Sat.bp{α:Type}{w0 w:World}{cs:List Chunk}(h:Sat w0 cs w)(i:Nat){v:Value}{e:Nat}{E:Enc α}{l l':List α}(g:cs[i]? =some (cL v e E l))(q:l=l'):Sat w0 (cs.set i (cL v e E l')) w:=by
 subst q;obtain⟨d,H⟩:=KC.1 g;rw[<-H,ZO d];exact h
