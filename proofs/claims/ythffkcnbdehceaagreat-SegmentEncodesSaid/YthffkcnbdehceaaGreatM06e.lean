/-
 M06e:corpora that say the same. No program in sight.
-/
import Derived.Test.YthffkcnbdehceaaGreatM06
import Derived.Test.YthffkcnbdehceaaGreatM03
open Go.Proofs.YthffkcnbdehceaaGreat
open List
set_option linter.unusedVariables false
set_option linter.unusedSimpArgs false
set_option linter.unusedSectionVars false
namespace Go.Kw
theorem eS {α β:Type} {l:List α} {m:List β} {k:Nat} {x:α} {y:β} {Q:α->β->Prop} (h:∀ (j:Nat) s t,j<k->l[j]? =some s->m[j]? =some t->Q s t) (hx:l[k]? =some x) (hy:m[k]? =some y) (q:Q x y):∀ (j:Nat) s t,j<k+1->l[j]? =some s->m[j]? =some t->Q s t:=λ j s t hj hs ht=>by
 rcases Q1 j k with r|r
 ·exact h j s t r hs ht
 ·have e:j=k:=by omega
  subst e;rw [hx] at hs;rw [hy] at ht;cases hs;cases ht;exact q
theorem qk {α β γ:Type} {f:α->γ} {g:β->γ} {l:List α} {m:List β} {k:Nat} (hl:l.length=m.length) (h:∀ (j:Nat) s t,j<k->l[j]? =some s->m[j]? =some t->f s=g t) (hk:l.length<=k):l.map f=m.map g:=by
 apply SP (by simpa using hl)
 intro i h1 h2
 rw [getElem_map,getElem_map]
 rw [No] at h1 h2
 exact h i _ _ (by omega) (py h1) (py h2)
theorem la {α:Type} {l m:List α} {k:Nat} (hl:l.length=m.length) (h:∀ (j:Nat) s t,j<k->l[j]? =some s->m[j]? =some t->s=t) (hk:l.length<=k):l=m:=by
 have:=qk (f:=id) (g:=id) hl h hk
 simpa using this
theorem jx {α β γ:Type} {f:α->γ} {g:β->γ} {l:List α} {m:List β} {k:Nat} {x:α} {y:β} (e:l.map f=m.map g) (hx:l[k]? =some x) (hy:m[k]? =some y):f x=g y:=by
 have h:(l.map f)[k]? =(m.map g)[k]? :=by rw [e]
 rw [PX,PX,hx,hy] at h
 exact Qz h
theorem get_eq {α:Type} {l m:List α} {k:Nat} {x y:α} (e:l=m) (hx:l[k]? =some x) (hy:m[k]? =some y):x=y:=by subst e;rw [hx] at hy;exact Qz hy
theorem Nw {a b:Co} (h:((((((¬ a.at_=b.at_)\/a.tk.length≠b.tk.length)\/a.tx.length≠b.tx.length)\/a.rg.length≠b.rg.length)\/a.nd.length≠b.nd.length)\/a.hd.length≠b.hd.length)\/a.rl.length≠b.rl.length):¬ a.v=b.v:=λ e=>by
 have e1:a.at_=b.at_:=If px.at_ e
 have e2:(a.tk.map (·.ns)).length=(b.tk.map (·.ns)).length:=If (λ v=>(px.tk v).length) e
 have e3:(a.tx.map Iv.v).length=(b.tx.map Iv.v).length:=If (λ v=>(px.tx v).length) e
 have e4:(a.rg.map Iv.v).length=(b.rg.map Iv.v).length:=If (λ v=>(px.rg v).length) e
 have e5:a.nd.length=b.nd.length:=If (λ v=>(px.nd v).length) e
 have e6:a.hd.length=b.hd.length:=If (λ v=>(px.hd v).length) e
 have e7:a.rl.length=b.rl.length:=If (λ v=>(px.rl v).length) e
 simp only [No] at e2 e3 e4
 rcases h with (((((h|h)|h)|h)|h)|h)|h
 ·exact h e1
 ·exact h e2
 ·exact h e3
 ·exact h e4
 ·exact h e5
 ·exact h e6
 ·exact h e7
theorem LU {a b:Co} (h:¬ (((((((¬ a.at_=b.at_)\/a.tk.length≠b.tk.length)\/a.tx.length≠b.tx.length)\/a.rg.length≠b.rg.length)\/a.nd.length≠b.nd.length)\/a.hd.length≠b.hd.length)\/a.rl.length≠b.rl.length)):a.at_=b.at_/\a.tk.length=b.tk.length/\a.tx.length=b.tx.length/\a.rg.length=b.rg.length/\a.nd.length=b.nd.length/\a.hd.length=b.hd.length/\a.rl.length=b.rl.length:=by
 simp only [not_or,Qf,ne_eq] at h
 obtain ⟨⟨⟨⟨⟨⟨h1,h2⟩,h3⟩,h4⟩,h5⟩,h6⟩,h7⟩:=h
 exact ⟨h1,h2,h3,h4,h5,h6,h7⟩
theorem KF {x y:Iv} (h:(((x.nm≠y.nm)\/x.b≠y.b)\/x.e≠y.e)\/¬ x.ps=y.ps):¬ x.v=y.v:=λ e=>by
 unfold Iv.v at e
 simp only [Q6] at e
 rcases h with ((h|h)|h)|h
 ·exact h e.1
 ·exact h e.2.1
 ·exact h e.2.2.1
 ·exact h e.2.2.2
theorem KG {x y:Iv} (h:¬ ((((x.nm≠y.nm)\/x.b≠y.b)\/x.e≠y.e)\/¬ x.ps=y.ps)):x.v=y.v:=by
 simp only [not_or,Qf,ne_eq] at h
 obtain ⟨⟨⟨h1,h2⟩,h3⟩,h4⟩:=h
 unfold Iv.v;rw [h1,h2,h3,h4]
structure Sm (c:Co):Prop where
 at_:c.at_.length<=5000
 tk:c.tk.length<=5000
 tx:c.tx.length<=5000
 rg:c.rg.length<=5000
 nd:c.nd.length<=5000
 hd:c.hd.length<=5000
 rl:c.rl.length<=5000
 tr:∀ t∈c.tk,t.ns.length<=5000
 xr:∀ t∈c.tx,t.ps.length<=5000
 rr:∀ t∈c.rg,t.ps.length<=5000
theorem OkC.sm {n:Nat} {c:Co} (h:OkC n c) (hn:n<=80):Sm c:=by
 have h1:=h.ntk;have h2:=h.ntx;have h3:=h.nrg;have h4:=h.nnd;have h5:=h.at_.2;have h6:=h.o6.1
 have h7:c.hd.length<=c.tk.length:=by
  rcases QF c.hd.length with q|q
  ·omega
  ·have:=(h.o6.2 q).len.1;omega
 exact ⟨by omega,by omega,by omega,by omega,by omega,by omega,by omega,λ t ht=>by have:=(h.tk t ht).1;omega,λ t ht=>by have:=(h.tx.nm t ht).2.1.1;omega,λ t ht=>by have:=(h.rg.el t ht).2.2.1;omega⟩
end Go.Kw
