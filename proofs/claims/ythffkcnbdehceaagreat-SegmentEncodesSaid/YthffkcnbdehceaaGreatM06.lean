/-
 M06:corpora as they lie in memory,and which of them are good. No program in sight.
-/
import Derived.Test.YthffkcnbdehceaaGreatM13
import Derived.Lib.BitFns
open Go.Proofs.YthffkcnbdehceaaGreat
open List hiding all
set_option linter.unusedVariables false
set_option linter.unusedSimpArgs false
set_option linter.unusedSectionVars false
namespace Go.Kw
abbrev Pr:=ByteArray×ByteArray
def aU:Enc Pr:=⟨2,λ x=>[.string x.1,.string x.2],λ _=>rfl,λ x u h=>by simp at h;rcases h with rfl|rfl<;>rfl⟩
structure Tk where
 sv:SV
 ns:List ByteArray
def iS:Enc Tk:=⟨1,λ t=>[t.sv.val],λ _=>rfl,λ x u h=>by simp at h;subst h;rfl⟩
structure Iv where
 nm:ByteArray
 b:Int
 e:Int
 sv:SV
 ps:List Pr
def aG:Enc Iv:=⟨4,λ x=>[.string x.nm,.int .i64 x.b,.int .i64 x.e,x.sv.val],λ _=>rfl,λ x u h=>by simp at h;rcases h with rfl|rfl|rfl|rfl<;>rfl⟩
structure Nd where
 nm:ByteArray
 b:Int
 e:Int
 p:Int
def bE:Enc Nd:=⟨4,λ x=>[.string x.nm,.int .i64 x.b,.int .i64 x.e,.int .i64 x.p],λ _=>rfl,λ x u h=>by simp at h;rcases h with rfl|rfl|rfl|rfl<;>rfl⟩
structure Co where
 va:Value
 vt:Value
 vx:Value
 vr:Value
 vn:Value
 vh:Value
 vl:Value
 at_:List (ByteArray×Bool)
 tk:List Tk
 tx:List Iv
 rg:List Iv
 nd:List Nd
 hd:List Int
 rl:List ByteArray
@[reducible] def Co.val (c:Co):Value:= .agg #[c.va,c.vt,c.vx,c.vr,c.vn,c.vh,c.vl]
structure RdC (w:World) (c:Co):Prop where
 a:RdL w c.va cE c.at_
 t:RdL w c.vt iS c.tk
 x:RdL w c.vx aG c.tx
 r:RdL w c.vr aG c.rg
 n:RdL w c.vn bE c.nd
 h:RdL w c.vh (encI .i64) c.hd
 l:RdL w c.vl ax c.rl
 tr:∀ t∈c.tk,RdL w t.sv.val ax t.ns
 xr:∀ t∈c.tx,RdL w t.sv.val aU t.ps
 rr:∀ t∈c.rg,RdL w t.sv.val aU t.ps
theorem RdC.ext {w w':World} {c:Co} (h:RdC w c) (he:Ext w w'):RdC w' c:=
 ⟨h.a.ext he,h.t.ext he,h.x.ext he,h.r.ext he,h.n.ext he,h.h.ext he,h.l.ext he,λ t ht=>(h.tr t ht).ext he,λ t ht=>(h.xr t ht).ext he,λ t ht=>(h.rr t ht).ext he⟩
def jf (s:ByteArray):Bool:=decide (s.size<=120)&&(dw s&&((dR s.data.toList).all (λ u=>decide (31<u.r/\u.r≠127))&&s.data.toList.all λ c=>decide (32<=c.toNat/\c.toNat≠127)))
def lx (s:List UInt8):Nat->Nat×List (List UInt8)
 |0=>(1,[])
 |i+1=>if 0<i/\s[i]? =some 124 then (i+1,(lx s i).2++[(s.take i).drop (lx s i).1]) else lx s i
theorem As (s:List UInt8):∀ i,(lx s i).1<=max 1 i
 |0=>KB _
 |i+1=>by
  have:=As s i
  unfold lx
  split
  ·simp only;omega
  ·omega
def yd (s:ByteArray):Prop:=jf s=true/\s.data.toList[0]? =some 124/\s.data.toList[s.size-1]? =some 124/\(∀ i,1<=i->s.data.toList[i]? =some 124->(lx s.data.toList i).1≠i)/\∀ i x y,(lx s.data.toList s.size).2[i]? =some x->(lx s.data.toList s.size).2[i+1]? =some y->x<y
def okV (a:ByteArray×Bool) (v:ByteArray):Prop:=(a.2=false->jf v=true)/\(a.2=true->yd v)
theorem okV.val {a:ByteArray×Bool} {v:ByteArray} (h:okV a v):jf v=true:=by
 cases hb:a.2 with
 |false=>exact h.1 hb
 |true=>exact (h.2 hb).1
def okPs (ps:List Pr):Prop:=ps.length<=8/\(∀ p∈ps,bC p.1=true/\jf p.2=true)/\∀ i p q,ps[i]? =some p->ps[i+1]? =some q->SLt p.1 q.1
theorem rI:okPs []:=⟨by simp,by simp,by simp⟩
theorem rJ {p:Pr} (h1:bC p.1=true) (h2:jf p.2=true):okPs [p]:=⟨by simp,by simpa using ⟨h1,h2⟩,λ i p q _ hq=>by simp at hq⟩
instance (a b:ByteArray):Decidable (SLt a b):=inferInstanceAs (Decidable (a.data.toList<b.data.toList))
def eB (a b:ByteArray):Int:=if SLt a b then-1 else if SLt b a then 1 else 0
def dS (a b:Int):Int:=if a<b then-1 else if b<a then 1 else 0
def jg:List Pr->List Pr->Int
 |[],[]=>0
 |[],_::_=> -1
 |_::_,[]=>1
 |p::r,q::t=>if eB p.1 q.1≠0 then eB p.1 q.1 else if eB p.2 q.2≠0 then eB p.2 q.2 else jg r t
def ep (x y:Iv):Int:=if dS x.b y.b≠0 then dS x.b y.b else if dS y.e x.e≠0 then dS y.e x.e else if eB x.nm y.nm≠0 then eB x.nm y.nm else jg x.ps y.ps
theorem tZ (a b:Int):dS a b= -dS b a:=by unfold dS;split<;>split<;>omega
theorem oH (a b:ByteArray):eB a b= -eB b a:=by
 unfold eB
 by_cases h:SLt a b
 ·rw [PI h,M2 h.ML,PI h]
 ·by_cases k:SLt b a
  ·rw [M2 h,PI k,PI k];rfl
  ·rw [M2 h,M2 k,M2 k,M2 h];rfl
theorem Dw {a b:ByteArray} (h:eB a b=0):a=b:=by
 unfold eB at h
 by_cases h1:SLt a b
 ·rw [PI h1] at h;omega
 ·by_cases h2:SLt b a
  ·rw [M2 h1,PI h2] at h;omega
  ·exact Decidable.byContradiction λ hne=>h2 (SLt.HT h1 hne)
theorem kZ (a:ByteArray):eB a a=0:=by unfold eB;rw [M2 (SLt.sD a),M2 (SLt.sD a)]
theorem u3:∀ a b:List Pr,jg a b= -jg b a
 |[],[]=>rfl
 |[],_::_=>rfl
 |_::_,[]=>rfl
 |p::r,q::t=>by
  unfold jg
  rw [oH p.1 q.1,oH p.2 q.2,u3 r t]
  by_cases h1:eB q.1 p.1=0
  ·by_cases h2:eB q.2 p.2=0<;>simp [h1,h2]
  ·rw [PI (by omega),PI h1]
theorem Dx (x y:Iv):ep x y= -ep y x:=by
 unfold ep
 rw [tZ x.b y.b,tZ y.e x.e,oH x.nm y.nm,u3 x.ps y.ps]
 by_cases h1:dS y.b x.b=0
 ·by_cases h2:dS x.e y.e=0
  ·by_cases h3:eB y.nm x.nm=0<;>simp [h1,h2,h3]
  ·simp [h1,h2]
 ·rw [PI (by omega),PI h1]
theorem Jk {x y:Iv} (h:x.b<y.b):ep x y= -1:=by unfold ep dS;rw [PI h];rfl
def noX (x y:Iv):Prop:=x.nm=y.nm->¬ (x.b<y.e/\y.b<x.e/\¬ (x.b<=y.b/\y.e<=x.e)/\¬ (y.b<=x.b/\x.e<=y.e))
theorem noX.symm {x y:Iv} (h:noX x y):noX y x:=λ e k=>h e.symm ⟨k.2.1,k.1,k.2.2.2,k.2.2.1⟩
theorem noX.ends {x y:Iv} (h:x.e<=y.b):noX x y:=λ _ k=>by omega
structure okTx (n:Int) (l:List Iv):Prop where
 nm:∀ x∈l,bC x.nm=true/\okPs x.ps/\0<=x.b/\x.b<x.e/\x.e<=n
 nd:∀ (i j:Nat) x y,l[i]? =some x->l[j]? =some y->j<i->y.nm≠x.nm
 first:∀ x,l[0]? =some x->x.b=0
 next:∀ (i:Nat) x y,l[i]? =some x->l[i+1]? =some y->y.b=x.e
 last:∀ (i:Nat) x,l[i]? =some x->i+1=l.length->x.e=n
 none_:l=[]↔n=0
def inT (l:List Iv) (b e:Int):Prop:=∃ t∈l,t.b<=b/\b<e/\e<=t.e
structure okRg (tx rg:List Iv):Prop where
 el:∀ x∈rg,bC x.nm=true/\inT tx x.b x.e/\okPs x.ps
 asc:∀ (i:Nat) x y,rg[i]? =some x->rg[i+1]? =some y->ep x y<=0
 nox:∀ x∈rg,∀ y∈rg,noX x y
structure okNd (tx:List Iv) (nd:List Nd):Prop where
 el:∀ x∈nd,bC x.nm=true/\inT tx x.b x.e
 par:∀ (i:Nat) x,nd[i]? =some x->x.p= -1\/(x.p+1=i/\0<i/\∀ y,nd[i-1]? =some y->y.p= -1/\y.b<=x.b/\x.e<=y.e)
 sib:∀ (s i:Nat) x y,nd[s]? =some y->nd[i]? =some x->s<i->y.p=x.p->y.e<=x.b
structure okHd (n:Nat) (tx:List Iv) (hd:List Int) (rl:List ByteArray):Prop where
 len:hd.length=n/\rl.length=n
 bare:∃ i:Nat,(∃ h,hd[i]? =some h/\h≠-1)\/∃ s,rl[i]? =some s/\s≠ByteArray.empty
 el:∀ (i:Nat) h,hd[i]? =some h->h= -1\/∃ t∈tx,t.b<=i/\(i:Int)<t.e/\t.b<=h/\h<t.e
 nm:∀ s∈rl,s=ByteArray.empty\/bC s=true
 rk:∃ rank:Nat->Nat,∀ (i:Nat) h,hd[i]? =some h->0<=h->rank h.toNat<rank i
def oI:List ByteArray:=[ByteArray.mk #[97],ByteArray.mk #[98],ByteArray.mk #[99],ByteArray.mk #[65],ByteArray.mk #[97,98],ByteArray.mk #[]]
def u4:List ByteArray:=[ByteArray.mk #[88],ByteArray.mk #[89]]
def mr:List ByteArray:=[ByteArray.mk #[124],ByteArray.mk #[124,112,124],ByteArray.mk #[124,112,124,113,124],ByteArray.mk #[124,113,124]]
def Jl:Nat->List ByteArray
 |0=>oI++[ByteArray.mk #[120]]
 |1=>u4
 |_=>mr
theorem G4 (i:Nat):(Jl i).length<=7:=by
 unfold Jl
 split<;>decide
structure OkC (k:Nat) (c:Co):Prop where
 at_:atsOk c.at_
 voc:∀ t∈c.tk,∀ (i:Nat) v,t.ns[i]? =some v->v∈Jl i
 tk:∀ t∈c.tk,t.ns.length=c.at_.length/\∀ (i:Nat) v a,t.ns[i]? =some v->c.at_[i]? =some a->okV a v
 tx:okTx c.tk.length c.tx
 rg:okRg c.tx c.rg
 nd:okNd c.tx c.nd
 hd:(c.hd=[]/\c.rl=[])\/okHd c.tk.length c.tx c.hd c.rl
 ntk:c.tk.length<=12*k
 ntx:c.tx.length<=k
 nrg:c.rg.length<=8*k
 nnd:c.nd.length<=8*k
def l0 (n:Int) (x:Iv):Iv:={x with b:=x.b+n,e:=x.e+n}
def zf (n m:Int) (x:Nd):Nd:={x with b:=x.b+n,e:=x.e+n,p:=if 0<=x.p then x.p+m else x.p}
def vN (n:Int) (h:Int):Int:=if 0<=h then h+n else h
def jh (c:Co):List Int:=if 0<c.hd.length then c.hd else List.replicate c.tk.length (-1)
def kf (c:Co):List ByteArray:=if 0<c.hd.length then c.rl else List.replicate c.tk.length ByteArray.empty
structure IsCat (a b c:Co):Prop where
 at_:c.at_=a.at_
 tk:c.tk=a.tk++b.tk
 tx:c.tx=a.tx++b.tx.map (l0 a.tk.length)
 rg:c.rg=a.rg++b.rg.map (l0 a.tk.length)
 nd:c.nd=a.nd++b.nd.map (zf a.tk.length a.nd.length)
 hd:(0<a.hd.length+b.hd.length/\c.hd=jh a++(jh b).map (vN a.tk.length)/\c.rl=kf a++kf b)\/(a.hd.length+b.hd.length=0/\c.hd=[]/\c.rl=[])
theorem nG {α:Type} {l r:List α} {i:Nat} {x:α} (h:(l++r)[i]? =some x):(i<l.length/\l[i]? =some x)\/(l.length<=i/\r[i-l.length]? =some x):=by
 rcases Q1 i l.length with h1|h1
 ·rw [Q4 h1] at h;exact .inl ⟨h1,h⟩
 ·rw [Qb h1] at h;exact .inr ⟨h1,h⟩
theorem ct {α β:Type} {l:List β} {r:List α} {f:α->β} {i:Nat} {x:β} (h:(l++r.map f)[i]? =some x):(i<l.length/\l[i]? =some x)\/(l.length<=i/\∃ y,r[i-l.length]? =some y/\x=f y):=by
 rcases nG h with h|⟨h1,h2⟩
 ·exact .inl h
 ·rw [PX,QI] at h2
  obtain ⟨y,hy,rfl⟩:=h2
  exact .inr ⟨h1,y,hy,rfl⟩
theorem fx {α β:Type} {l:List β} {r:List α} {f:α->β} {x:β} (h:x∈l++r.map f):x∈l\/∃ y∈r,x=f y:=by
 rcases PT.1 h with h|h
 ·exact .inl h
 ·obtain ⟨y,hy,rfl⟩:=Qn.1 h
  exact .inr ⟨y,hy,rfl⟩
theorem di {α:Type} {l:List α} {i:Nat} {x:α} (h:l[i]? =some x):x∈l:=PO h
theorem Jm (n:Int) (x y:Iv):ep (l0 n x) (l0 n y)=ep x y:=by
 have e:∀ a b:Int,dS (a+n) (b+n)=dS a b:=λ a b=>by
  unfold dS
  by_cases h1:a<b
  ·rw [PI h1,PI (by omega)]
  ·rw [M2 h1,M2 (by omega)]
   by_cases h2:b<a
   ·rw [PI h2,PI (by omega)]
   ·rw [M2 h2,M2 (by omega)]
 unfold ep l0
 simp only [e]
theorem okTx.cat {n m:Nat} {l r:List Iv} (hl:okTx n l) (hr:okTx m r) (hd:∀ x∈r,∀ y∈l,y.nm≠x.nm):okTx ((n+m:Nat):Int) (l++r.map (l0 n)) where
 nm x hx:=by
  rcases fx hx with h|⟨y,hy,rfl⟩
  ·have:=hl.nm x h;exact ⟨this.1,this.2.1,this.2.2.1,this.2.2.2.1,by have:=this.2.2.2.2;omega⟩
  ·have:=hr.nm y hy;exact ⟨this.1,this.2.1,by unfold l0;simp only;omega,by unfold l0;simp only;omega,by unfold l0;simp only;omega⟩
 nd i j x y hx hy hji:=by
  rcases ct hx with ⟨h1,h2⟩|⟨h1,z,hz,rfl⟩
  ·rcases ct hy with ⟨h3,h4⟩|⟨h3,z',hz',rfl⟩
   ·exact hl.nd i j x y h2 h4 hji
   ·omega
  ·rcases ct hy with ⟨h3,h4⟩|⟨h3,z',hz',rfl⟩
   ·exact hd z (di hz) y (di h4)
   ·exact hr.nd _ _ z z' hz hz' (by omega)
 first x hx:=by
  rcases ct hx with ⟨h1,h2⟩|⟨h1,z,hz,rfl⟩
  ·exact hl.first x h2
  ·have h0:l=[]:=Q2 (by omega)
   have:=hl.none_.1 h0
   rw [h0] at hz
   have:=hr.first z hz
   unfold l0;simp only;omega
 next i x y hx hy:=by
  rcases ct hx with ⟨h1,h2⟩|⟨h1,z,hz,rfl⟩
  ·rcases ct hy with ⟨h3,h4⟩|⟨h3,z',hz',rfl⟩
   ·exact hl.next i x y h2 h4
   ·have e1:=hl.last i x h2 (by omega)
    have:i+1-l.length=0:=by omega
    rw [this] at hz'
    have:=hr.first z' hz'
    unfold l0;simp only;omega
  ·rcases ct hy with ⟨h3,h4⟩|⟨h3,z',hz',rfl⟩
   ·omega
   ·have e:i+1-l.length=i-l.length+1:=by omega
    rw [e] at hz'
    have:=hr.next _ z z' hz hz'
    unfold l0;simp only;omega
 last i x hx hi:=by
  simp only [sp,No] at hi
  rcases ct hx with ⟨h1,h2⟩|⟨h1,z,hz,rfl⟩
  ·have h0:r=[]:=Q2 (by omega)
   have:=hr.none_.1 h0
   have:=hl.last i x h2 (by omega)
   omega
  ·have:=hr.last _ z hz (by omega)
   unfold l0;simp only;omega
 none_:=by
  rw [append_eq_nil_iff,map_eq_nil_iff,hl.none_,hr.none_]
  omega
theorem inT.left {l r:List Iv} {b e:Int} (h:inT l b e):inT (l++r) b e:=let ⟨t,ht,h'⟩:=h;⟨t,R3 _ ht,h'⟩
theorem inT.right {l r:List Iv} {n b e:Int} (h:inT r b e):inT (l++r.map (l0 n)) (b+n) (e+n):=let ⟨t,ht,h1,h2,h3⟩:=h
 ⟨l0 n t,QQ _ (Qv ht),by unfold l0;simp only;omega,by omega,by unfold l0;simp only;omega⟩
theorem inT.bd {n b e:Int} {l:List Iv} (h:inT l b e) (ho:okTx n l):0<=b/\b<e/\e<=n:=by
 obtain ⟨t,ht,h1,h2,h3⟩:=h
 have:=(ho.nm t ht).2.2
 omega
theorem okRg.cat {n m:Nat} {l r tl tr:List Iv} (ht:okTx n tl) (hs:okTx m tr) (hl:okRg tl l) (hr:okRg tr r):okRg (tl++tr.map (l0 n)) (l++r.map (l0 n)) where
 el x hx:=by
  rcases fx hx with h|⟨y,hy,rfl⟩
  ·have:=hl.el x h;exact ⟨this.1,this.2.1.left,this.2.2⟩
  ·have:=hr.el y hy;exact ⟨this.1,this.2.1.right,this.2.2⟩
 asc i x y hx hy:=by
  rcases ct hx with ⟨h1,h2⟩|⟨h1,z,hz,rfl⟩
  ·rcases ct hy with ⟨h3,h4⟩|⟨h3,z',hz',rfl⟩
   ·exact hl.asc i x y h2 h4
   ·have e1:=(hl.el x (di h2)).2.1.bd ht
    have e2:=(hr.el z' (di hz')).2.1.bd hs
    rw [Jk (by unfold l0;simp only;omega)];omega
  ·rcases ct hy with ⟨h3,h4⟩|⟨h3,z',hz',rfl⟩
   ·omega
   ·have e:i+1-l.length=i-l.length+1:=by omega
    rw [e] at hz'
    rw [Jm];exact hr.asc _ z z' hz hz'
 nox x hx y hy:=by
  rcases fx hx with h|⟨z,hz,rfl⟩
  ·rcases fx hy with h'|⟨z',hz',rfl⟩
   ·exact hl.nox x h y h'
   ·have e1:=(hl.el x h).2.1.bd ht
    have e2:=(hr.el z' hz').2.1.bd hs
    exact .ends (by unfold l0;simp only;omega)
  ·rcases fx hy with h'|⟨z',hz',rfl⟩
   ·have e1:=(hl.el y h').2.1.bd ht
    have e2:=(hr.el z hz).2.1.bd hs
    exact noX.symm (.ends (by unfold l0;simp only;omega))
   ·intro e k
    exact hr.nox z hz z' hz' e (by unfold l0 at k;simp only at k;omega)
theorem okNd.cat {n m:Nat} {l r:List Nd} {tl tr:List Iv} (ht:okTx n tl) (hs:okTx m tr) (hl:okNd tl l) (hr:okNd tr r):okNd (tl++tr.map (l0 n)) (l++r.map (zf n l.length)) where
 el x hx:=by
  rcases fx hx with h|⟨y,hy,rfl⟩
  ·have:=hl.el x h;exact ⟨this.1,this.2.left⟩
  ·have:=hr.el y hy;exact ⟨this.1,this.2.right⟩
 par i x hx:=by
  rcases ct hx with ⟨h1,h2⟩|⟨h1,z,hz,rfl⟩
  ·rcases hl.par i x h2 with h|⟨h,h0,hp⟩
   ·exact .inl h
   ·refine .inr ⟨h,h0,λ y hy=>hp y ?_⟩
    rw [Q4 (by omega)] at hy;exact hy
  ·rcases hr.par _ z hz with h|⟨h,h0,hp⟩
   ·exact .inl (by unfold zf;simp only;rw [M2 (by omega)];exact h)
   ·refine .inr ⟨by unfold zf;simp only;rw [PI (by omega)];omega,by omega,λ y hy=> ?_⟩
    rcases ct hy with ⟨h3,_⟩|⟨h3,z',hz',rfl⟩
    ·omega
    ·have e:i-1-l.length=i-l.length-1:=by omega
     rw [e] at hz'
     have:=hp z' hz'
     unfold zf;simp only
     rw [M2 (by omega)]
     omega
 sib s i x y hy hx hsi hp:=by
  rcases ct hx with ⟨h1,h2⟩|⟨h1,z,hz,rfl⟩
  ·rcases ct hy with ⟨h3,h4⟩|⟨h3,z',hz',rfl⟩
   ·exact hl.sib s i x y h4 h2 hsi hp
   ·omega
  ·rcases ct hy with ⟨h3,h4⟩|⟨h3,z',hz',rfl⟩
   ·have e1:=(hl.el y (di h4)).2.bd ht
    have e2:=(hr.el z (di hz)).2.bd hs
    unfold zf;simp only;omega
   ·have q:=hr.sib _ _ z z' hz' hz (by omega) (by
     unfold zf at hp;simp only at hp
     have a1:=hr.par _ z hz
     have a2:=hr.par _ z' hz'
     split at hp<;>split at hp<;>omega)
    unfold zf;simp only;omega
structure okHw (n:Nat) (tx:List Iv) (hd:List Int) (rl:List ByteArray):Prop where
 len:hd.length=n/\rl.length=n
 el:∀ (i:Nat) h,hd[i]? =some h->h= -1\/∃ t∈tx,t.b<=i/\(i:Int)<t.e/\t.b<=h/\h<t.e
 nm:∀ s∈rl,s=ByteArray.empty\/bC s=true
 rk:∃ rank:Nat->Nat,∀ (i:Nat) h,hd[i]? =some h->0<=h->rank h.toNat<rank i
theorem okHw.none (n:Nat) (tx:List Iv):okHw n tx (List.replicate n (-1)) (List.replicate n ByteArray.empty):=by
 have e:∀ (i:Nat) (h:Int),(List.replicate n (-1:Int))[i]? =some h->h= -1:=λ i h hi=>(Rj (di hi))
 exact ⟨by simp,λ i h hi=> .inl (e i h hi),λ s hs=> .inl (Rj hs),λ _=>0,λ i h hi h0=>by have:=e i h hi;omega⟩
theorem okHw.cat {n m:Nat} {tl tr:List Iv} {hl hr:List Int} {rl rr:List ByteArray} (ht:okTx n tl) (hs:okTx m tr) (hL:okHw n tl hl rl) (hR:okHw m tr hr rr):okHw (n+m) (tl++tr.map (l0 n)) (hl++hr.map (vN n)) (rl++rr) where
 len:=by simp [hL.len,hR.len]
 el i h hi:=by
  rcases ct hi with ⟨h1,h2⟩|⟨h1,z,hz,rfl⟩
  ·rcases hL.el i h h2 with h|⟨t,ht',h3⟩
   ·exact .inl h
   ·exact .inr ⟨t,R3 _ ht',h3⟩
  ·rw [hL.len.1] at h1 hz
   rcases hR.el _ z hz with h|⟨t,ht',h3,h4,h5,h6⟩
   ·exact .inl (by unfold vN;rw [M2 (by omega)];exact h)
   ·have h0:=(hs.nm t ht').2.2.1
    refine .inr ⟨l0 n t,QQ _ (Qv ht'),?_⟩
    unfold vN l0
    rw [PI (by omega)]
    simp only
    omega
 nm s hs':=by
  rcases PT.1 hs' with h|h
  ·exact hL.nm s h
  ·exact hR.nm s h
 rk:=by
  obtain ⟨ra,hra⟩:=hL.rk
  obtain ⟨rb,hrb⟩:=hR.rk
  refine ⟨λ i=>if i<n then ra i else rb (i-n),λ i h hi h0=> ?_⟩
  rcases ct hi with ⟨h1,h2⟩|⟨h1,z,hz,rfl⟩
  ·have:=hra i h h2 h0
   have hin:h<(n:Int):=by
    rcases hL.el i h h2 with e|⟨t,ht',h3⟩
    ·omega
    ·have:=(ht.nm t ht').2.2.2.2;omega
   rw [hL.len.1] at h1
   show (if h.toNat<n then ra h.toNat else rb (h.toNat-n))<if i<n then ra i else rb (i-n)
   rw [PI (by omega),PI h1];exact this
  ·rw [hL.len.1] at h1 hz
   have hz0:0<=z:=by unfold vN at h0;split at h0<;>omega
   have:=hrb _ z hz hz0
   have e:vN n z=z+n:=by unfold vN;rw [PI hz0]
   show (if (vN n z).toNat<n then ra (vN n z).toNat else rb ((vN n z).toNat-n))<if i<n then ra i else rb (i-n)
   rw [e,M2 (by omega),M2 (by omega)]
   have e2:(z+(n:Int)).toNat-n=z.toNat:=by omega
   rw [e2];exact this
theorem OkC.hw {k:Nat} {c:Co} (h:OkC k c):okHw c.tk.length c.tx (jh c) (kf c):=by
 unfold jh kf
 rcases h.hd with ⟨h1,h2⟩|h1
 ·rw [h1,M2 (by simp),M2 (by simp)];exact .none _ _
 ·by_cases h0:0<c.hd.length
  ·rw [PI h0,PI h0];exact ⟨h1.len,h1.el,h1.nm,h1.rk⟩
  ·rw [M2 h0,M2 h0];exact .none _ _
theorem OkC.cat {j k:Nat} {a b c:Co} (ha:OkC j a) (hb:OkC k b) (he:a.at_=b.at_) (hd:∀ x∈b.tx,∀ y∈a.tx,y.nm≠x.nm) (hc:IsCat a b c):OkC (j+k) c where
 at_:=hc.at_▸ha.at_
 tk t ht:=by
  rw [hc.tk] at ht
  rw [hc.at_]
  rcases PT.1 ht with h|h
  ·exact ha.tk t h
  ·rw [he];exact hb.tk t h
 voc t ht:=by
  rw [hc.tk] at ht
  rcases PT.1 ht with h|h
  ·exact ha.voc t h
  ·exact hb.voc t h
 tx:=by rw [hc.tk,hc.tx,sp];exact ha.tx.cat hb.tx hd
 rg:=by rw [hc.tx,hc.rg];exact okRg.cat ha.tx hb.tx ha.rg hb.rg
 nd:=by rw [hc.tx,hc.nd];exact okNd.cat ha.tx hb.tx ha.nd hb.nd
 hd:=by
  rcases hc.hd with ⟨h0,h1,h2⟩|⟨_,h1,h2⟩
  ·right
   have hw:=okHw.cat ha.tx hb.tx ha.hw hb.hw
   rw [hc.tk,hc.tx,h1,h2,sp]
   refine ⟨hw.len,?_,hw.el,hw.nm,hw.rk⟩
   rcases Q1 0 a.hd.length with h3|h3
   ·rcases ha.hd with ⟨h4,_⟩|h4
    ·rw [h4] at h3;simp at h3
    ·obtain ⟨i,⟨h,hi,hne⟩|⟨s,hi,hne⟩⟩:=h4.bare
     ·refine ⟨i,.inl ⟨h,?_,hne⟩⟩
      unfold jh;rw [PI h3,Q4 (AT.1 hi).1];exact hi
     ·refine ⟨i,.inr ⟨s,?_,hne⟩⟩
      unfold kf;rw [PI h3,Q4 (AT.1 hi).1];exact hi
   ·have h3':0<b.hd.length:=by omega
    rcases hb.hd with ⟨h4,_⟩|h4
    ·rw [h4] at h3';simp at h3'
    ·obtain ⟨i,⟨h,hi,hne⟩|⟨s,hi,hne⟩⟩:=h4.bare
     ·refine ⟨a.tk.length+i,.inl ⟨vN a.tk.length h,?_,?_⟩⟩
      ·rw [Qb (by rw [ha.hw.len.1];omega),ha.hw.len.1,QG,PX]
       unfold jh;rw [PI h3',hi];rfl
      ·unfold vN
       rcases h4.el i h hi with e|⟨t,ht,e⟩
       ·exact absurd e hne
       ·have:=(hb.tx.nm t ht).2.2.1
        rw [PI (by omega)];omega
     ·refine ⟨a.tk.length+i,.inr ⟨s,?_,hne⟩⟩
      rw [Qb (by rw [ha.hw.len.2];omega),ha.hw.len.2,QG]
      unfold kf;rw [PI h3',hi]
  ·exact .inl ⟨h1,h2⟩
 ntk:=by rw [hc.tk,sp];have:=ha.ntk;have:=hb.ntk;omega
 ntx:=by rw [hc.tx,sp,No];have:=ha.ntx;have:=hb.ntx;omega
 nrg:=by rw [hc.rg,sp,No];have:=ha.nrg;have:=hb.nrg;omega
 nnd:=by rw [hc.nd,sp,No];have:=ha.nnd;have:=hb.nnd;omega
def Au (l:List Iv):Prop:=∀ (i:Nat) x y,l[i]? =some x->l[i+1]? =some y->ep x y<=0
theorem G5:Au []:=λ i x y h=>by simp at h
theorem G6 {m:List Iv} {x:Iv} {k:Nat} (h:Au m) (hk:k<=m.length) (h1:∀ y,0<k->m[k-1]? =some y->ep y x<=0) (h2:∀ y,m[k]? =some y->0<ep y x):Au (m.take k++x::m.drop k):=by
 have hl:(m.take k).length=k:=by rw [KV];omega
 intro i a b ha hb
 rcases nG ha with ⟨c1,c2⟩|⟨c1,c2⟩
 ·rw [hl] at c1
  rw [QE,PI (by omega)] at c2
  rcases nG hb with ⟨d1,d2⟩|⟨d1,d2⟩
  ·rw [hl] at d1
   rw [QE,PI (by omega)] at d2
   exact h i a b c2 d2
  ·rw [hl] at d1 d2
   have e:i+1-k=0:=by omega
   rw [e] at d2
   cases d2
   have e2:k-1=i:=by omega
   exact h1 a (by omega) (e2▸c2)
 ·rw [hl] at c1 c2
  rcases nG hb with ⟨d1,d2⟩|⟨d1,d2⟩
  ·rw [hl] at d1;omega
  ·rw [hl] at d1 d2
   rcases QF (i-k) with e|e
   ·rw [e] at c2;cases c2
    have e2:i+1-k=1:=by omega
    rw [e2] at d2
    simp only [T5,QZ,R8] at d2
    have:=h2 b d2
    rw [Dx];omega
   ·obtain ⟨j,hj⟩:∃ j,i-k=j+1:=⟨i-k-1,by omega⟩
    have e2:i+1-k=j+2:=by omega
    rw [hj] at c2;rw [e2] at d2
    simp only [T5,QZ] at c2 d2
    exact h _ a b c2 (by rw [Rn];exact d2)
theorem G7 {α:Type} (m l:List α) (x:α) (k:Nat) (h:m.Perm l):(m.take k++x::m.drop k).Perm (l++[x]):=by
 have h1:(m.take k++x::m.drop k).Perm (x::m):=by
  refine TZ.trans ?_
  rw [Qc]
 refine h1.trans ((h.cons x).trans ?_)
 exact (perm_append_singleton x l).symm
structure ndI (at_:Int) (l:List Nd):Prop where
 el:∀ x∈l,bC x.nm=true/\0<=x.b/\x.b<x.e/\x.e<=at_
 par:∀ (i:Nat) x,l[i]? =some x->x.p= -1\/(x.p+1=i/\0<i/\∀ y,l[i-1]? =some y->y.p= -1/\y.b<=x.b/\x.e<=y.e)
 sib:∀ (s i:Nat) x y,l[s]? =some y->l[i]? =some x->s<i->y.p=x.p->y.e<=x.b
theorem Jn (z:Int):ndI z []:=⟨by simp,by simp,by simp⟩
theorem fy {α:Type} {l:List α} {i:Nat} {x y:α} (h:(l++[y])[i]? =some x):(i<l.length/\l[i]? =some x)\/(i=l.length/\x=y):=by
 rcases nG h with h|⟨h1,h2⟩
 ·exact .inl h
 ·have:=(AT.1 h2).1
  have e:i-l.length=0:=by simp at this;omega
  rw [e] at h2;cases h2
  exact .inr ⟨by omega,rfl⟩
theorem ndI.top {at_ b e:Int} {l:List Nd} {nm:ByteArray} (h:ndI at_ l) (hn:bC nm=true) (h0:0<=at_) (h1:at_<=b) (h2:b<e):ndI e (l++[⟨nm,b,e,-1⟩]) where
 el x hx:=by
  rcases PT.1 hx with hx|hx
  ·have:=h.el x hx;exact ⟨this.1,by omega,by omega,by omega⟩
  ·rw [Q0.1 hx];exact ⟨hn,by simp only;omega,h2,Tn _⟩
 par i x hx:=by
  rcases fy hx with ⟨c1,c2⟩|⟨c1,rfl⟩
  ·rcases h.par i x c2 with q|⟨q1,q2,q3⟩
   ·exact .inl q
   ·exact .inr ⟨q1,q2,λ y hy=>q3 y (by rw [Q4 (by omega)] at hy;exact hy)⟩
  ·exact .inl rfl
 sib s i x y hy hx hsi hp:=by
  rcases fy hx with ⟨c1,c2⟩|⟨c1,rfl⟩
  ·rcases fy hy with ⟨d1,d2⟩|⟨d1,rfl⟩
   ·exact h.sib s i x y d2 c2 hsi hp
   ·omega
  ·rcases fy hy with ⟨d1,d2⟩|⟨d1,rfl⟩
   ·have:=h.el y (di d2);simp only;omega
   ·omega
theorem ndI.Pj {at_ b e c d:Int} {l:List Nd} {nm lm:ByteArray} (h:ndI e (l++[⟨nm,b,e,-1⟩])) (hn:bC lm=true) (h1:b<=c) (h2:c<d) (h3:d<=e):ndI e ((l++[⟨nm,b,e,-1⟩])++[⟨lm,c,d,l.length⟩]) where
 el x hx:=by
  rcases PT.1 hx with hx|hx
  ·exact h.el x hx
  ·rw [Q0.1 hx]
   have:=h.el ⟨nm,b,e,-1⟩ (by simp)
   exact ⟨hn,by simp only at this⊢;omega,h2,h3⟩
 par i x hx:=by
  rcases fy hx with ⟨c1,c2⟩|⟨c1,rfl⟩
  ·rcases h.par i x c2 with q|⟨q1,q2,q3⟩
   ·exact .inl q
   ·exact .inr ⟨q1,q2,λ y hy=>q3 y (by rw [Q4 (by omega)] at hy;exact hy)⟩
  ·simp only [sp,KM] at c1
   refine .inr ⟨by simp only;omega,by omega,λ y hy=> ?_⟩
   have e1:i-1=l.length:=by omega
   rw [e1,LW,Qb (KB _),Qp] at hy
   cases hy
   exact ⟨rfl,h1,h3⟩
 sib s i x y hy hx hsi hp:=by
  rcases fy hx with ⟨c1,c2⟩|⟨c1,rfl⟩
  ·rcases fy hy with ⟨d1,d2⟩|⟨d1,rfl⟩
   ·exact h.sib s i x y d2 c2 hsi hp
   ·omega
  ·rcases fy hy with ⟨d1,d2⟩|⟨d1,rfl⟩
   ·simp only [sp,KM] at c1 d1
    simp only at hp
    rcases h.par s y d2 with q|⟨q1,q2,_⟩<;>omega
   ·omega
theorem ndI.ok {at_ n:Int} {l:List Nd} {t:Iv} (h:ndI at_ l) (h1:at_<=n) (ht:t.b=0) (he:t.e=n):okNd [t] l:=
 ⟨λ x hx=>⟨(h.el x hx).1,t,by simp,by have:=h.el x hx;omega,by have:=h.el x hx;omega,by have:=h.el x hx;omega⟩,h.par,h.sib⟩
structure ordI (i:Nat) (o:List Nat):Prop where
 nd:o.Nodup
 len:o.length=i
 lt:∀ x∈o,x<i
 all:∀ x,x<i->x∈o
theorem G8:ordI 0 []:=⟨by simp,rfl,by simp,by simp⟩
theorem ordI.ins {i:Nat} {o:List Nat} (h:ordI i o) (k:Nat) (hk:k<=i):ordI (i+1) (o.take k++[i]++o.drop k):=by
 have hp:(o.take k++[i]++o.drop k).Perm (i::o):=by
  rw [LW,singleton_append]
  refine TZ.trans ?_
  rw [Qc]
 refine ⟨hp.nodup_iff.2 (TH.2 ⟨λ hm=>by have:=h.lt i hm;omega,h.nd⟩),by rw [hp.length_eq,KP,h.len],λ x hx=> ?_,λ x hx=>hp.mem_iff.2 (PR.2 ((Q1 x i).elim (λ q=> .inr (h.all x q)) λ q=> .inl (by omega)))⟩
 rcases PR.1 (hp.mem_iff.1 hx) with rfl|hx
 ·omega
 ·have:=h.lt x hx;omega
structure hdI (n:Nat) (o:List Nat) (j:Nat) (hd:List Int) (rl:List ByteArray) (some_:Bool):Prop where
 len:hd.length=n/\rl.length=n
 el:∀ (r x:Nat),r<j->o[r]? =some x->hd[x]? =some (-1)\/∃ (q y:Nat),q<r/\o[q]? =some y/\hd[x]? =some (y:Int)
 nm:∀ s∈rl,s=ByteArray.empty\/bC s=true
 bare:some_=true->∃ r x:Nat,r<j/\o[r]? =some x/\((∃ h,hd[x]? =some h/\h≠-1)\/∃ s,rl[x]? =some s/\s≠ByteArray.empty)
theorem Dy {n:Nat} {o:List Nat}:hdI n o 0 (List.replicate n 0) (List.replicate n ByteArray.empty) false:=
 ⟨by simp,λ r x h=>absurd h (by omega),λ s hs=> .inl (Rj hs),λ h=>by cases h⟩
theorem nH {α:Type} {l:List α} {i j:Nat} {x:α} (h:i<l.length):(l.set i x)[j]? =if i=j then some x else l[j]? :=by
 by_cases e:i=j
 ·subst e;rw [PI rfl,Qo h]
 ·rw [M2 e,Rv e]
theorem u5 {α:Type} {l:List α} (h:l.Nodup):∀ {i j:Nat} {x:α},l[i]? =some x->l[j]? =some x->i=j:=by
 induction l with
 |nil=>intro i j x hi;simp at hi
 |cons a l ih=>
  intro i j x hi hj
  obtain ⟨h1,h2⟩:=TH.1 h
  cases i with
  |zero=>
   cases j with
   |zero=>rfl
   |succ j=>simp at hi hj;subst hi;exact absurd (di hj) h1
  |succ i=>
   cases j with
   |zero=>simp at hi hj;subst hj;exact absurd (di hi) h1
   |succ j=>simp at hi hj;exact If (· +1) (ih h2 hi hj)
theorem hdI.step {n:Nat} {o:List Nat} {j x:Nat} {hd:List Int} {rl:List ByteArray} {s1 s2:Bool} (h:hdI n o j hd rl s1) (ho:ordI n o) (hx:o[j]? =some x) (v:Int) (s:ByteArray) (hv:v= -1\/∃ q y:Nat,q<j/\o[q]? =some y/\v=(y:Int)) (hs:s=ByteArray.empty\/bC s=true)
  (hb:s2=true->s1=true\/v≠-1\/s≠ByteArray.empty):hdI n o (j+1) (hd.set x v) (rl.set x s) s2:=by
 have hxn:=ho.lt x (di hx)
 have hne:∀ r y:Nat,r<j->o[r]? =some y->x≠y:=λ r y hr hy e=>by
  subst e
  have:=u5 ho.nd hx hy
  omega
 refine ⟨by simp [h.len],λ r y hr hy=> ?_,λ t ht=> ?_,λ h2=> ?_⟩
 ·rw [nH (by rw [h.len.1];exact hxn)]
  rcases Q1 r j with h3|h3
  ·rw [M2 (hne r y h3 hy)];exact h.el r y h3 hy
  ·have e:r=j:=by omega
   subst e
   rw [hx] at hy;cases hy
   rw [PI rfl]
   rcases hv with rfl|⟨q,z,hq,hz,rfl⟩
   ·exact .inl rfl
   ·exact .inr ⟨q,z,hq,hz,rfl⟩
 ·rcases R2 ht with ht|rfl
  ·exact h.nm t ht
  ·exact hs
 ·rcases hb h2 with h3|h3
  ·obtain ⟨r,y,hr,hy,h4⟩:=h.bare h3
   refine ⟨r,y,by omega,hy,?_⟩
   rw [nH (by rw [h.len.1];exact hxn),nH (by rw [h.len.2];exact hxn),M2 (hne r y hr hy),M2 (hne r y hr hy)]
   exact h4
  ·refine ⟨j,x,by omega,hx,?_⟩
   rw [nH (by rw [h.len.1];exact hxn),nH (by rw [h.len.2];exact hxn),PI rfl,PI rfl]
   rcases h3 with h3|h3
   ·exact .inl ⟨v,rfl,h3⟩
   ·exact .inr ⟨s,rfl,h3⟩
theorem hdI.ok {n:Nat} {o:List Nat} {hd:List Int} {rl:List ByteArray} {t:Iv} (h:hdI n o n hd rl true) (ho:ordI n o) (ht:t.b=0) (he:t.e=n):okHd n [t] hd rl where
 len:=h.len
 bare:=by
  obtain ⟨r,x,_,_,h4⟩:=h.bare rfl
  exact ⟨x,h4⟩
 el i v hi:=by
  have hin:=(AT.1 hi).1
  rw [h.len.1] at hin
  obtain ⟨r,hr⟩:=Qh (ho.all i hin)
  have hrn:=(AT.1 hr).1
  rw [ho.len] at hrn
  rcases h.el r i hrn hr with e|⟨q,y,hq,hy,e⟩
  ·rw [hi] at e;cases e;exact .inl rfl
  ·rw [hi] at e;cases e
   have:=ho.lt y (di hy)
   exact .inr ⟨t,by simp,by omega,by omega,by omega,by omega⟩
 nm:=h.nm
 rk:=by
  refine ⟨λ x=>o.idxOf x,λ i v hi h0=> ?_⟩
  have hin:=(AT.1 hi).1
  rw [h.len.1] at hin
  obtain ⟨r,hr⟩:=Qh (ho.all i hin)
  have hrn:=(AT.1 hr).1
  rw [ho.len] at hrn
  have ix:∀ (x k:Nat),o[k]? =some x->o.idxOf x=k:=λ x k hk=>by
   have hm:=di hk
   have hl:=idxOf_lt_length_of_mem hm
   have h5:o[o.idxOf x]? =some x:=by rw [py hl,getElem_idxOf hl]
   exact u5 ho.nd h5 hk
  show o.idxOf v.toNat<o.idxOf i
  rw [ix i r hr]
  rcases h.el r i hrn hr with e|⟨q,y,hq,hy,e⟩
  ·rw [hi] at e;cases e;omega
  ·rw [hi] at e;cases e
   show o.idxOf ((y:Int)).toNat<r
   rw [Rq,ix y q hy];exact hq
def vO (s:List UInt8):Bool:=s.all λ c=>decide (32<=c.toNat/\c.toNat<127)
theorem pz {s:List UInt8} (h:vO s=true):∀ (k i:Nat),s.length-i<=k->∀ u∈cY s i,32<=u.r/\u.r<127
 |0,i,hk,u,hu=>by rw [fc (by omega)] at hu;cases hu
 |k+1,i,hk,u,hu=>by
  rcases Q1 i s.length with hi|hi
  ·have hg:=Qt.1 h _ (SE hi)
   have hg:=Qw hg
   have hd:dec (s.drop i)=((s[i]).toNat,1):=by
    unfold dec
    have e:gb (s.drop i) 0=(s[i]).toNat:=by rw [nh,R8];unfold gb;rw [KW,py hi];rfl
    rw [e];unfold Lib.decodeN;rw [PI (by omega)]
   rw [gB hi,hd] at hu
   rcases PR.1 hu with rfl|hu
   ·exact ⟨hg.1,hg.2⟩
   ·exact pz h k _ (by omega) u hu
  ·rw [fc (by omega)] at hu;cases hu
theorem kg {s:ByteArray} (h1:s.size<=120) (h:vO s.data.toList=true):jf s=true:=by
 have hu:∀ u∈dR s.data.toList,32<=u.r/\u.r<127:=pz h _ 0 (KB _)
 unfold jf
 rw [PM h1,Tt,PY,PY]
 refine ⟨Qt.2 λ u hm=> ?_,Qt.2 λ u hm=> ?_,Qt.2 λ c hm=> ?_⟩
 ·have:=hu u hm
  unfold Un.ok
  rw [Bool.or_eq_true];left
  exact bne_iff_ne.2 (by omega)
 ·have:=hu u hm;exact PM ⟨by omega,by omega⟩
 ·have:=Qw (Qt.1 h c hm);exact PM ⟨this.1,by omega⟩
def jC:List (ByteArray×Bool):=[(ByteArray.mk #[119,111,114,100],false),(ByteArray.mk #[116,97,103],false),(ByteArray.mk #[102,101,97,116],true)]
theorem Dz:∀ s∈oI,jf s=true:=λ s hs=>by
 refine kg ?_ ?_
 ·exact (by decide:∀ s∈oI.map (·.size),s<=120) _ (Qv hs)
 ·exact (by decide:∀ s∈oI.map (λ s=>vO s.data.toList),s=true) _ (Qv (f:=λ s:ByteArray=>vO s.data.toList) hs)
theorem G9:∀ s∈u4,jf s=true:=λ s hs=>by
 refine kg ?_ ?_
 ·exact (by decide:∀ s∈u4.map (·.size),s<=120) _ (Qv hs)
 ·exact (by decide:∀ s∈u4.map (λ s=>vO s.data.toList),s=true) _ (Qv (f:=λ s:ByteArray=>vO s.data.toList) hs)
def LJ:List (List UInt8)->Bool
 |x::y::r=>decide (x<y)&&LJ (y::r)
 |_=>true
theorem ye:∀ (l:List (List UInt8)),LJ l=true->∀ (i:Nat) x y,l[i]? =some x->l[i+1]? =some y->x<y
 |[],_,i,x,y,hx,_=>by simp at hx
 |[a],_,i,x,y,_,hy=>by simp at hy
 |a::b::r,h,0,x,y,hx,hy=>by
  simp at hx hy;subst hx hy
  exact Qw (PY _ _▸h).1
 |a::b::r,h,i+1,x,y,hx,hy=>ye (b::r) (PY _ _▸h).2 i x y hx hy
def Jo (s:List UInt8):Bool:=decide (s[0]? =some 124)&&(decide (s[s.length-1]? =some 124)&&(((List.range s.length).all λ i=>decide (1<=i->s[i]? =some 124->(lx s i).1≠i))&&LJ (lx s s.length).2))
theorem Jp {s:ByteArray} (h:jf s=true) (ht:Jo s.data.toList=true):yd s:=by
 unfold Jo at ht
 simp only [PY,QC,Qt,SD] at ht
 obtain ⟨h1,h2,h3,h4⟩:=ht
 exact ⟨h,h1,h2,λ i hi hs=>h3 i (AT.1 hs).1 hi hs,ye _ h4⟩
theorem DA:∀ s∈mr,yd s:=λ s hs=>by
 refine Jp (kg ?_ ?_) ?_
 ·exact (by decide:∀ s∈mr.map (·.size),s<=120) _ (Qv hs)
 ·exact (by decide:∀ s∈mr.map (λ s=>vO s.data.toList),s=true) _ (Qv (f:=λ s:ByteArray=>vO s.data.toList) hs)
 ·exact (by decide:∀ s∈mr.map (λ s=>Jo s.data.toList),s=true) _ (Qv (f:=λ s:ByteArray=>Jo s.data.toList) hs)
theorem Ga:atsOk jC:=by
 refine ⟨λ i x hx=> ?_,by decide,by decide⟩
 have hi:=(AT.1 hx).1
 have hi:i<3:=hi
 rcases (by omega:i=0\/i=1\/i=2) with rfl|rfl|rfl<;>(cases hx;exact ⟨by decide,by decide⟩)
def LK (ns:List ByteArray):Prop:=∃ a b c,ns=[a,b,c]/\a∈oI/\b∈u4/\c∈mr
theorem Jq {ns:List ByteArray} (h:LK ns):ns.length=jC.length/\∀ (i:Nat) v a,ns[i]? =some v->jC[i]? =some a->okV a v:=by
 obtain ⟨a,b,c,rfl,ha,hb,hc⟩:=h
 refine ⟨rfl,λ i v x hv hx=> ?_⟩
 have hi:i<3:=(AT.1 hv).1
 rcases (by omega:i=0\/i=1\/i=2) with rfl|rfl|rfl
 ·cases hv;cases hx;exact ⟨λ _=>Dz _ ha,λ h=>by cases h⟩
 ·cases hv;cases hx;exact ⟨λ _=>G9 _ hb,λ h=>by cases h⟩
 ·cases hv;cases hx;exact ⟨(λ h=>by cases h),λ _=>DA _ hc⟩
def Py (n:Int) (x:Iv):Prop:=bC x.nm=true/\okPs x.ps/\0<=x.b/\x.b<x.e/\x.e<=n
theorem LL {c:Co} {n:Nat} {t:Iv} {at_:Int} (h0:0<n) (h1:n<=12) (ha:c.at_=jC) (hl:c.tk.length=n) (hk:∀ t∈c.tk,LK t.ns) (hx:c.tx=[t]) (tb:t.b=0) (te:t.e=n) (tn:bC t.nm=true) (tp:okPs t.ps)
  (hr:∀ x∈c.rg,Py n x) (hs:Au c.rg) (hX:∀ x∈c.rg,∀ y∈c.rg,noX x y) (hm:c.rg.length<=8) (hn:ndI at_ c.nd) (hat:at_<=n) (hnl:c.nd.length<=8) (hh:(c.hd=[]/\c.rl=[])\/okHd n [t] c.hd c.rl):OkC 1 c where
 at_:=ha▸Ga
 tk t ht:=by rw [ha];exact Jq (hk t ht)
 voc t ht i v hv:=by
  obtain ⟨a,b,e,h9,h1,h2,h3⟩:=hk t ht
  rw [h9] at hv
  have hi:i<3:=(AT.1 hv).1
  rcases (by omega:i=0\/i=1\/i=2) with rfl|rfl|rfl
  ·cases hv;exact R3 _ h1
  ·cases hv;exact h2
  ·cases hv;exact h3
 tx:=by
  rw [hx,hl]
  have g1:∀ {i:Nat} {x:Iv},[t][i]? =some x->i=0/\x=t:=λ {i x} h=>by
   cases i with
   |zero=>cases h;exact ⟨rfl,rfl⟩
   |succ i=>simp at h
  refine ⟨λ x hx=> ?_,λ i j x y hx hy hji=> ?_,λ x h=>(g1 h).2▸tb,λ i x y hx hy=> ?_,λ i x h _=>(g1 h).2▸te,?_⟩
  ·rw [Q0.1 hx];exact ⟨tn,tp,by omega,by omega,by omega⟩
  ·have:=g1 hx;omega
  ·have:=g1 hy;omega
  ·constructor
   ·intro h;cases h
   ·intro h;omega
 rg:=by
  rw [hx]
  refine ⟨λ x hm=> ?_,hs,hX⟩
  have:=hr x hm
  exact ⟨this.1,⟨t,by simp,by have:=this.2.2;omega,by have:=this.2.2;omega,by have:=this.2.2;omega⟩,this.2.1⟩
 nd:=hx▸hn.ok (by omega) tb te
 hd:=by rw [hl,hx];exact hh
 ntk:=by omega
 ntx:=by rw [hx];exact KB _
 nrg:=by omega
 nnd:=by omega
def nI:Nat->Nat->List Nat
 |0,v=>[v%256]
 |f+1,v=>if v<128 then [v%256] else (v%256|||128)::nI f (v/128)
def uv (v:Nat):List Nat:=nI 9 v
theorem yf:∀ (f v:Nat),v<128^(f+1)->nI (f+1) v=nI f v
 |0,v,h=>by simp only [nI];rw [PI (by omega)]
 |f+1,v,h=>by
  have h2:v/128<128^(f+1):=by rw [QY] at h;omega
  rw [nI]
  conv=>rhs;rw [nI]
  rw [yf f (v/128) h2]
theorem BM (v:Nat) (hv:v<2^64) (h:128<=v):uv v=(v%2^8|||128)::uv (v/2^7):=by
 unfold uv
 rw [yf 8 (v/2^7) (by omega)]
 rw [nI,M2 (by omega)]
theorem yg (v:Nat) (h:v<128):uv v=[v%2^8]:=by unfold uv;rw [nI,PI h]
theorem Gb:∀ (f v:Nat),(nI f v).length<=f+1
 |0,v=>by simp [nI]
 |f+1,v=>by
  rw [nI];split
  ·simp
  ·simp;exact Gb f _
theorem aD (v:Nat):(uv v).length<=10:=Gb 9 v
theorem Jr:∀ (f v:Nat),1<=(nI f v).length
 |0,v=>by simp [nI]
 |f+1,v=>by rw [nI];split<;>simp
theorem Gc (v:Nat):1<=(uv v).length:=Jr 9 v
theorem Gd:∀ (f v:Nat),∀ x∈nI f v,x<256
 |0,v=>by simp [nI];omega
 |f+1,v=>by
  rw [nI];split
  ·simp;omega
  ·intro x hx
   rcases PR.1 hx with rfl|hx
   ·exact SC (n:=8) (by omega) (by omega)
   ·exact Gd f _ x hx
theorem dd (v:Nat):∀ x∈uv v,x<256:=Gd 9 v
def fL (b:Bool) (m:Nat):Nat:=if b then m else 0
def cI (l:List Bool) (i:Nat):Bool:=l.getD i false
def cA (l:List Bool) (k:Nat):Nat:=
 fL (cI l (8*k)) 128|||(fL (cI l (8*k+1)) 64|||(fL (cI l (8*k+2)) 32|||(fL (cI l (8*k+3)) 16|||
  (fL (cI l (8*k+4)) 8|||(fL (cI l (8*k+5)) 4|||(fL (cI l (8*k+6)) 2|||fL (cI l (8*k+7)) 1))))))
def aH (l:List Bool):List Nat:=(List.range ((l.length+7)/8)).map (cA l)
theorem bc (l:List Bool):(aH l).length=(l.length+7)/8:=by simp [aH]
theorem rK (l:List Bool) (x:Bool) (i:Nat):cI (l++[x]) i=if i=l.length then x else cI l i:=by
 unfold cI
 simp only [KW]
 rcases Sj i l.length with h|h|h
 ·rw [Q4 h,M2 (by omega)]
 ·subst h;simp
 ·rw [M2 (by omega),Q3 (by simp;omega),Q3 (by omega)]
theorem dU (l:List Bool) (i:Nat) (h:l.length<=i):cI l i=false:=by
 unfold cI;rw [KW,Q3 h];rfl
theorem fz (l:List Bool) (x:Bool) (k:Nat):cA (l++[x]) k=if k=l.length/8 then cA l k|||fL x (128/2^(l.length%8)) else cA l k:=by
 by_cases hk:k=l.length/8
 ·rw [PI hk]
  have hr:l.length%8<8:=RY _ (by decide)
  have hn:l.length=8*k+l.length%8:=by omega
  have out:∀ j,l.length%8<=j->cI l (8*k+j)=false:=λ j hj=>dU l _ (by omega)
  unfold cA
  simp only [rK]
  have z0:=out 0;have z1:=out 1;have z2:=out 2;have z3:=out 3;have z4:=out 4;have z5:=out 5;have z6:=out 6;have z7:=out 7
  rw [R8] at z0
  generalize l.length%8=r at*
  have hcase:r=0\/r=1\/r=2\/r=3\/r=4\/r=5\/r=6\/r=7:=by omega
  rcases hcase with rfl|rfl|rfl|rfl|rfl|rfl|rfl|rfl<;>
   simp [hn,z0,z1,z2,z3,z4,z5,z6,z7,fL,Nat.or_assoc]
 ·rw [M2 hk]
  have e:∀ j,j<8->cI (l++[x]) (8*k+j)=cI l (8*k+j):=λ j hj=>by rw [rK,M2 (by omega)]
  unfold cA
  rw [show cI (l++[x]) (8*k)=cI l (8*k) from e 0 (by omega),e 1 (by omega),e 2 (by omega),e 3 (by omega),e 4 (by omega),e 5 (by omega),e 6 (by omega),e 7 (by omega)]
theorem rL (l:List Bool) (k:Nat) (h:l.length<=8*k):cA l k=0:=by
 unfold cA
 simp [dU l (8*k) (by omega),dU l (8*k+1) (by omega),dU l (8*k+2) (by omega),dU l (8*k+3) (by omega),dU l (8*k+4) (by omega),dU l (8*k+5) (by omega),
  dU l (8*k+6) (by omega),dU l (8*k+7) (by omega),fL]
theorem l1 (l:List Bool) (k:Nat):cA l k<256:=by
 have h:∀ (b:Bool) (m:Nat),m<256->fL b m<2^8:=λ b m hm=>by cases b<;>simp [fL,hm]
 unfold cA
 have:=λ a b (h1:a<2^8) (h2:b<2^8)=>SC h1 h2
 exact this _ _ (h _ _ (by decide)) (this _ _ (h _ _ (by decide)) (this _ _ (h _ _ (by decide)) (this _ _ (h _ _ (by decide)) (this _ _ (h _ _ (by decide)) (this _ _ (h _ _ (by decide)) (this _ _ (h _ _ (by decide)) (h _ _ (by decide))))))))
theorem kj (l:List Bool):∀ x∈aH l,x<256:=λ x hx=>by
 obtain ⟨k,_,rfl⟩:=Qn.1 hx;exact l1 l k
def gI (l:List Bool):List Nat:=if l.length%8=0 then aH l++[0] else aH l
theorem nJ (l:List Bool):gI l=(List.range (l.length/8+1)).map (cA l):=by
 unfold gI aH
 split
 ·rename_i h
  rw [show (l.length+7)/8=l.length/8 by omega,Ru,Ql]
  simp only [Qm,Sl]
  rw [rL l _ (by omega)]
 ·rw [show (l.length+7)/8=l.length/8+1 by omega]
theorem rM (l:List Bool) (x:Bool):aH (l++[x])=(List.range (l.length/8+1)).map (cA (l++[x])):=by
 unfold aH
 rw [sp,KM,show (l.length+1+7)/8=l.length/8+1 by omega]
theorem yh (l:List Bool):aH (l++[false])=gI l:=by
 rw [rM,nJ]
 apply Rs
 intro k _
 rw [fz];split<;>simp [fL]
theorem ji (l:List Bool):(gI l).length=l.length/8+1:=by rw [nJ];simp
theorem DB (l:List Bool):(gI l)[l.length/8]? =some (cA l (l.length/8)):=by rw [nJ];simp
theorem Av (l:List Bool):aH (l++[true])=(gI l).set (l.length/8) (cA l (l.length/8)|||128/2^(l.length%8)):=by
 rw [rM,nJ,Ru,Ql,Ql,Qq _ _ (by simp)]
 simp only [Qm,Sl,No,SZ,Qp,set_cons_zero]
 congr 1
 ·apply Rs
  intro k hk
  rw [fz,M2 (by have:=SD.1 hk;omega)]
 ·rw [fz,PI rfl];simp [fL]
def aX (x:Nat):Nat->List Bool
 |0=>[]
 |m+1=>decide (x/2^m%2^1=1)::aX x m
theorem aF (x:Nat):∀ m,(aX x m).length=m
 |0=>rfl
 |m+1=>by simp [aX,aF x m]
theorem ak {α:Type} {l:List α} {k:Nat} {x:α} (h:l[k]? =some x):l.take (k+1)=l.take k++[x]:=by
 rw [TP,h];rfl
theorem bQ {α:Type} {l:List α} {k:Nat} {x:α} (h:l[k]? =some x):k<l.length:=(AT.1 h).1
theorem a7 {α:Type} {l:List α} {k:Nat} {x:α} (h:l[k]? =some x):x∈l:=PO h
theorem bitLenAux_le:∀ (f v n:Nat),v<2^n->Lib.bitLenAux f v<=n
 |0,_,_,_=>KD _
 |f+1,v,n,h=>by
  unfold Lib.bitLenAux
  split
  ·exact KD _
  ·cases n with
   |zero=>simp at h;omega
   |succ n=>
    have:=bitLenAux_le f (v/2) n (by rw [QY] at h;omega)
    omega
theorem bitLen_le {v n:Nat} (h:v<2^n):Lib.bitLen v<=n:=bitLenAux_le 64 v n h
theorem il:∀ (f v:Nat),Lib.bitLenAux f v<=f
 |0,_=>KB _
 |f+1,v=>by unfold Lib.bitLenAux;split;(omega);(have:=il f (v/2);omega)
theorem bitLen_le64 (v:Nat):Lib.bitLen v<=64:=il 64 v
theorem okTx.le {n:Int} {l:List Iv} (h:okTx n l):∀ (d i:Nat) x y,l[i]? =some x->l[i+d+1]? =some y->x.e<=y.b
 |0,i,x,y,hx,hy=>by have:=h.next i x y hx hy;omega
 |d+1,i,x,y,hx,hy=>by
  have hl:=(AT.1 hy).1
  obtain ⟨z,hz⟩:∃ z,l[i+d+1]? =some z:=⟨_,py (by omega)⟩
  have h1:=okTx.le h d i x z hx hz
  have h2:=h.next (i+d+1) z y hz hy
  have h3:=(h.nm z (a7 hz)).2.2
  omega
theorem okTx.uniq {n:Int} {l:List Iv} (h:okTx n l) {i j:Nat} {x y:Iv} {p:Int} (hx:l[i]? =some x) (hy:l[j]? =some y) (h1:x.b<=p/\p<x.e) (h2:y.b<=p/\p<y.e):i=j:=by
 rcases Sj i j with q|q|q
 ·have:=h.le (j-i-1) i x y hx (by rw [show i+(j-i-1)+1=j by omega];exact hy);omega
 ·exact q
 ·have:=h.le (i-j-1) j y x hy (by rw [show j+(i-j-1)+1=i by omega];exact hx);omega
theorem okTx.same {n:Int} {l:List Iv} (h:okTx n l) {x y:Iv} {p:Int} (hx:x∈l) (hy:y∈l) (h1:x.b<=p/\p<x.e) (h2:y.b<=p/\p<y.e):x=y:=by
 obtain ⟨i,hi⟩:=Qh hx
 obtain ⟨j,hj⟩:=Qh hy
 have:=h.uniq hi hj h1 h2
 subst this;rw [hi] at hj;cases hj;rfl
theorem okTx.cover {n:Int} {l:List Iv} (h:okTx n l) {p:Int} (h0:0<=p) (h1:p<n):∃ t∈l,t.b<=p/\p<t.e:=by
 have key:∀ (k:Nat),k<l.length->(∃ t∈l,t.b<=p/\p<t.e)\/∀ x,l[k]? =some x->x.e<=p:=by
  intro k
  induction k with
  |zero=>
   intro hk
   obtain ⟨x,hx⟩:∃ x,l[0]? =some x:=⟨_,py hk⟩
   have e:=h.first x hx
   rcases (by omega:p<x.e\/x.e<=p) with q|q
   ·exact .inl ⟨x,a7 hx,by omega,q⟩
   ·exact .inr λ y hy=>by rw [hx] at hy;cases hy;exact q
  |succ k ih=>
   intro hk
   rcases ih (by omega) with q|q
   ·exact .inl q
   ·obtain ⟨x,hx⟩:∃ x,l[k]? =some x:=⟨_,py (by omega)⟩
    obtain ⟨y,hy⟩:∃ y,l[k+1]? =some y:=⟨_,py hk⟩
    have e:=h.next k x y hx hy
    have e2:=q x hx
    rcases (by omega:p<y.e\/y.e<=p) with r|r
    ·exact .inl ⟨y,a7 hy,by omega,r⟩
    ·exact .inr λ z hz=>by rw [hy] at hz;cases hz;exact r
 have hl:0<l.length:=by
  rcases QF l.length with q|q
  ·have:=h.none_.1 (Q2 q);omega
  ·exact q
 rcases key (l.length-1) (by omega) with q|q
 ·exact q
 ·obtain ⟨x,hx⟩:∃ x,l[l.length-1]? =some x:=⟨_,py (by omega)⟩
  have e1:=h.last _ x hx (by omega)
  have e2:=q x hx
  omega
theorem okTx.lens {n:Nat} {l:List Iv} (h:okTx n l):(!(decide (l.length=0)==decide (n=0)))=false:=by
 have h1:=h.none_
 by_cases q:n=0
 ·have:l=[]:=h1.2 (by omega)
  subst this;simp [q]
 ·have:l.length≠0:=λ e=>q (by have:=h1.1 (Q2 e);omega)
  simp [q,this]
theorem atsOk.no {l:List (ByteArray×Bool)} (h:atsOk l) {k j:Nat} {x y:ByteArray×Bool} (hx:l[k]? =some x) (hy:((l.take k).drop 0)[j]? =some y):y.1≠x.1:=λ e=>by
 have h1:=(h.1 k x hx).2
 rw [any_eq_false] at h1
 exact h1 y (by rw [Ra] at hy;exact a7 hy) (by simpa using e)
theorem LM {l:List (ByteArray×Bool)} (h:atsOk l) {k j:Nat} {x y:ByteArray×Bool} (hx:l[k]? =some x) (hy:((l.take k).drop 0)[j]? =some y):y.1≠x.1:=h.no hx hy
theorem rN {α:Type} {l:List α} {k j:Nat} {y:α} (h:((l.take k).drop 0)[j]? =some y):j<k/\l[j]? =some y:=by
 rw [Ra,QE] at h
 split at h
 ·exact ⟨by assumption,h⟩
 ·cases h
theorem Js {n:Int} {l:List Iv} (h:okTx n l) {t x y:Iv} {i j:Nat} {p q:Int} (ht:t∈l) (hx:l[i]? =some x) (hy:l[j]? =some y) (h1:t.b<=p/\p<t.e) (h2:t.b<=q/\q<t.e) (h3:x.b<=p/\p<x.e) (h4:y.b<=q/\q<y.e):i=j:=by
 obtain ⟨m,hm⟩:=Qh ht
 rw [<-h.uniq hm hx h1 h3,<-h.uniq hm hy h2 h4]
structure HdF (n:Nat) (hd:List Int):Prop where
 rg:∀ (i:Nat) h,hd[i]? =some h->h= -1\/(0<=h/\h<(hd.length:Int))
 rk:∃ rank:Nat->Nat,∀ (i:Nat) h,hd[i]? =some h->0<=h->rank h.toNat<rank i
theorem OkC.PA {n:Nat} {c:Co} (h:OkC n c):HdF c.tk.length c.hd:=by
 rcases h.hd with ⟨e,_⟩|q
 ·rw [e];exact ⟨λ i h hh=>by simp at hh,⟨id,λ i h hh=>by simp at hh⟩⟩
 ·refine ⟨λ i x hx=>(q.el i x hx).elim .inl λ ⟨t,ht,h1,h2,h3,h4⟩=> .inr ?_,q.rk⟩
  have:=(h.tx.nm t ht).2.2
  rw [q.len.1]
  omega
theorem OkC.o6 {n:Nat} {c:Co} (h:OkC n c):c.hd.length=c.rl.length/\(0<c.hd.length->okHd c.tk.length c.tx c.hd c.rl):=by
 rcases h.hd with ⟨e,e2⟩|q
 ·rw [e,e2];exact ⟨rfl,λ h=>by simp at h⟩
 ·exact ⟨by rw [q.len.1,q.len.2],λ _=>q⟩
theorem Aw {l:List Iv} {k m:Nat} {x y:Iv} (hk:k<=m) (hx:l[m]? =some x) (hy:l[k]? =some y) (h:¬ y.nm=x.nm):k+1<=m:=by
 rcases Q1 k m with q|q
 ·exact q
 ·have e:k=m:=by omega
  subst e;rw [hx] at hy;cases hy;exact absurd rfl h
theorem iT {α:Type} {l:List α} {k:Nat} {x:α} {Q:Nat->α->Prop} (hno:∀ (j:Nat) t,j<k->l[j]? =some t->Q j t) (hx:l[k]? =some x) (h:Q k x):∀ (j:Nat) t,j<k+1->l[j]? =some t->Q j t:=λ j t hj ht=>by
 rcases Q1 j k with q|q
 ·exact hno j t q ht
 ·have e:j=k:=by omega
  subst e;rw [hx] at ht;cases ht;exact h
theorem Jt {nd:List Nd} {en:List Int} {k:Nat} {x:Nd} (hen:∀ (q:Nat) z,en[q]? =some z->z=0\/∃ (s:Nat) (y:Nd),s<k/\nd[s]? =some y/\y.p+1=(q:Int)/\y.e=z) (hx:nd[k]? =some x) (hp: -1<=x.p):∀ (q:Nat) z,(en.set (x.p+1).toNat x.e)[q]? =some z->z=0\/∃ (s:Nat) (y:Nd),s<k+1/\nd[s]? =some y/\y.p+1=(q:Int)/\y.e=z:=λ q z h=>by
 rw [R7] at h
 split at h
 ·split at h
  ·cases h;exact .inr ⟨k,x,by omega,hx,by omega,rfl⟩
  ·cases h
 ·exact (hen q z h).imp_right λ ⟨s,y,h1,h2⟩=>⟨s,y,by omega,h2⟩
theorem Ju {dp:List Nat} {k d:Nat} (hdp:∀ (q:Nat) d,dp[q]? =some d->d<=q) (hd:d<=k):∀ (q:Nat) e,(dp.set (k+1) (d+1))[q]? =some e->e<=q:=λ q e h=>by
 rw [R7] at h
 split at h
 ·split at h
  ·cases h;omega
  ·cases h
 ·exact hdp q e h
theorem Ge {dp:List Nat} {k d:Nat} (hdp:∀ (q:Nat) d,dp[q]? =some d->d<=q+1/\(k<=q->d=0)) (hd:d<=k):(∀ (q:Nat) e,(dp.set k d)[q]? =some e->q≠k->e<=q+1/\(k<=q->e=0))/\∀ e,(dp.set k d)[k]? =some e->e<=k:=by
 refine ⟨λ q e h hq=> ?_,λ e h=> ?_⟩
 ·rw [Rv (Ne.symm hq)] at h;exact hdp q e h
 ·rw [R7] at h
  split at h
  ·split at h
   ·cases h;exact hd
   ·cases h
  ·omega
theorem yi {dp:List Nat} {k d:Nat} (hdp:(∀ (q:Nat) d,dp[q]? =some d->q≠k->d<=q+1/\(k<=q->d=0))/\∀ d,dp[k]? =some d->d<=k) (hd:d<=k):∀ (q:Nat) e,(dp.set k (d+1))[q]? =some e->e<=q+1/\(k+1<=q->e=0):=λ q e h=>by
 by_cases hq:k=q
 ·subst hq
  rw [R7] at h
  split at h
  ·split at h
   ·cases h;exact ⟨by omega,λ h=>by omega⟩
   ·cases h
  ·omega
 ·rw [Rv hq] at h
  have:=hdp.1 q e h (Ne.symm hq)
  exact ⟨this.1,λ h=>this.2 (by omega)⟩
theorem Nu {hd:List Int} {rl:List ByteArray} {k:Nat} (he:hd.length=rl.length) (hno:∀ (j:Nat) t,j<k->hd[j]? =some t->t= -1/\rl[j]? =some (ByteArray.mk #[])) (hk:hd.length<=k) (hb:∃ i:Nat,(∃ h,hd[i]? =some h/\h≠-1)\/∃ s,rl[i]? =some s/\s≠ByteArray.empty):False:=by
 obtain ⟨i,⟨h,h1,h2⟩|⟨s,h1,h2⟩⟩:=hb
 ·have:=(AT.1 h1).1
  exact h2 (hno i h (by omega) h1).1
 ·have hl:=(AT.1 h1).1
  obtain ⟨t,ht⟩:∃ t,hd[i]? =some t:=⟨_,py (by omega)⟩
  have:=(hno i t (by omega) ht).2
  rw [h1] at this;cases this;exact h2 rfl
theorem Jv (se:List Nat) (z:Int):∃ s,(0<=z/\z<(se.length:Int))->se[z.toNat]? =some s:=by
 by_cases h:z.toNat<se.length
 ·exact ⟨se[z.toNat],λ _=>py h⟩
 ·exact ⟨0,λ q=>absurd q (by omega)⟩
theorem LN {se:List Nat} {z:Int} {n k s:Nat} {rank:Nat->Nat} (_hz: -1<=z/\z<(n:Int)) (hl:se.length=n) (hs:(0<=z/\z<(se.length:Int))->se[z.toNat]? =some s) (hsv:∀ (j:Nat) v,se[j]? =some v->v<=k+1/\(v=k+1->0<=z->rank z.toNat<rank j)):((z<0\/(n:Int)<=z)\/s≠k+1)\/False:=by
 rcases (by omega:z<0\/0<=z) with q|q
 ·exact .inl (.inl (.inl q))
 ·refine .inl (.inr λ e=> ?_)
  have:=(hsv _ s (hs ⟨q,by omega⟩)).2 e q
  omega
theorem Jw {hd:List Int} {se:List Nat} {z x:Int} {k:Nat} {rank:Nat->Nat} (hsv:∀ (j:Nat) v,se[j]? =some v->v<=k+1/\(v=k+1->0<=z->rank z.toNat<rank j)) (hrk:∀ (i:Nat) h,hd[i]? =some h->0<=h->rank h.toNat<rank i) (hx:hd[z.toNat]? =some x) (hz:0<=z):∀ (j:Nat) v,(se.set z.toNat (k+1))[j]? =some v->v<=k+1/\(v=k+1->0<=x->rank x.toNat<rank j):=λ j v h=>by
 rw [R7] at h
 split at h
 ·rename_i e
  split at h
  ·cases h
   refine ⟨KB _,λ _ h0=> ?_⟩
   have:=hrk _ x hx h0
   rw [e] at this;exact this
  ·cases h
 ·have h2:=hsv j v h
  exact ⟨h2.1,λ e h0=>by have:=h2.2 e hz;have:=hrk _ x hx h0;omega⟩
section
variable {α:Type}
def sw (l:List α) (i j:Nat):List α:=
 match l[i]?,l[j]? with
 |some x,some y=>(l.set i y).set j x
 |_,_=>l
theorem Nv {l:List α} {i j:Nat} {x y:α} (hi:l[i]? =some x) (hj:l[j]? =some y):sw l i j=(l.set i y).set j x:=by simp [sw,hi,hj]
@[simp] theorem N5 (l:List α) (i j:Nat):(sw l i j).length=l.length:=by unfold sw;split<;>simp
theorem vP {P Q:List α} {x y:α} {i:Nat} (h:i=P.length):(P++x::Q).set i y=P++y::Q:=by subst h;simp
theorem get_at {P Q:List α} {x:α} {i:Nat} (h:i=P.length):(P++x::Q)[i]? =some x:=by subst h;simp
theorem LO (X:List α) (n:Nat) (h:n<X.length):∃ x X',X.drop n=x::X'/\X.drop (n+1)=X'/\X.take (n+1)=X.take n++[x]:=
 ⟨X[n],X.drop (n+1),(getElem_cons_drop h).symm,rfl,(take_append_getElem h).symm⟩
def Gg (l:List α) (a b:Nat):Nat->List α
 |0=>l
 |n+1=>sw (Gg l a b n) (a+n) (b+n)
@[simp] theorem Jx (l:List α) (a b n:Nat):(Gg l a b n).length=l.length:=by induction n<;>simp_all [Gg]
def OV (l:List α) (a:Nat):Nat->List α
 |0=>l
 |n+1=>sw (OV l a n) (a+n) (a+n+1)
@[simp] theorem LP (l:List α) (a n:Nat):(OV l a n).length=l.length:=by induction n<;>simp_all [OV]
def OW (l:List α) (m:Nat):Nat->List α
 |0=>l
 |n+1=>sw (OW l m n) (m-n) (m-n-1)
@[simp] theorem LQ (l:List α) (a n:Nat):(OW l a n).length=l.length:=by induction n<;>simp_all [OW]
def Srt (key:α->Nat) (l:List α):Prop:=l.Pairwise λ a b=>key a<=key b
def Stb (key:α->Nat) (l m:List α):Prop:=∀ k,l.filter (λ x=>key x==k)=m.filter (λ x=>key x==k)
variable {key:α->Nat}
theorem Stb.refl (l:List α):Stb key l l:=λ _=>rfl
theorem Stb.symm {l m:List α} (h:Stb key l m):Stb key m l:=λ k=>(h k).symm
theorem Stb.trans {l m n:List α} (h:Stb key l m) (g:Stb key m n):Stb key l n:=λ k=>(h k).trans (g k)
theorem Stb.append {l l' m m':List α} (h:Stb key l l') (g:Stb key m m'):Stb key (l++m) (l'++m'):=λ k=>by simp only [RD,h k,g k]
theorem Stb.comm {l m:List α} (h:∀ x∈l,∀ y∈m,key x≠key y):Stb key (l++m) (m++l):=λ k=>by
 simp only [RD]
 rcases hl:l.filter (λ x=>key x==k) with _|⟨x,r⟩
 ·simp
 ·have hx:x∈l.filter (λ x=>key x==k):=by rw [hl];simp
  rw [Ri] at hx
  have:m.filter (λ x=>key x==k)=[]:=by
   rw [QN]
   intro y hy hk
   exact h x hx.1 y hy (by have:=hx.2;simp at this hk;omega)
  simp [this]
theorem Stb.mem {l m:List α} (h:Stb key l m) {x:α}:x∈l↔x∈m:=by
 have e:∀ q:List α,x∈q↔x∈q.filter (λ y=>key y==key x):=λ q=>by simp [Ri]
 rw [e l,e m,h (key x)]
theorem Stb.perm:∀ {l m:List α},Stb key l m->l.Perm m
 |[],m,h=>by
  cases m with
  |nil=>exact .refl _
  |cons y r=>exact absurd (h.mem.2 (QD)) (by simp)
 |x::l,m,h=>by
  obtain ⟨p,q,rfl,hp⟩:∃ p q,m=p++x::q/\∀ y∈p,key y≠key x:=by
   have hx:=h (key x)
   rw [QT (by simp)] at hx
   have:∀ m:List α,∀ r,x::r=m.filter (λ y=>key y==key x)->∃ p q,m=p++x::q/\∀ y∈p,key y≠key x:=by
    intro m
    induction m with
    |nil=>intro r h;simp at h
    |cons y m ih=>
     intro r hr
     by_cases hy:key y=key x
     ·rw [QT (by simp [hy])] at hr
      exact ⟨[],m,by simp [List.cons.inj hr|>.1],by simp⟩
     ·rw [Rp (by simp [hy])] at hr
      obtain ⟨p,q,rfl,hp⟩:=ih r hr
      exact ⟨y::p,q,rfl,λ z hz=>(PR.1 hz).elim (λ e=>e▸hy) (hp z)⟩
   exact this m _ hx
  have h2:Stb key l (p++q):=λ k=>by
   have:=h k
   simp only [RD,Tg] at this⊢
   by_cases hk:key x=k
   ·have hn:p.filter (λ y=>key y==k)=[]:=by
     rw [QN];intro y hy;simpa [<-hk] using hp y hy
    simp [hk,hn] at this⊢
    exact this
   ·simp [hk] at this⊢
    exact this
  exact (List.Perm.cons x h2.perm).trans TZ.symm
theorem Stb.length {l m:List α} (h:Stb key l m):l.length=m.length:=h.perm.length_eq
theorem Srt.append {l m:List α}:Srt key (l++m)↔Srt key l/\Srt key m/\∀ x∈l,∀ y∈m,key x<=key y:=by unfold Srt;rw [R4]
theorem Srt.nil:Srt key ([]:List α):=List.Pairwise.nil
theorem Srt.one (x:α):Srt key [x]:=by simp [Srt]
def sW (key:α->Nat) (x:α):List α->List α
 |[]=>[x]
 |y::r=>if key x<=key y then x::y::r else y::sW key x r
def bz (key:α->Nat):List α->List α
 |[]=>[]
 |x::r=>sW key x (bz key r)
theorem rO (x:α):∀ l:List α,Stb key (x::l) (sW key x l)
 |[]=>Stb.refl _
 |y::r=>by
  rw [sW];split
  ·exact Stb.refl _
  ·have h1:Stb key (x::y::r) (y::x::r):=Stb.append (l:=[x,y]) (l':=[y,x]) (Stb.comm (l:=[x]) (m:=[y]) (by simp;omega)) (Stb.refl r)
   exact h1.trans (Stb.append (Stb.refl [y]) (rO x r))
theorem yj (x:α):∀ l:List α,Srt key l->Srt key (sW key x l)
 |[],_=>Srt.one x
 |y::r,h=>by
  have h1:=Qd.1 h
  rw [sW];split
  ·rename_i hxy
   exact Qd.2 ⟨λ z hz=>(PR.1 hz).elim (λ e=>e▸hxy) (λ hz=>Q7 hxy (h1.1 z hz)),h⟩
  ·refine Qd.2 ⟨λ z hz=> ?_,yj x r h1.2⟩
   rcases PR.1 ((rO x r).mem.2 hz) with rfl|hz
   ·omega
   ·exact h1.1 z hz
theorem b8:∀ l:List α,Stb key l (bz key l)
 |[]=>Stb.refl _
 |x::r=>(Stb.append (Stb.refl [x]) (b8 r)).trans (rO x _)
theorem cd:∀ l:List α,Srt key (bz key l)
 |[]=>Srt.nil
 |x::r=>yj x _ (cd r)
theorem Srt.unique:∀ {l m:List α},Srt key l->Srt key m->Stb key l m->l=m
 |[],m,_,_,h=>by
  have:=h.length;simp at this;exact (Q2 this.symm).symm
 |x::l,[],_,_,h=>by have:=h.length;simp at this
 |x::l,y::m,hl,hm,h=>by
  have h1:=Qd.1 hl
  have h2:=Qd.1 hm
  have hk:key x=key y:=by
   have a1:key x<=key y:=by
    rcases PR.1 (h.mem.2 (QD:y∈y::m)) with e|e
    ·rw [e];exact KB _
    ·exact h1.1 y e
   have a2:key y<=key x:=by
    rcases PR.1 (h.mem.1 (QD:x∈x::l)) with e|e
    ·rw [e];exact KB _
    ·exact h2.1 x e
   omega
  have hxy:x=y:=by
   have:=h (key x)
   rw [QT (by simp),QT (by simp [hk])] at this
   exact (List.cons.inj this).1
  subst hxy
  congr 1
  refine Srt.unique h1.2 h2.2 λ k=> ?_
  have:=h k
  simp only [Tg] at this
  split at this
  ·exact (List.cons.inj this).2
  ·exact this
theorem iU {l m:List α} (h:Srt key m) (g:Stb key l m):m=bz key l:=h.unique (cd l) (g.symm.trans (b8 l))
@[simp] theorem jj (l:List α):(bz key l).length=l.length:=(b8 l).length.symm
def kl (key:α->Nat) (l:List α) (i j:Nat):Bool:=
 match l[i]?,l[j]? with
 |some x,some y=>decide (key x<key y)
 |_,_=>false
def ly (key:α->Nat) (a:Nat):Nat->List α->List α
 |0,l=>l
 |j+1,l=>if a<j+1/\kl key l (j+1) j=true then ly key a j (sw l (j+1) j) else l
def dF (key:α->Nat) (a:Nat) (l:List α):Nat->List α
 |0=>l
 |n+1=>ly key a (a+(n+1)) (dF key a l n)
theorem iV {a j:Nat} {l:List α} {x y:α} (h:¬ (a<j/\key x<key y)) (hx:l[j]? =some x) (hy:l[j-1]? =some y):ly key a j l=l:=by
 cases j with
 |zero=>rfl
 |succ j=>
  rw [ly]
  rw [Qy] at hy
  have:kl key l (j+1) j=decide (key x<key y):=by unfold kl;rw [hx,hy]
  rw [this,M2]
  simpa using h
theorem vQ {a j:Nat} {l:List α} {x y:α} (h:a<j/\key x<key y) (hx:l[j]? =some x) (hy:l[j-1]? =some y):ly key a j l=ly key a (j-1) ((l.set j y).set (j-1) x):=by
 cases j with
 |zero=>omega
 |succ j=>
  rw [ly]
  rw [Qy] at hy⊢
  have:kl key l (j+1) j=decide (key x<key y):=by unfold kl;rw [hx,hy]
  rw [this,PI (by simpa using h),Nv hx hy]
@[simp] theorem pA (a:Nat):∀ (j:Nat) (l:List α),(ly key a j l).length=l.length
 |0,l=>rfl
 |j+1,l=>by rw [ly];split<;>simp [pA a j]
@[simp] theorem km (a:Nat) (l:List α):∀ n,(dF key a l n).length=l.length
 |0=>rfl
 |n+1=>by rw [dF,pA,km a l n]
theorem BN (A:List α) (x:α) {a:Nat} (ha:a=A.length):∀ (n:Nat) (S B:List α),S.length=n->∀ j,j=a+n->Srt key S->
  ∃ S',ly key a j (A++S++x::B)=A++S'++B/\Srt key S'/\Stb key (S++[x]) S'
 |0,S,B,hn,j,hj,_=>by
  have:S=[]:=Q2 hn
  subst this
  refine ⟨[x],?_,Srt.one x,Stb.refl _⟩
  have h0:ly key a j (A++[]++x::B)=A++[]++x::B:=by
   cases j with
   |zero=>rfl
   |succ j=>rw [ly,M2 (by omega)]
  rw [h0];simp
 |n+1,S,B,hn,j,hj,hS=>by
  obtain ⟨S0,y,rfl⟩:∃ S0 y,S=S0++[y]:=⟨S.dropLast,S.getLast (by intro h;rw [h] at hn;simp at hn),(dropLast_concat_getLast _).symm⟩
  simp at hn
  have hS2:=Srt.append.1 hS
  have ex:(A++(S0++[y])++x::B)[j]? =some x:=get_at (P:=A++(S0++[y])) (by simp;omega)
  have ey:(A++(S0++[y])++x::B)[j-1]? =some y:=by
   rw [show A++(S0++[y])++x::B=(A++S0)++y::(x::B) by simp];exact get_at (by simp;omega)
  by_cases hc:key x<key y
  ·have hsw:((A++(S0++[y])++x::B).set j y).set (j-1) x=A++S0++x::(y::B):=by
    rw [vP (P:=A++(S0++[y])) (by simp;omega),show A++(S0++[y])++y::B=(A++S0)++y::(y::B) by simp,vP (by simp;omega)]
   obtain ⟨S',h1,h2,h3⟩:=BN A x ha n S0 (y::B) hn (j-1) (by omega) hS2.1
   refine ⟨S'++[y],?_,?_,?_⟩
   ·rw [vQ ⟨by omega,hc⟩ ex ey,hsw,h1];simp
   ·refine Srt.append.2 ⟨h2,Srt.one y,λ z hz q hq=> ?_⟩
    simp at hq;subst hq
    rcases PT.1 (h3.mem.2 hz) with hz|hz
    ·exact hS2.2.2 z hz q (by simp)
    ·simp at hz;subst hz;omega
   ·have e1:Stb key (S0++[y]++[x]) (S0++[x]++[y]):=by
     rw [LW,LW]
     exact (Stb.refl S0).append (Stb.comm (by simp;omega))
    exact e1.trans (h3.append (Stb.refl [y]))
  ·refine ⟨S0++[y]++[x],?_,?_,Stb.refl _⟩
   ·rw [iV (by omega) ex ey];simp
   ·refine Srt.append.2 ⟨hS,Srt.one x,λ z hz q hq=> ?_⟩
    simp at hq;subst hq
    rcases PT.1 hz with hz|hz
    ·exact Q7 (hS2.2.2 z hz y (by simp)) (by omega)
    ·simp at hz;subst hz;omega
theorem BO (A S B:List α) {a:Nat} (ha:a=A.length):∀ n,n+1<=S.length->∃ S',dF key a (A++S++B) n=A++S'++(S.drop (n+1)++B)/\Srt key S'/\Stb key (S.take (n+1)) S'
 |0,h=>by
  cases S with
  |nil=>simp at h
  |cons x S=>exact ⟨[x],by simp [dF],Srt.one x,Stb.refl _⟩
 |n+1,h=>by
  obtain ⟨S',h1,h2,h3⟩:=BO A S B ha n (by omega)
  obtain ⟨y,L',hX,hX1,hX2⟩:=LO S (n+1) (by omega)
  have hl:S'.length=n+1:=by rw [<-h3.length];simp;omega
  obtain ⟨S2,g1,g2,g3⟩:=BN (key:=key) A y ha (n+1) S' (L'++B) hl (a+(n+1)) rfl h2
  refine ⟨S2,?_,g2,?_⟩
  ·rw [dF,h1,hX,hX1,Rt,g1]
  ·rw [hX2];exact (h3.append (Stb.refl _)).trans g3
theorem Gh (A S B:List α) {a n:Nat} (ha:a=A.length) (hn:n=S.length-1):∃ S',dF key a (A++S++B) n=A++S'++B/\Srt key S'/\Stb key S S':=by
 rcases QF S.length with h0|hp
 ·have:S=[]:=Q2 h0
  subst this;simp at hn;subst hn
  exact ⟨[],rfl,Srt.nil,Stb.refl _⟩
 ·obtain ⟨S',h1,h2,h3⟩:=BO (key:=key) A S B ha n (by omega)
  rw [show n+1=S.length by omega,QB (KB _),Rc] at h1
  rw [show n+1=S.length by omega,PV (KB _)] at h3
  exact ⟨S',h1,h2,h3⟩
end
section
variable {α:Type} {key:α->Nat}
theorem Srt.take {l:List α} (h:Srt key l) (q:Nat):Srt key (l.take q):=Tl (TS q l) h
theorem Srt.left {l m:List α} (h:Srt key (l++m)):Srt key l:=(Srt.append.1 h).1
end
theorem all_take {α:Type} {P:α->Prop} {l:List α} {k:Nat} {x:α} (h:∀ z∈l.take k,P z) (hx:l[k]? =some x) (hp:P x):∀ z∈l.take (k+1),P z:=λ z hz=>by
 have hk:=(AT.1 hx)
 rw [<-take_append_getElem hk.1,PT] at hz
 rcases hz with hz|hz
 ·exact h z hz
 ·simp at hz;rw [hz,hk.2];exact hp
def kr (x:Nat):Nat:=if 0<x then 2^(15-x) else 0
def iB:List Nat->Nat
 |[]=>0
 |x::r=>kr x+iB r
theorem fA:∀ (l m:List Nat),iB (l++m)=iB l+iB m
 |[],m=>by simp [iB]
 |x::l,m=>by simp [iB,fA l m];omega
def eC (l:List Nat):Bool:=l.all (λ x=>decide (x<=15))&&decide (iB l<=2^15)
theorem rP {l:List Nat} {x:Nat} (h:x∈l) (hx:15<x):eC l=false:=by
 have:l.all (λ x=>decide (x<=15))=false:=by
  rw [all_eq_false];exact ⟨x,h,by simp;omega⟩
 simp [eC,this]
theorem u6 {l:List Nat} (h:∀ x∈l,x<=15):eC l=decide (iB l<=2^15):=by
 have:l.all (λ x=>decide (x<=15))=true:=by
  rw [Qt];intro x hx;simpa using h x hx
 simp [eC,this]
structure It where
 w:Nat
 sym:Int
 lf:Nat
 rt:Nat
def aN:Nat->List Nat->List It
 |_,[]=>[]
 |i,n::r=>if 0<n then ⟨n,i,0,0⟩::aN (i+1) r else aN (i+1) r
theorem fB:∀ (l:List Nat) (i x:Nat),aN i (l++[x])=aN i l++(if 0<x then [⟨x,((i+l.length:Nat):Int),0,0⟩] else [])
 |[],i,x=>by simp [aN]
 |n::r,i,x=>by
  have:=fB r (i+1) x
  rw [show i+1+r.length=i+(n::r).length by simp;omega] at this
  rw [Rt,aN,aN,this]
  split<;>simp
theorem er:∀ (l:List Nat) (i:Nat),(aN i l).length<=l.length
 |[],i=>by simp [aN]
 |n::r,i=>by
  have:=er r (i+1)
  rw [aN];split<;>simp<;>omega
theorem jk:∀ (l:List Nat) (i:Nat),∀ x∈aN i l,x.w∈l/\∃ j,x.sym=((i+j:Nat):Int)/\l[j]? =some x.w
 |[],i=>by simp [aN]
 |n::r,i=>λ x hx=>by
  have ih:∀ x∈aN (i+1) r,x.w∈n::r/\∃ j,x.sym=((i+j:Nat):Int)/\(n::r)[j]? =some x.w:=λ x hx=>by
   obtain ⟨h1,j,h2,h3⟩:=jk r (i+1) x hx
   exact ⟨Qr _ h1,j+1,by rw [h2];congr 1;omega,by simpa using h3⟩
  rw [aN] at hx
  split at hx
  ·rcases PR.1 hx with rfl|hx
   ·exact ⟨by simp,0,by simp,by simp⟩
   ·exact ih x hx
  ·exact ih x hx
def leaves (c:List Nat):List It:=bz It.w (aN 0 c)
def bn:Nat->List Nat->List Nat
 |_,[]=>[]
 |i,n::r=>if 0<n then i::bn (i+1) r else bn (i+1) r
theorem ko:∀ (l:List Nat) (i x:Nat),bn i (l++[x])=bn i l++(if 0<x then [i+l.length] else [])
 |[],i,x=>by simp [bn]
 |n::r,i,x=>by
  have:=ko r (i+1) x
  rw [show i+1+r.length=i+(n::r).length by simp;omega] at this
  rw [Rt,bn,bn,this]
  split<;>simp
theorem fp:∀ (l:List Nat) (i:Nat),(bn i l).length<=l.length
 |[],i=>by simp [bn]
 |n::r,i=>by
  have:=fp r (i+1)
  rw [bn];split<;>simp<;>omega
theorem jl:∀ (l:List Nat) (i:Nat),∀ x∈bn i l,i<=x/\x<i+l.length/\0<l.getD (x-i) 0
 |[],i=>by simp [bn]
 |n::r,i=>λ x hx=>by
  have ih:∀ x∈bn (i+1) r,i<=x/\x<i+(n::r).length/\0<(n::r).getD (x-i) 0:=λ x hx=>by
   obtain ⟨h1,h2,h3⟩:=jl r (i+1) x hx
   refine ⟨by omega,by simp;omega,?_⟩
   rw [show x-i=(x-(i+1))+1 by omega];simpa using h3
  rw [bn] at hx
  split at hx
  ·rename_i hn
   rcases PR.1 hx with rfl|hx
   ·exact ⟨KB _,by simp,by simpa using hn⟩
   ·exact ih x hx
  ·exact ih x hx
def aE (l:List Nat) (i:Nat):Nat:=l.getD i 0
def cx (l:List Nat):List Nat:=bz (aE l) (bn 0 l)
theorem Srt.get {α:Type} {key:α->Nat} {l:List α} (h:Srt key l) {i j:Nat} {x y:α} (hij:i<j) (hx:l[i]? =some x) (hy:l[j]? =some y):key x<=key y:=by
 obtain ⟨h1,rfl⟩:=AT.1 hx
 obtain ⟨h2,rfl⟩:=AT.1 hy
 exact QS.1 h i j h1 h2 hij
def fM (l:List Nat) (s:Nat×Nat×Nat×List Nat) (i:Nat):Nat×Nat×Nat×List Nat:=
 let c:=if 0<s.1 then (s.2.1+1)%2^64*2^(aE l i-s.2.2.1)%2^64 else s.2.1
 (s.1+1,c,aE l i,s.2.2.2.set i c)
def eD (l:List Nat) (ord:List Nat):Nat×Nat×Nat×List Nat:=ord.foldl (fM l) (0,0,0,List.replicate l.length 0)
theorem dV (l ord:List Nat) (i:Nat):eD l (ord++[i])=fM l (eD l ord) i:=by simp [eD]
def ff (l:List Nat):List Nat:=(eD l (cx l)).2.2.2
theorem pB (l:List Nat):∀ ord,(eD l ord).2.2.2.length=l.length:=λ ord=>by
 have:∀ (ord:List Nat) s,(ord.foldl (fM l) s).2.2.2.length=s.2.2.2.length:=by
  intro ord
  induction ord with
  |nil=>intro s;rfl
  |cons i r ih=>intro s;rw [RG,ih];simp [fM]
 rw [eD,this];simp
theorem lD (l:List Nat):(ff l).length=l.length:=pB l _
theorem l3 (l:List Nat):∀ x∈cx l,x<l.length/\0<aE l x:=λ x hx=>by
 have:=jl l 0 x ((b8 _).mem.2 hx)
 exact ⟨by omega,by have:=this.2.2;simpa [aE] using this⟩
theorem vR (l:List Nat):(cx l).length<=l.length:=by
 have:=fp l 0
 rw [cx,jj];exact this
def bm:Nat->List It->List It
 |i,x::y::r=>⟨x.w+y.w,-1,i,i+1⟩::bm (i+2) r
 |_,_=>[]
theorem rQ:∀ (q i:Nat) (b:List It) (x y:It),b[2*q]? =some x->b[2*q+1]? =some y->
  bm i (b.take (2*(q+1)))=bm i (b.take (2*q))++[⟨x.w+y.w,-1,i+2*q,i+2*q+1⟩]
 |0,i,b,x,y,hx,hy=>by
  match b with
  |[]=>simp at hx
  |[_]=>simp at hy
  |u::v::r=>
   simp at hx hy;subst hx;subst hy
   simp [bm]
 |q+1,i,b,x,y,hx,hy=>by
  match b with
  |[]=>simp at hx
  |[_]=>simp at hy
  |u::v::r=>
   have e1:2*(q+1)=2*q+1+1:=by omega
   have e2:2*(q+1+1)=2*(q+1)+1+1:=by omega
   rw [e1] at hx hy
   have hx':r[2*q]? =some x:=by simpa using hx
   have hy':r[2*q+1]? =some y:=by simpa using hy
   have ih:=rQ q (i+2) r x y hx' hy'
   rw [e2,e1,QW,QW,QW,QW,bm,bm,Rt]
   rw [show 2*q+1+1=2*(q+1) by omega,ih]
   simp;omega
theorem u7:∀ (q i:Nat) (b:List It),b.length<=2*q+1->bm i (b.take (2*q))=bm i b
 |0,i,b,h=>by
  match b with
  |[]=>rfl
  |[x]=>rfl
  |_::_::_=>simp at h
 |q+1,i,b,h=>by
  match b with
  |[]=>rfl
  |[x]=>rfl
  |u::v::r=>
   have e1:2*(q+1)=2*q+1+1:=by omega
   rw [e1,QW,QW,bm,bm,u7 q (i+2) r (by simp at h;omega)]
theorem eO:∀ (i:Nat) (b:List It),(bm i b).length=b.length/2
 |i,[]=>by simp [bm]
 |i,[x]=>by simp [bm]
 |i,x::y::r=>by rw [bm,KP,eO (i+2) r,KP,KP];omega
theorem oJ:∀ (i:Nat) (b:List It) (W:Nat),(∀ x∈b,x.w<=W)->∀ x∈bm i b,x.w<=2*W/\x.sym= -1
 |i,[],W,_=>by simp [bm]
 |i,[x],W,_=>by simp [bm]
 |i,x::y::r,W,h=>λ z hz=>by
  rw [bm] at hz
  rcases PR.1 hz with rfl|hz
  ·have h1:=h x (by simp);have h2:=h y (by simp);exact ⟨by show x.w+y.w<=2*W;omega,rfl⟩
  ·exact oJ (i+2) r W (λ q hq=>h q (by simp [hq])) z hz
theorem iW:∀ (i:Nat) (b:List It),∀ x∈bm i b,x.sym= -1
 |i,[]=>by simp [bm]
 |i,[x]=>by simp [bm]
 |i,x::y::r=>λ z hz=>by
  rw [bm] at hz
  rcases PR.1 hz with rfl|hz
  ·rfl
  ·exact iW (i+2) r z hz
def iX (l b:List It):List It:=bz It.w (l++bm 0 b)
theorem nK (l b:List It):(iX l b).length=l.length+b.length/2:=by simp [iX,eO]
def lvl (c:List Nat):Nat->List It
 |0=>leaves c
 |k+1=>iX (leaves c) (lvl c k)
def yl (c:List Nat) (k:Nat):List (List It):=(List.range k).map (lvl c)
theorem DC (c:List Nat) (k:Nat):yl c (k+1)=yl c k++[lvl c k]:=by simp [yl,Ru]
theorem ym (c:List Nat) {i k:Nat} (h:i<k):(yl c k)[i]? =some (lvl c i):=by simp [yl,h]
theorem dA (c:List Nat):(leaves c).length<=c.length:=by rw [leaves,jj];exact er c 0
theorem cu (c:List Nat):∀ x∈leaves c,x.w∈c/\∃ j:Nat,x.sym=(j:Int)/\c[j]? =some x.w:=λ x hx=>by
 have:=jk c 0 x ((b8 _).mem.2 hx)
 simpa using this
theorem gJ (c:List Nat):∀ k,(leaves c).length<=(lvl c k).length/\(lvl c k).length<=2*(leaves c).length
 |0=>by simp [lvl];omega
 |k+1=>by
  have:=gJ c k
  rw [lvl,nK];omega
theorem yn (c:List Nat) (h1:1<=(leaves c).length):∀ k,2*(leaves c).length<=(lvl c k).length+1+((leaves c).length-1)/2^k
 |0=>by simp [lvl];omega
 |k+1=>by
  have ih:=yn c h1 k
  rw [lvl,nK]
  have e:((leaves c).length-1)/2^(k+1)=((leaves c).length-1)/2^k/2:=by rw [QY,Nat.div_div_eq_div_mul]
  rw [e];omega
theorem KA (c:List Nat) (W:Nat) (h:∀ x∈c,x<=W):∀ k,∀ x∈lvl c k,x.w<=W*2^k
 |0=>λ x hx=>by have:=h _ (cu c x hx).1;simpa using this
 |k+1=>λ x hx=>by
  have ih:=KA c W h k
  rw [lvl] at hx
  have hp:W*2^(k+1)=2*(W*2^k):=by rw [QY,<-Rw,Sy]
  have h1:W<=W*2^k:=RO _ (R1 k)
  rcases PT.1 ((b8 _).mem.2 hx) with hx|hx
  ·have:=h _ (cu c x hx).1;omega
  ·have:=(oJ 0 _ _ ih x hx).1;omega
theorem Jy (c:List Nat):∀ k,∀ x∈lvl c k,x.sym= -1\/∃ j,x.sym=((j:Nat):Int)/\j<c.length
 |0=>λ x hx=>by
  obtain ⟨_,j,h1,h2⟩:=cu c x hx
  exact .inr ⟨j,h1,(AT.1 h2).1⟩
 |k+1=>λ x hx=>by
  rw [lvl] at hx
  rcases PT.1 ((b8 _).mem.2 hx) with hx|hx
  ·obtain ⟨_,j,h1,h2⟩:=cu c x hx
   exact .inr ⟨j,h1,(AT.1 h2).1⟩
  ·exact .inl (iW 0 _ x hx)
def bump (ls:List Nat) (x:It):List Nat:=if 0<=x.sym then ls.set x.sym.toNat (ls.getD x.sym.toNat 0+1) else ls
def bS (ls:List Nat) (xs:List It):List Nat:=xs.foldl bump ls
theorem jm (ls:List Nat) (xs:List It) (x:It):bS ls (xs++[x])=bump (bS ls xs) x:=by simp [bS]
theorem kq (ls:List Nat) (x:It):(bump ls x).length=ls.length:=by unfold bump;split<;>simp
theorem bZ (xs:List It):∀ ls,(bS ls xs).length=ls.length:=by
 induction xs with
 |nil=>intro ls;rfl
 |cons x r ih=>intro ls;rw [bS,RG];exact (ih _).trans (kq ls x)
def iY (xs:List It):Nat:=xs.countP λ x=>decide (x.sym<0)
theorem yo (xs:List It) (x:It):iY (xs++[x])=iY xs+if x.sym<0 then 1 else 0:=by
 simp [iY,TG,countP_cons]
theorem Ax (xs:List It) (t:Nat):iY (xs.take t)<=iY xs:=(TS t xs).countP_le
theorem mu (c:List Nat):∀ x∈leaves c,0<=x.sym:=λ x hx=>by
 obtain ⟨_,j,h,_⟩:=cu c x hx;omega
theorem mw (c:List Nat):iY (leaves c)=0:=by
 rw [iY,T6];intro x hx;have:=mu c x hx;simp;omega
theorem Gi (c:List Nat) (b:List It):iY (iX (leaves c) b)=b.length/2:=by
 have hp:iY (iX (leaves c) b)=iY (leaves c++bm 0 b):=((b8 (key:=It.w) (leaves c++bm 0 b)).perm.countP_eq _).symm
 have h0:=mw c
 have h1:iY (bm 0 b)=(bm 0 b).length:=by
  rw [iY,countP_eq_length];intro x hx;have:=iW 0 b x hx;simp;omega
 rw [hp]
 simp only [iY] at h0 h1⊢
 rw [TG,h0,h1,eO];omega
def down (c:List Nat):Nat->Nat->List Nat->List Nat
 |0,_,ls=>ls
 |k+1,t,ls=>down c k (2*iY ((lvl c k).take t)) (bS ls ((lvl c k).take t))
def ca (c:List Nat):List Nat:=
 if (leaves c).length<2 then (leaves c).foldl (λ ls x=>ls.set x.sym.toNat 1) (List.replicate c.length 0) else down c 15 (2*(leaves c).length-2) (List.replicate c.length 0)
theorem oK (c:List Nat) (k t:Nat):2*iY ((lvl c (k+1)).take t)<=(lvl c k).length:=by
 have h1:=Ax (lvl c (k+1)) t
 have h2:iY (lvl c (k+1))=(lvl c k).length/2:=Gi c _
 omega
theorem rR (c:List Nat) (h1:1<=(leaves c).length) (hn:(leaves c).length<=1024):2*(leaves c).length-2<=(lvl c 14).length:=by
 have:=yn c h1 14
 rw [T9 (by omega:(leaves c).length-1<2^14)] at this
 omega
theorem BP {ls:List Nat} {B:Nat} (h:∀ x∈ls,x<=B) (y:It):∀ x∈bump ls y,x<=B+1:=λ x hx=>by
 unfold bump at hx
 split at hx
 ·rcases R2 hx with hx|rfl
  ·have:=h x hx;omega
  ·rw [KW]
   cases hg:ls[y.sym.toNat]? with
   |none=>simp
   |some v=>have:=h v (PO hg);simp;exact this
 ·have:=h x hx;omega
theorem pC (c:List Nat):∀ k t ls,(down c k t ls).length=ls.length
 |0,t,ls=>rfl
 |k+1,t,ls=>by rw [down,pC c k,bZ]
theorem jo (c:List Nat):(ca c).length=c.length:=by
 unfold ca
 split
 ·have:∀ (xs:List It) (ls:List Nat),(xs.foldl (λ ls x=>ls.set x.sym.toNat 1) ls).length=ls.length:=by
   intro xs;induction xs with
   |nil=>intro ls;rfl
   |cons x r ih=>intro ls;rw [RG,ih];simp
  rw [this];simp
 ·rw [pC];simp
section
variable {α:Type} {key:α->Nat}
theorem Srt.filter {l:List α} (h:Srt key l) (p:α->Bool):Srt key (l.filter p):=Tl filter_sublist h
theorem gd (l:List α) (p:α->Bool):(bz key l).filter p=bz key (l.filter p):=
 iU ((cd l).filter p) λ k=>by
  have h:=b8 (key:=key) l k
  have h1:(l.filter p).filter (λ x=>key x==k)=(l.filter λ x=>key x==k).filter p:=by simp only [filter_filter,Bool.and_comm]
  have h2:((bz key l).filter p).filter (λ x=>key x==k)=((bz key l).filter λ x=>key x==k).filter p:=by simp only [filter_filter,Bool.and_comm]
  rw [h1,h2,h]
theorem iZ {l:List α} (h:Srt key l):bz key l=l:=(iU h (Stb.refl l)).symm
theorem Srt.take_drop {l:List α} (h:Srt key l) (t:Nat):∀ x∈l.take t,∀ y∈l.drop t,key x<=key y:=by
 rw [<-Qc t l,Srt.append] at h;exact h.2.2
theorem fg (l:List α) (p:α->Bool) (t:Nat):l.countP p=(l.take t).countP p+(l.drop t).countP p:=by
 conv=>lhs;rw [<-Qc t l]
 rw [TG]
theorem cJ (p:α->Bool):∀ (l:List α) (t:Nat),(l.take t).filter p=(l.filter p).take ((l.take t).countP p)
 |[],t=>by simp
 |x::r,0=>by simp
 |x::r,t+1=>by
  rw [QW]
  cases hp:p x with
  |true=>rw [QT hp,QT hp,TJ hp,QW,cJ p r t]
  |false=>rw [Rp (by simp [hp]),Rp (by simp [hp]),TK (by simp [hp]),cJ p r t]
end
def eP (x:It):Bool:=decide (0<=x.sym)
def nL (x:It):Bool:=decide (x.sym<0)
def pD (xs:List It):Nat:=xs.countP eP
theorem BQ (xs:List It):pD xs+iY xs=xs.length:=by
 induction xs with
 |nil=>rfl
 |cons x r ih=>
  simp only [pD,iY,eP,countP_cons,KP] at ih⊢
  by_cases h:0<=x.sym
  ·simp [h,show ¬ x.sym<0 by omega];omega
  ·simp [h,show x.sym<0 by omega];omega
theorem nM (i:Nat) (b:List It):(bm i b).filter nL=bm i b/\(bm i b).filter eP=[]:=by
 refine ⟨RH.2 λ x hx=> ?_,QN.2 λ x hx=> ?_⟩<;>(have:=iW i b x hx;simp [nL,eP,this])
theorem iC (c:List Nat):(leaves c).filter eP=leaves c/\(leaves c).filter nL=[]:=by
 refine ⟨RH.2 λ x hx=> ?_,QN.2 λ x hx=> ?_⟩<;>(have:=mu c x hx;simp [nL,eP];omega)
theorem j0:∀ (q i:Nat) (b:List It) (z:It),(bm i b)[q]? =some z->∃ x y,b[2*q]? =some x/\b[2*q+1]? =some y/\z.w=x.w+y.w
 |_,_,[],z,h=>by simp [bm] at h
 |_,_,[x],z,h=>by simp [bm] at h
 |0,i,x::y::r,z,h=>by simp [bm] at h;subst h;exact ⟨x,y,rfl,rfl,rfl⟩
 |q+1,i,x::y::r,z,h=>by
  rw [bm] at h
  obtain ⟨u,v,h1,h2,h3⟩:=j0 q (i+2) r z (by simpa using h)
  refine ⟨u,v,?_,?_,h3⟩
  ·rw [show 2*(q+1)=2*q+1+1 by omega];simpa using h1
  ·rw [show 2*(q+1)+1=2*q+1+1+1 by omega];simpa using h2
theorem oL (i:Nat) (b:List It) (h:Srt It.w b):Srt It.w (bm i b):=by
 refine QS.2 λ p q hp hq hpq=> ?_
 obtain ⟨x,y,h1,h2,h3⟩:=j0 p i b _ (py hp)
 obtain ⟨u,v,g1,g2,g3⟩:=j0 q i b _ (py hq)
 rw [h3,g3]
 have a1:x.w<=u.w:=h.get (by omega) h1 g1
 have a2:y.w<=v.w:=h.get (by omega) h2 g2
 omega
theorem jq (c:List Nat):∀ k,Srt It.w (lvl c k)
 |0=>cd _
 |_+1=>cd _
theorem gK (c:List Nat):∀ k,(lvl c k).filter eP=leaves c
 |0=>(iC c).1
 |k+1=>by
  rw [lvl,iX,gd,RD,(iC c).1,(nM 0 _).2,QO]
  exact iZ (cd _)
theorem Gj (c:List Nat) (k:Nat):(lvl c (k+1)).filter nL=bm 0 (lvl c k):=by
 rw [lvl,iX,gd,RD,(iC c).2,(nM 0 _).1,Rc]
 exact iZ (oL 0 _ (jq c k))
theorem gh (c:List Nat) (k t:Nat):((lvl c k).take t).filter eP=(leaves c).take (pD ((lvl c k).take t)):=by
 rw [cJ,gK];rfl
theorem Ay (c:List Nat) (k t:Nat):((lvl c (k+1)).take t).filter nL=(bm 0 (lvl c k)).take (iY ((lvl c (k+1)).take t)):=by
 rw [cJ,Gj];rfl
theorem yp (c:List Nat) (k t p:Nat) (hp:iY ((lvl c (k+1)).take t)=p+1):∃ z x y,z∈(lvl c (k+1)).take t/\(lvl c k)[2*p]? =some x/\(lvl c k)[2*p+1]? =some y/\z.w=x.w+y.w:=by
 have h:=Ay c k t
 rw [hp] at h
 have hl:(((lvl c (k+1)).take t).filter nL).length=p+1:=by rw [<-countP_eq_length_filter];exact hp
 obtain ⟨z,hz⟩:∃ z,(((lvl c (k+1)).take t).filter nL)[p]? =some z:=⟨_,py (by omega)⟩
 have hz2:=hz
 rw [h,SU (by omega)] at hz2
 obtain ⟨x,y,h1,h2,h3⟩:=j0 p 0 _ z hz2
 exact ⟨z,x,y,(Ri.1 (PO hz)).1,h1,h2,h3⟩
theorem l4 (c:List Nat):∀ k,∀ x∈lvl c k,0<x.w
 |0=>λ x hx=>by
  have hm:x∈aN 0 c:=(b8 _).mem.2 hx
  have:∀ (l:List Nat) (i:Nat),∀ x∈aN i l,0<x.w:=by
   intro l
   induction l with
   |nil=>intro i x hx;simp [aN] at hx
   |cons n r ih=>
    intro i x hx
    rw [aN] at hx
    split at hx
    ·rcases PR.1 hx with rfl|hx
     ·assumption
     ·exact ih _ x hx
    ·exact ih _ x hx
  exact this _ _ x hm
 |k+1=>λ x hx=>by
  rcases PT.1 ((b8 _).mem.2 hx) with hx|hx
  ·exact l4 c 0 x hx
  ·obtain ⟨q,hq⟩:=Sb.1 hx
   obtain ⟨u,v,h1,_,h3⟩:=j0 q 0 _ x hq
   have:=l4 c k u (PO h1)
   omega
theorem Gk (c:List Nat) (k t:Nat):pD ((lvl c k).take (2*iY ((lvl c (k+1)).take t)))<=pD ((lvl c (k+1)).take t):=by
 cases hp:iY ((lvl c (k+1)).take t) with
 |zero=>simp [pD]
 |succ p=>
  obtain ⟨z,x,y,hz,hx,hy,hw⟩:=yp c k t p hp
  have hx0:=l4 c k x (PO hx)
  let q:It->Bool:=λ u=>eP u&&decide (u.w<z.w)
  have h1:pD ((lvl c k).take (2*(p+1)))<=((lvl c k).take (2*(p+1))).countP q:=by
   refine countP_mono_left λ u hu hl=> ?_
   obtain ⟨i,hi⟩:=Sb.1 hu
   rw [QE] at hi
   split at hi
   ·have:u.w<=y.w:=by
     rcases Q1 i (2*p+1) with h|h
     ·exact (jq c k).get h hi hy
     ·have:i=2*p+1:=by omega
      subst this;rw [hi] at hy;cases hy;exact KB _
    have:u.w<z.w:=by omega
    simp [q,hl,this]
   ·cases hi
  have h2:((lvl c k).take (2*(p+1))).countP q<=(lvl c k).countP q:=(TS _ _).countP_le
  have h3:∀ k,(lvl c k).countP q=(leaves c).countP λ u=>decide (u.w<z.w):=λ k=>by
   rw [<-gK c k,countP_filter]
   exact countP_congr λ u _=>by simp [q,and_comm]
  have h4:(lvl c (k+1)).countP q=((lvl c (k+1)).take t).countP q:=by
   rw [fg _ _ t]
   have:((lvl c (k+1)).drop t).countP q=0:=by
    rw [T6]
    intro u hu
    have:=(jq c (k+1)).take_drop t z hz u hu
    simp [q];intro _;omega
   omega
  have h5:((lvl c (k+1)).take t).countP q<=pD ((lvl c (k+1)).take t):=countP_mono_left λ u _ hu=>by simp [q] at hu;exact hu.1
  have:=h3 k;have:=h3 (k+1)
  omega
theorem my (c:List Nat) (k:Nat):pD (lvl c k)=(leaves c).length:=by
 rw [pD,countP_eq_length_filter,gK]
theorem BR (c:List Nat) (hn:2<=(leaves c).length):∀ k,pD ((lvl c k).drop (2*(leaves c).length-2))=0
 |0=>by
  rw [QB (by simp [lvl];omega)];rfl
 |k+1=>by
  rw [pD,T6]
  intro x hx hl
  have hcnt:=my c (k+1)
  have hsum:=fg (lvl c (k+1)) eP (2*(leaves c).length-2)
  have hpos:0<((lvl c (k+1)).drop (2*(leaves c).length-2)).countP eP:=countP_pos_iff.2 ⟨x,hx,hl⟩
  have hlen:((lvl c (k+1)).take (2*(leaves c).length-2)).length=2*(leaves c).length-2:=by
   rw [KV]
   have:0<((lvl c (k+1)).drop (2*(leaves c).length-2)).length:=length_pos_of_mem hx
   rw [PK] at this
   omega
  have hnp:=BQ ((lvl c (k+1)).take (2*(leaves c).length-2))
  have hge:(leaves c).length-1<=iY ((lvl c (k+1)).take (2*(leaves c).length-2)):=by
   simp only [pD] at hcnt hnp;omega
  obtain ⟨p,hp⟩:∃ p,iY ((lvl c (k+1)).take (2*(leaves c).length-2))=p+1:=⟨_-1,(Nat.sub_add_cancel (by omega)).symm⟩
  obtain ⟨z,u,y,hz,hu,hy,hw⟩:=yp c k _ p hp
  have hzx:=(jq c (k+1)).take_drop _ z hz x hx
  have hu0:=l4 c k u (PO hu)
  have hxl:x∈leaves c:=by rw [<-gK c (k+1)];exact Ri.2 ⟨Qi hx,hl⟩
  have hxk:x∈lvl c k:=by rw [<-gK c k] at hxl;exact (Ri.1 hxl).1
  have ih:=BR c hn k
  rw [pD,T6] at ih
  rw [<-Qc (2*(leaves c).length-2) (lvl c k),PT] at hxk
  rcases hxk with hxk|hxk
  ·obtain ⟨i,hi⟩:=Sb.1 hxk
   rw [QE] at hi
   split at hi
   ·have:x.w<=y.w:=by
     rcases Q1 i (2*p+1) with h|h
     ·exact (jq c k).get h hi hy
     ·have:i=2*p+1:=by omega
      subst this;rw [hi] at hy;cases hy;exact KB _
    omega
   ·cases hi
  ·exact ih x hxk hl
theorem Gl (c:List Nat) (hn:2<=(leaves c).length) (k:Nat):pD ((lvl c k).take (2*(leaves c).length-2))=(leaves c).length:=by
 have h1:=BR c hn k
 have h2:=my c k
 have h3:=fg (lvl c k) eP (2*(leaves c).length-2)
 simp only [pD] at h1 h2⊢;omega
def dC (l:List It) (ls:List Nat):Nat:=(l.map λ x=>2^(15-ls.getD x.sym.toNat 0)).sum
theorem gi (ls:List Nat) (xs:List It):bS ls xs=bS ls (xs.filter eP):=by
 unfold bS
 induction xs generalizing ls with
 |nil=>rfl
 |cons x r ih=>
  by_cases h:0<=x.sym
  ·rw [QT (by simp [eP,h]),RG,RG,ih]
  ·rw [Rp (by simp [eP,h]),RG,show bump ls x=ls by simp [bump,h],ih]
theorem fC {ls:List Nat} {i v:Nat} (h:i<ls.length):(ls.set i v).getD i 0=v:=by simp [KW,h]
theorem dW {ls:List Nat} {i j v:Nat} (h:i≠j):(ls.set i v).getD j 0=ls.getD j 0:=by simp [KW,Rv h]
def Ok (n:Nat) (l:List It):Prop:=(∀ x∈l,0<=x.sym/\x.sym.toNat<n)/\l.Pairwise λ x y=>x.sym.toNat≠y.sym.toNat
theorem Ok.left {n:Nat} {l m:List It} (h:Ok n (l++m)):Ok n l:=⟨λ x hx=>h.1 x (R3 _ hx),(R4.1 h.2).1⟩
theorem Ok.right {n:Nat} {l m:List It} (h:Ok n (l++m)):Ok n m:=⟨λ x hx=>h.1 x (QQ _ hx),(R4.1 h.2).2.1⟩
theorem ku {n:Nat}:∀ {l:List It} {ls:List Nat},Ok n l->ls.length=n->∀ x∈l,(bS ls l).getD x.sym.toNat 0=ls.getD x.sym.toNat 0+1
 |y::r,ls,h,hl,x,hx=>by
  have hb:bS ls (y::r)=bS (bump ls y) r:=rfl
  have hy:=h.1 y (by simp)
  have hlb:(bump ls y).length=n:=by rw [kq,hl]
  rw [hb]
  have hr:Ok n r:=Ok.right (l:=[y]) h
  rcases PR.1 hx with rfl|hx
  ·have hout:∀ (r:List It) (ls:List Nat),(∀ z∈r,x.sym.toNat≠z.sym.toNat)->(bS ls r).getD x.sym.toNat 0=ls.getD x.sym.toNat 0:=by
    intro r
    induction r with
    |nil=>intro ls _;rfl
    |cons z r ih=>
     intro ls hz
     have:bS ls (z::r)=bS (bump ls z) r:=rfl
     rw [this,ih _ λ q hq=>hz q (by simp [hq])]
     unfold bump
     split
     ·exact dW λ e=>hz z (by simp) e.symm
     ·rfl
   rw [hout r _ (Qd.1 h.2).1]
   unfold bump
   rw [PI hy.1,fC (by omega)]
  ·rw [ku hr hlb x hx]
   have hne:=(Qd.1 h.2).1 x hx
   unfold bump
   rw [PI hy.1,dW hne]
theorem l5 {j:Nat}:∀ (l:List It) (ls:List Nat),(∀ x∈l,x.sym.toNat≠j)->(bS ls l).getD j 0=ls.getD j 0
 |[],ls,_=>rfl
 |x::r,ls,h=>by
  have:bS ls (x::r)=bS (bump ls x) r:=rfl
  rw [this,l5 r _ λ z hz=>h z (by simp [hz])]
  unfold bump
  split
  ·exact dW (h x (by simp))
  ·rfl
theorem nN (l m:List It) (ls:List Nat):dC (l++m) ls=dC l ls+dC m ls:=by simp [dC]
theorem ky {l:List It} {ls:List Nat} {d:Nat} (h:∀ x∈l,ls.getD x.sym.toNat 0=d):dC l ls=l.length*2^(15-d):=by
 unfold dC
 induction l with
 |nil=>simp
 |cons x r ih=>
  rw [Qm,TO,ih λ y hy=>h y (by simp [hy]),h x (by simp),KP,Qx,RJ,Tf]
theorem yq {l:List It} {ls ls':List Nat} (h:∀ x∈l,ls.getD x.sym.toNat 0=ls'.getD x.sym.toNat 0):dC l ls=dC l ls':=by
 unfold dC
 exact If List.sum (Rs λ x hx=>by rw [h x hx])
theorem yr {n:Nat} {A B:List It} {ls:List Nat} {k:Nat} (hO:Ok n (A++B)) (hl:ls.length=n) (hk:k<=14) (hA:∀ x∈A,ls.getD x.sym.toNat 0=14-k):
  dC (A++B) (bS ls A)+A.length*2^k=dC (A++B) ls:=by
 rw [nN,nN]
 have hB:dC B (bS ls A)=dC B ls:=yq λ x hx=>l5 A ls λ y hy=>(R4.1 hO.2).2.2 y hy x hx
 have hA1:dC A (bS ls A)=A.length*2^k:=by
  rw [ky (d:=15-k) λ x hx=>by rw [ku hO.left hl x hx,hA x hx];omega]
  rw [show 15-(15-k)=k by omega]
 have hA2:dC A ls=A.length*2^(k+1):=by
  rw [ky (d:=14-k) hA,show 15-(14-k)=k+1 by omega]
 rw [hB,hA1,hA2,QY]
 have:A.length*(2^k*2)=A.length*2^k+A.length*2^k:=by rw [Sy (2^k) 2,Nat.two_mul,Nat.mul_add]
 omega
theorem mz:∀ (l:List Nat) (i:Nat),(aN i l).Pairwise λ x y=>x.sym.toNat<y.sym.toNat
 |[],i=>by simp [aN]
 |n::r,i=>by
  rw [aN]
  split
  ·refine Qd.2 ⟨λ y hy=> ?_,mz r (i+1)⟩
   obtain ⟨_,j,h,_⟩:=jk r (i+1) y hy
   simp [h];omega
  ·exact mz r (i+1)
theorem l6 (c:List Nat):Ok c.length (leaves c):=by
 refine ⟨λ x hx=> ?_,?_⟩
 ·obtain ⟨_,j,h,hj⟩:=cu c x hx
  have:=(AT.1 hj).1
  exact ⟨by omega,by rw [h];simpa using this⟩
 ·have h1:(aN 0 c).Pairwise λ x y=>x.sym.toNat≠y.sym.toNat:=(mz c 0).imp λ h=>by omega
  exact (b8 (aN 0 c)).perm.pairwise h1 λ h=>h.symm
theorem ys (c:List Nat):∀ (k t:Nat) (ls:List Nat),ls.length=c.length->k<=15->t<=(lvl c (k-1)).length->(k=0->t=0)->
  (∀ x∈(leaves c).take (pD ((lvl c (k-1)).take t)),ls.getD x.sym.toNat 0=15-k)->dC (leaves c) (down c k t ls)+t*2^k/2=dC (leaves c) ls
 |0,t,ls,_,_,_,h0,_=>by rw [h0 rfl];simp [down]
 |k+1,t,ls,hl,hk,ht,_,hA=>by
  rw [Qy] at ht hA
  have hA':=λ x hx=>(hA x hx).trans (by omega:15-(k+1)=14-k)
  have hO:=l6 c
  have hcat:=Qc (pD ((lvl c k).take t)) (leaves c)
  have hn1:pD ((lvl c k).take t)<=(leaves c).length:=by
   rw [<-my c k];exact (TS t (lvl c k)).countP_le
  have hb:bS ls ((lvl c k).take t)=bS ls ((leaves c).take (pD ((lvl c k).take t))):=by rw [gi,gh]
  have h1:=yr (n:=c.length) (A:=(leaves c).take (pD ((lvl c k).take t))) (B:=(leaves c).drop (pD ((lvl c k).take t))) (ls:=ls) (k:=k) (by rw [hcat];exact hO) hl (by omega) hA'
  rw [hcat,KV,Qk hn1] at h1
  have hnp:=BQ ((lvl c k).take t)
  rw [KV,Qk ht] at hnp
  rw [down,hb]
  have hk2:t*2^(k+1)/2=t*2^k:=by rw [QY,<-Rw,Nat.mul_div_cancel _ (by decide)]
  rw [hk2]
  cases k with
  |zero=>
   have h0:iY ((lvl c 0).take t)=0:=by
    have:=Ax (lvl c 0) t
    have h:=mw c
    simp only [lvl] at this⊢
    omega
   rw [h0] at hnp⊢
   simp only [TC,QJ,Nat.mul_zero,down] at h1⊢
   omega
  |succ k=>
   have hmono:=Gk c k t
   have ih:=ys c (k+1) (2*iY ((lvl c (k+1)).take t)) (bS ls ((leaves c).take (pD ((lvl c (k+1)).take t)))) (by rw [bZ,hl]) (by omega) (oK c k t) (by omega) (by
    intro x hx
    rw [Qy] at hx
    have hx2:x∈(leaves c).take (pD ((lvl c (k+1)).take t)):=by
     rw [Sb] at hx⊢
     obtain ⟨i,hi⟩:=hx
     refine ⟨i,?_⟩
     rw [QE] at hi⊢
     split at hi
     ·rw [PI (by omega)];exact hi
     ·cases hi
    rw [ku (Ok.left (m:=(leaves c).drop (pD ((lvl c (k+1)).take t))) (by rw [hcat];exact hO)) hl x hx2,hA' x hx2];omega)
   have e1:2*iY ((lvl c (k+1)).take t)*2^(k+1)/2=iY ((lvl c (k+1)).take t)*2^(k+1):=by
    rw [Rw,Nat.mul_div_cancel_left _ (by decide)]
   rw [e1] at ih
   have e2:t*2^(k+1)=pD ((lvl c (k+1)).take t)*2^(k+1)+iY ((lvl c (k+1)).take t)*2^(k+1):=by rw [<-Qx,hnp]
   omega
theorem vS (ls:List Nat) (x:It) (j:Nat):ls.getD j 0<=(bump ls x).getD j 0:=by
 unfold bump
 split
 ·by_cases h:x.sym.toNat=j
  ·subst h
   by_cases hl:x.sym.toNat<ls.length
   ·rw [fC hl];omega
   ·simp [KW,Q3 (RN hl)]
  ·rw [dW h];exact KB _
 ·exact KB _
theorem lE (j:Nat):∀ (xs:List It) (ls:List Nat),ls.getD j 0<=(bS ls xs).getD j 0
 |[],ls=>KB _
 |x::r,ls=>Q7 (vS ls x j) (lE j r (bump ls x))
theorem nO (c:List Nat) (j:Nat):∀ k t ls,ls.getD j 0<=(down c k t ls).getD j 0
 |0,_,_=>KB _
 |k+1,t,ls=>Q7 (lE j _ ls) (nO c j k _ _)
theorem Gm (c:List Nat) (k t:Nat):Ok c.length (((lvl c k).take t).filter eP):=by
 rw [gh];exact Ok.left (m:=(leaves c).drop _) (by rw [Qc];exact l6 c)
theorem Az (c:List Nat) (k t j:Nat) {ls:List Nat} (hl:ls.length=c.length):(bS ls ((lvl c k).take t)).getD j 0<=ls.getD j 0+1:=by
 rw [gi]
 by_cases h:∃ x∈((lvl c k).take t).filter eP,x.sym.toNat=j
 ·obtain ⟨x,hx,rfl⟩:=h
  rw [ku (Gm c k t) hl x hx];exact KB _
 ·rw [l5 _ _ λ x hx he=>h ⟨x,hx,he⟩];omega
theorem BS (c:List Nat) (j:Nat):∀ k t ls,ls.length=c.length->(down c k t ls).getD j 0<=ls.getD j 0+k
 |0,_,_,_=>KB _
 |k+1,t,ls,hl=>by
  have h1:=Az c k t j hl
  have h2:=BS c j k (2*iY ((lvl c k).take t)) (bS ls ((lvl c k).take t)) (by rw [bZ,hl])
  rw [down];omega
theorem yu (c:List Nat) (j:Nat) (hj:∀ x∈leaves c,x.sym.toNat≠j):∀ k t ls,(down c k t ls).getD j 0=ls.getD j 0
 |0,_,_=>rfl
 |k+1,t,ls=>by
  rw [down,yu c j hj k,gi]
  refine l5 _ _ λ x hx=>hj x ?_
  rw [gh] at hx
  exact Q8 hx
theorem Gn {c:List Nat} {j n:Nat} (h:c[j]? =some n) (hn:0<n):∃ x∈leaves c,x.sym.toNat=j/\x.w=n:=by
 have:∀ (l:List Nat) (i j:Nat),l[j]? =some n->∃ x∈aN i l,x.sym.toNat=i+j/\x.w=n:=by
  intro l
  induction l with
  |nil=>intro i j h;simp at h
  |cons m r ih=>
   intro i j h
   cases j with
   |zero=>
    simp at h;subst h
    rw [aN,PI hn]
    exact ⟨⟨m,i,0,0⟩,by simp,by simp,rfl⟩
   |succ j=>
    obtain ⟨x,hx,h1,h2⟩:=ih (i+1) j (by simpa using h)
    refine ⟨x,?_,by omega,h2⟩
    rw [aN];split
    ·exact Qr _ hx
    ·exact hx
 obtain ⟨x,hx,h1,h2⟩:=this c 0 j h
 exact ⟨x,(b8 _).mem.1 hx,by omega,h2⟩
theorem qh (LS:List Nat):∀ (r s:List Nat) (i:Nat),LS.drop i=s->s.length=r.length->(∀ j,j<r.length->(s.getD j 0=0↔r.getD j 0=0))->dC (aN i r) LS=iB s
 |[],s,i,_,hl,_=>by
  have h0:s=[]:=Q2 (by simpa using hl)
  subst h0;rfl
 |n::r,s,i,hd,hl,hz=>by
  match s with
  |[]=>simp at hl
  |v::s=>
   have hi:LS.getD i 0=v:=by
    have:(LS.drop i)[0]? =some v:=by rw [hd];rfl
    rw [QZ] at this
    rw [KW];simpa using If (λ o=>o.getD 0) this
   have ih:=qh LS r s (i+1) (by rw [<-drop_drop,hd];rfl) (by simpa using hl) (λ j hj=>by have:=hz (j+1) (by simpa using hj);simpa using this)
   have h0:=hz 0 (by simp)
   simp only [getD_cons_zero] at h0
   rw [aN,iB]
   split
   ·rename_i hn
    have hv:0<v:=by omega
    have e:dC (⟨n,i,0,0⟩::aN (i+1) r) LS=2^(15-LS.getD i 0)+dC (aN (i+1) r) LS:=by simp [dC]
    rw [e,ih,hi,kr,PI hv]
   ·have hv:¬ 0<v:=by omega
    rw [ih,kr,M2 hv,Qa]
structure LensOk (c ls:List Nat):Prop where
 len:ls.length=c.length
 le:∀ j,ls.getD j 0<=15
 zero:∀ j,j<c.length->(ls.getD j 0=0↔c.getD j 0=0)
 kraft:iB ls<=2^15
theorem getD_some {l:List Nat} {j n:Nat} (h:l[j]? =some n):l.getD j 0=n:=by simp [KW,h]
theorem cK (n j:Nat):(List.replicate n 0).getD j 0=0:=by
 rw [KW,Ro];split<;>rfl
theorem Gp (c:List Nat) (hn:(leaves c).length<=1024):LensOk c (ca c):=by
 have hlen:=jo c
 have hperm:∀ ls,dC (leaves c) ls=dC (aN 0 c) ls:=λ ls=>((b8 (key:=It.w) (aN 0 c)).perm.symm.map _).sum_nat
 have hout:∀ j,j<c.length->c.getD j 0=0->∀ x∈leaves c,x.sym.toNat≠j:=λ j hj h0 x hx he=>by
  obtain ⟨_,i,h1,h2⟩:=cu c x hx
  have:i=j:=by omega
  subst this
  have hp:=l4 c 0 x hx
  rw [getD_some h2] at h0;omega
 have hin:∀ j,j<c.length->c.getD j 0≠0->∃ x∈leaves c,x.sym.toNat=j:=λ j hj h0=>by
  have hg:c[j]? =some c[j]:=py hj
  rw [getD_some hg] at h0
  obtain ⟨x,hx,h1,_⟩:=Gn hg (by omega)
  exact ⟨x,hx,h1⟩
 rcases Q1 (leaves c).length 2 with h2|h2
 ·have hE:ca c=(leaves c).foldl (λ ls x=>ls.set x.sym.toNat 1) (List.replicate c.length 0):=by unfold ca;rw [PI h2]
  rcases QF (leaves c).length with h0|h0
  ·have hnil:=Q2 h0
   rw [hnil] at hE
   have hz:∀ j,j<c.length->((ca c).getD j 0=0↔c.getD j 0=0):=λ j hj=>by
    rw [hE]
    refine ⟨λ _=> ?_,λ _=>cK ..⟩
    refine QR λ hne=> ?_
    obtain ⟨x,hx,_⟩:=hin j hj hne
    rw [hnil] at hx;cases hx
   refine ⟨hlen,λ j=>by rw [hE];show (List.replicate c.length 0).getD j 0<=15;rw [cK];omega,hz,?_⟩
   rw [<-qh (ca c) c (ca c) 0 rfl hlen hz,<-hperm,hnil]
   exact KD _
  ·obtain ⟨x,hx⟩:=TR.1 (by omega:(leaves c).length=1)
   rw [hx] at hE
   have hE':ca c=(List.replicate c.length 0).set x.sym.toNat 1:=hE
   have hxl:=(l6 c).1 x (by rw [hx];simp)
   have hg:∀ j,(ca c).getD j 0=if x.sym.toNat=j then 1 else 0:=λ j=>by
    rw [hE']
    by_cases h:x.sym.toNat=j
    ·subst h;rw [fC (by simpa using hxl.2),PI rfl]
    ·rw [dW h,M2 h,cK]
   have hz:∀ j,j<c.length->((ca c).getD j 0=0↔c.getD j 0=0):=λ j hj=>by
    rw [hg]
    by_cases h:x.sym.toNat=j
    ·rw [PI h]
     refine ⟨λ h=>by omega,λ h0=>absurd h (hout j hj h0 x (by rw [hx];simp))⟩
    ·rw [M2 h]
     refine ⟨λ _=>QR λ hne=> ?_,λ _=>rfl⟩
     obtain ⟨y,hy,hy2⟩:=hin j hj hne
     rw [hx] at hy;simp at hy;subst hy;exact h hy2
   refine ⟨hlen,λ j=>by rw [hg];split<;>omega,hz,?_⟩
   rw [<-qh (ca c) c (ca c) 0 rfl hlen hz,<-hperm,hx]
   simp only [dC,Qm,Sl,TO,sum_nil,hg,PI]
   decide
 ·have hE:ca c=down c 15 (2*(leaves c).length-2) (List.replicate c.length 0):=by unfold ca;rw [M2 (by omega)]
  have htop:=Gl c h2 14
  have hz:∀ j,j<c.length->((ca c).getD j 0=0↔c.getD j 0=0):=λ j hj=>by
   rw [hE]
   refine ⟨λ h=>QR λ hne=> ?_,λ h0=>by rw [yu c j (hout j hj h0),cK]⟩
   obtain ⟨x,hx,hxj⟩:=hin j hj hne
   rw [down] at h
   have h1:=nO c j 14 (2*iY ((lvl c 14).take (2*(leaves c).length-2))) (bS (List.replicate c.length 0) ((lvl c 14).take (2*(leaves c).length-2)))
   rw [h] at h1
   rw [gi,gh,htop,PW,<-hxj,ku (l6 c) (by simp) x hx] at h1
   omega
  refine ⟨hlen,λ j=> ?_,hz,?_⟩
  ·rw [hE]
   have:=BS c j 15 (2*(leaves c).length-2) (List.replicate c.length 0) (by simp)
   rw [cK] at this;omega
  ·rw [<-qh (ca c) c (ca c) 0 rfl hlen hz,<-hperm]
   have h:=ys c 15 (2*(leaves c).length-2) (List.replicate c.length 0) (by simp) (KB _) (rR c (by omega) hn) (by omega) (λ x _=>by rw [cK])
   rw [<-hE,ky (l:=leaves c) (ls:=List.replicate c.length 0) (d:=0) (λ x _=>cK ..)] at h
   have e:(2*(leaves c).length-2)*2^15/2=((leaves c).length-1)*2^15:=by
    rw [show 2*(leaves c).length-2=2*((leaves c).length-1) by omega,Rw,Nat.mul_div_cancel_left _ (by decide)]
   rw [e] at h
   have e2:(leaves c).length*2^15=((leaves c).length-1)*2^15+2^15:=by
    conv=>lhs;rw [show (leaves c).length=(leaves c).length-1+1 by omega]
    rw [Qx,RJ]
   simp only [Sz] at h
   omega
def iD (l ord:List Nat):Nat:=(ord.map λ i=>2^(15-aE l i)).sum
theorem dL (l a b:List Nat):iD l (a++b)=iD l a+iD l b:=by simp [iD]
theorem nP (l:List Nat) (i:Nat):iD l [i]=2^(15-aE l i):=by simp [iD]
theorem AA {l ord:List Nat} {d:Nat} (h:∀ x∈ord,aE l x=d):iD l ord=ord.length*2^(15-d):=by
 unfold iD
 induction ord with
 |nil=>simp
 |cons x r ih=>rw [Qm,TO,ih λ y hy=>h y (by simp [hy]),h x (by simp),KP,Qx,RJ,Tf]
theorem rS (LS:List Nat):∀ (s:List Nat) (i:Nat),LS.drop i=s->iD LS (bn i s)=iB s
 |[],i,_=>rfl
 |v::s,i,hd=>by
  have hi:LS.getD i 0=v:=by
   have:(LS.drop i)[0]? =some v:=by rw [hd];rfl
   rw [QZ] at this
   rw [KW];simpa using If (λ o=>o.getD 0) this
  have ih:=rS LS s (i+1) (by rw [<-drop_drop,hd];rfl)
  rw [bn,iB]
  split
  ·rename_i hv
   have e:iD LS (i::bn (i+1) s)=iD LS [i]+iD LS (bn (i+1) s):=dL LS [i] _
   rw [e,nP,ih,kr,PI hv,aE,hi]
  ·rename_i hv
   rw [ih,kr,M2 hv,Qa]
theorem DD (l:List Nat):iD l (cx l)=iB l:=by
 rw [<-rS l l 0 rfl]
 exact ((b8 (key:=aE l) (bn 0 l)).perm.symm.map _).sum_nat
theorem l7:∀ (l:List Nat) (i:Nat),(bn i l).Pairwise (· < ·)
 |[],i=>by simp [bn]
 |n::r,i=>by
  rw [bn]
  split
  ·refine Qd.2 ⟨λ y hy=> ?_,l7 r (i+1)⟩
   have:=jl r (i+1) y hy;omega
  ·exact l7 r (i+1)
theorem yv (l:List Nat):(cx l).Nodup:=(b8 (bn 0 l)).perm.nodup ((l7 l 0).imp λ h=>by omega)
theorem lF (l:List Nat) (x:Nat) (h:0<aE l x):x∈cx l:=by
 refine (b8 _).mem.1 ?_
 have:∀ (l:List Nat) (i x:Nat),0<l.getD x 0->i+x∈bn i l:=by
  intro l
  induction l with
  |nil=>intro i x h;simp at h
  |cons n r ih=>
   intro i x h
   cases x with
   |zero=>simp at h;rw [bn,PI h];simp
   |succ x=>
    have:=ih (i+1) x (by simpa using h)
    rw [bn];split
    ·exact Qr _ (by rw [show i+(x+1)=i+1+x by omega];exact this)
    ·rw [show i+(x+1)=i+1+x by omega];exact this
 have:=this l 0 x h
 rwa [Qa] at this
theorem nQ {α:Type} {P:List α->Prop} (h0:P []) (h1:∀ l x,P l->P (l++[x])) (l:List α):P l:=by
 rw [<-reverse_reverse l]
 induction l.reverse with
 |nil=>exact h0
 |cons x r ih=>rw [reverse_cons];exact h1 _ _ ih
theorem DE {L M:Nat} (h:L<=M) (hM:M<=15):2^(M-L)*2^(15-M)=2^(15-L):=by rw [<-Sx];congr 1;omega
theorem DF (l:List Nat) (hb:∀ i,aE l i<=15):∀ (ord:List Nat) (i:Nat),Srt (aE l) (ord++[i])->iD l (ord++[i])<=2^15->
  (eD l (ord++[i])).1=ord.length+1/\(eD l (ord++[i])).2.2.1=aE l i/\(eD l (ord++[i])).2.1*2^(15-aE l i)=iD l ord/\(eD l (ord++[i])).2.2.2=(eD l ord).2.2.2.set i (eD l (ord++[i])).2.1:=by
 refine nQ ?_ ?_
 ·intro i _ _;simp [eD,fM,iD]
 ·intro ord j ih i hs hk
  have hs1:Srt (aE l) (ord++[j]):=hs.left
  have hij:aE l j<=aE l i:=(Srt.append.1 hs).2.2 j (by simp) i (by simp)
  have hk1:iD l (ord++[j])<=2^15:=by rw [dL] at hk;omega
  obtain ⟨h1,h2,h3,_⟩:=ih j hs1 hk1
  have hi15:=hb i
  have hp:0<2^(15-aE l j):=R1 _
  have hbound:((eD l (ord++[j])).2.1+1)*2^(15-aE l j)<=2^15:=by
   rw [Qx,h3,RJ,<-nP,<-dL];exact hk1
  have hc:(eD l (ord++[j])).2.1+1<=2^15:=Q7 (RO _ hp) hbound
  have e1:((eD l (ord++[j])).2.1+1)%2^64=(eD l (ord++[j])).2.1+1:=Q5 (by omega)
  have hq:((eD l (ord++[j])).2.1+1)*2^(aE l i-aE l j)*2^(15-aE l i)=((eD l (ord++[j])).2.1+1)*2^(15-aE l j):=by
   rw [Rw,DE hij hi15]
  have hc2:((eD l (ord++[j])).2.1+1)*2^(aE l i-aE l j)<=2^15:=Q7 (RO _ (R1 (15-aE l i))) (by rw [hq];exact hbound)
  have e2:((eD l (ord++[j])).2.1+1)*2^(aE l i-aE l j)%2^64=((eD l (ord++[j])).2.1+1)*2^(aE l i-aE l j):=Q5 (by omega)
  have hst:(eD l (ord++[j]++[i])).2.1=((eD l (ord++[j])).2.1+1)*2^(aE l i-aE l j):=by
   rw [dV];simp only [fM,h1,h2];rw [PI (by omega),e1,e2]
  refine ⟨by rw [dV];simp [fM,h1],by rw [dV];rfl,?_,by rw [dV];rfl⟩
  rw [hst,hq,Qx,h3,RJ,dL,nP]
structure GoodLens (l:List Nat):Prop where
 le:∀ i,aE l i<=15
 kraft:iB l<=2^15
theorem u9 {l:List Nat} (h:∀ x∈l,x<=15) (i:Nat):aE l i<=15:=by
 rw [aE,KW]
 cases hg:l[i]? with
 |none=>simp
 |some v=>simpa using h v (PO hg)
theorem GoodLens.sH {l:List Nat} (h:eC l=true):GoodLens l:=by
 simp only [eC,PY,Qt,QC] at h
 exact ⟨u9 h.1,h.2⟩
theorem GoodLens.La {c l:List Nat} (h:LensOk c l):GoodLens l:=⟨h.le,h.kraft⟩
theorem oM {c l:List Nat} (h:LensOk c l):eC l=true:=by
 simp only [eC,PY,Qt,QC]
 refine ⟨λ x hx=> ?_,h.kraft⟩
 obtain ⟨i,hi⟩:=Sb.1 hx
 have:=h.le i;rwa [getD_some hi] at this
theorem yw (l:List Nat):∀ (more ord:List Nat) (x:Nat),x∉more->(eD l (ord++more)).2.2.2[x]? =(eD l ord).2.2.2[x]?
 |[],ord,x,_=>by simp
 |i::r,ord,x,h=>by
  have:=yw l r (ord++[i]) x (λ h'=>h (by simp [h']))
  rw [LW] at this
  rw [show ord++i::r=ord++([i]++r) by simp,this,dV]
  exact Rv λ e=>h (by simp [e])
theorem Jz {l:List Nat} (h:GoodLens l) {k x:Nat} (hx:(cx l)[k]? =some x):∃ code,(ff l)[x]? =some code/\code*2^(15-aE l x)=iD l ((cx l).take k)/\code<2^aE l x:=by
 have hcat:cx l=(cx l).take k++[x]++(cx l).drop (k+1):=by
  rw [<-ak hx,Qc]
 have hs:Srt (aE l) ((cx l).take k++[x]):=by rw [<-ak hx];exact Srt.take (cd _) _
 have htot:iD l (cx l)<=2^15:=by rw [DD];exact h.kraft
 have hk:iD l ((cx l).take k++[x])<=2^15:=by rw [hcat,dL] at htot;omega
 obtain ⟨_,_,h3,h4⟩:=DF l h.le _ x hs hk
 have hnd:=yv l
 have hxm:=l3 l x (PO hx)
 refine ⟨(eD l ((cx l).take k++[x])).2.1,?_,h3,?_⟩
 ·have e:ff l=(eD l ((cx l).take k++[x]++(cx l).drop (k+1))).2.2.2:=by unfold ff;rw [<-hcat]
  rw [e,yw l _ _ x,h4]
  ·rw [Qo (by rw [pB];exact hxm.1)]
  ·intro hm
   rw [hcat] at hnd
   exact (nodup_append.1 hnd).2.2 x (by simp) x hm rfl
 ·rw [dL,nP,<-h3] at hk
  have hL:=h.le x
  have e:2^15=2^aE l x*2^(15-aE l x):=by rw [<-Sx];congr 1;omega
  rw [e,<-Nat.succ_mul] at hk
  exact Nat.le_of_mul_le_mul_right hk (R1 _)
theorem Srt.three {α:Type} {key:α->Nat} (n:Nat):∀ {l:List α},Srt key l->l=l.filter (λ x=>decide (key x<n))++l.filter (λ x=>key x==n)++l.filter (λ x=>decide (n<key x))
 |[],_=>rfl
 |x::r,h=>by
  have hr:Srt key r:=(Qd.1 h).2
  have hx:=(Qd.1 h).1
  have ih:=Srt.three n hr
  rcases Sj (key x) n with hk|hk|hk
  ·have a:¬ n<key x:=by omega
   have b:¬ key x=n:=by omega
   simp only [Tg,hk,a,decide_true,Te,RA,RZ,b,QP,Rt,QA]
   exact If (x:: ·) ih
  ·have e:r.filter (λ x=>decide (key x<n))=[]:=QN.2 λ y hy=>by have:=hx y hy;simp;omega
   have a:¬ key x<n:=by omega
   have b:¬ n<key x:=by omega
   rw [e,Rc] at ih
   simp only [Tg,hk,Nat.lt_irrefl,Te,beq_self_eq_true,RA,QA,QP,e,Rc,Rt]
   exact If (x:: ·) ih
  ·have e:r.filter (λ x=>decide (key x<n))=[]:=QN.2 λ y hy=>by have:=hx y hy;simp;omega
   have e2:r.filter (λ x=>key x==n)=[]:=QN.2 λ y hy=>by have:=hx y hy;simp;omega
   have a:¬ key x<n:=by omega
   have b:¬ key x=n:=by omega
   rw [e,e2,Rc,Rc] at ih
   simp only [Tg,a,hk,decide_true,Te,RZ,b,QP,RA,e,e2,Rc,QA]
   exact If (x:: ·) ih
def HQ (l:List Nat) (n:Nat):List Nat:=(cx l).filter λ x=>aE l x==n
def low (l:List Nat) (n:Nat):List Nat:=(cx l).filter λ x=>decide (aE l x<n)
def mA (l:List Nat) (x:Nat):Nat:=(ff l).getD x 0
theorem kz (l:List Nat) (n:Nat):cx l=low l n++HQ l n++(cx l).filter λ x=>decide (n<aE l x):=Srt.three n (cd _)
theorem qi {l:List Nat} {n x:Nat} (h:x∈HQ l n):aE l x=n:=by simpa using (Ri.1 h).2
theorem Gq {l:List Nat} (h:GoodLens l) {n m x:Nat} (hx:(HQ l n)[m]? =some x):(ff l)[x]? =some (mA l x)/\mA l x*2^(15-n)=iD l (low l n)+m*2^(15-n)/\mA l x<2^n:=by
 have hm:=(AT.1 hx).1
 have hn:=qi (PO hx)
 have hk:(cx l)[(low l n).length+m]? =some x:=by
  rw [kz l n,LW,Qb (by omega),QG,Q4 hm];exact hx
 obtain ⟨code,h1,h2,h3⟩:=Jz h hk
 have hc:mA l x=code:=by rw [mA,KW,h1];rfl
 have ht:(cx l).take ((low l n).length+m)=low l n++(HQ l n).take m:=by
  conv=>lhs;rw [kz l n]
  rw [LW,take_length_add_append,take_append_of_le_length (by omega)]
 rw [hc]
 rw [hn] at h2 h3
 refine ⟨h1,?_,h3⟩
 rw [h2,ht,dL,AA (d:=n) λ y hy=>qi (Q8 hy),KV,Qk (by omega)]
theorem LR {l:List Nat} {x:Nat} (hx:0<aE l x):∃ m:Nat,(HQ l (aE l x))[m]? =some x:=by
 have:x∈HQ l (aE l x):=Ri.2 ⟨lF l x hx,by simp⟩
 exact Sb.1 this
def db (l syms:List Nat):List Bool:=syms.flatMap λ s=>aX (mA l s) (aE l s)
theorem uc (l a:List Nat) (x:Nat):db l (a++[x])=db l a++aX (mA l x) (aE l x):=by simp [db]
theorem im {l:List Nat} (h:GoodLens l):∀ syms:List Nat,(db l syms).length<=15*syms.length
 |[]=>by simp [db]
 |s::r=>by
  have ih:=im h r
  have e:db l (s::r)=aX (mA l s) (aE l s)++db l r:=by simp [db]
  have:=h.le s
  rw [e,sp,aF,KP];omega
theorem qj {l:List Nat} (h:GoodLens l) {x:Nat} (hx:0<aE l x):(ff l)[x]? =some (mA l x)/\mA l x<2^aE l x:=by
 obtain ⟨m,hm⟩:=LR hx
 obtain ⟨h1,_,h3⟩:=Gq h hm
 exact ⟨h1,h3⟩
theorem pE {l:List Nat} {x:Nat} (hx:x<l.length):l[x]? =some (aE l x):=by
 simp [aE,KW,hx]
theorem ud {l:List Nat} (h:eC l=true):∀ x∈l,x<=15:=by
 simp only [eC,PY,Qt,QC] at h;exact h.1
def iq (v:Nat):Nat:=(max (Lib.bitLen v) 1+6)/7
theorem eQ (v:Nat):iq v<=10:=by have:=bitLen_le64 v;unfold iq;omega
def kA (width:Nat) (s:Nat×Nat×Nat×Nat) (x:Nat):Nat×Nat×Nat×Nat:=
 if 0<x/2^width then (s.1+1,s.2.1+(iq (s.1+1-s.2.2.2)+iq (x/2^width)),s.2.2.1+1,s.1+1) else (s.1+1,s.2.1,s.2.2.1,s.2.2.2)
def fh (width:Nat) (l:List Nat):Nat×Nat×Nat×Nat:=l.foldl (kA width) (0,0,0,0)
def ir (width:Nat) (l:List Nat):Nat:=
 (fh width l).2.1+iq l.length+iq width+iq (fh width l).2.2.1+(l.length*width+7)/8
theorem kB (width:Nat) (l:List Nat) (x:Nat):fh width (l++[x])=kA width (fh width l) x:=by simp [fh]
def dD (width:Nat) (s:Nat×List Bool×List Nat×Nat×Nat) (x:Nat):Nat×List Bool×List Nat×Nat×Nat:=
 if 0<x/2^width then (s.1+1,s.2.1++aX (x%2^width) width,s.2.2.1++uv (s.1+1-s.2.2.2.2)++uv (x/2^width),s.2.2.2.1+1,s.1+1)
 else (s.1+1,s.2.1++aX (x%2^width) width,s.2.2.1,s.2.2.2.1,s.2.2.2.2)
def de (width:Nat) (l:List Nat):Nat×List Bool×List Nat×Nat×Nat:=l.foldl (dD width) (0,[],[],0,0)
def iu (width:Nat) (l:List Nat):List Nat:=
 uv l.length++uv width++uv (de width l).2.2.2.1++aH (de width l).2.1++(de width l).2.2.1
theorem eE (width:Nat) (l:List Nat) (x:Nat):de width (l++[x])=dD width (de width l) x:=by simp [de]
def dm (l:List Nat):Nat->Nat
 |0=>0
 |m+1=>if ir m l<ir (dm l m) l then m else dm l m
def bD (l:List Nat):List Nat:=iu (dm l 32) l
theorem gL (l:List Nat):∀ m,dm l m<=m-1
 |0=>KB _
 |m+1=>by unfold dm;split;(omega);(have:=gL l m;omega)
end Go.Kw
namespace Go.Kw
open Go.RowKit
structure Pt where
 sv:SV
 bits:Nat
 bys:List Nat
def df:Enc Pt:=⟨2,λ p=>[p.sv.val,.int .i64 (p.bits:Int)],λ _=>rfl,λ p u h=>by simp at h;rcases h with rfl|rfl<;>rfl⟩
def cG (ps:List Pt):Chunk:=jG (ps.map λ p=>cL p.sv.val 5 (aa .u8) p.bys)
section
variable {w0 w:World} {cs:List Chunk}
theorem Sat.yY (h:Sat w0 cs w):Sat w0 (cs++[cG []]) w:=by
 have:Sat w0 (cs++jG []::[]) w:=Sat.gm.2 (by simpa using h)
 exact this
theorem Sat.uF {A:List Chunk} {s:SV} {b:Nat} {l:List Nat} {ps:List Pt} (h:Sat w0 (A++[cL s.val 5 (aa .u8) l]) w) (i:Nat) (hi:A[i]? =some (cG ps)):Sat w0 (A.set i (cG (ps++[⟨s,b,l⟩]))) w:=by
 have:=h.push i hi
 rw [cG,Ql];exact this
theorem Sat.o4 (h:Sat w0 cs w) (i:Nat) {ps:List Pt} (hi:cs[i]? =some (cG ps)):∀ p∈ps,RdL w p.sv.val (aa .u8) p.bys:=λ p hp=>
 Rd.oZ ((h.get hi).1 (cL p.sv.val 5 (aa .u8) p.bys) (Qv hp))
end
def fP (l:List Nat) (k:Nat):List Nat:=(l.drop (64*k)).take 64
def dq (n:Nat):Nat:=(n+63)/64
theorem mB (l:List Nat) (k:Nat):(l.take (min (64*k+64) l.length)).drop (64*k)=fP l k:=by
 rw [fP,drop_take]
 have:min (64*k+64) l.length-64*k=min 64 (l.length-64*k):=by omega
 rw [this,<-PK,<-take_eq_take_min]
theorem cM (l:List Nat) (k:Nat):(fP l k).length=min 64 (l.length-64*k):=by simp [fP]
theorem l8 {l:List Nat} {k x:Nat} (h:x∈fP l k):x∈l:=Qi (Q8 h)
def bB (ps:List Pt):List (List Nat×Nat):=ps.map λ p=>(p.bys,p.bits)
def jK (l:List Nat) (k:Nat):List (List Nat×Nat):=(List.range k).map λ i=>(bD (fP l i),0)
theorem Gr (l:List Nat) (k:Nat):jK l (k+1)=jK l k++[(bD (fP l k),0)]:=by simp [jK,Ru]
theorem rT (ps:List Pt) (p:Pt):bB (ps++[p])=bB ps++[(p.bys,p.bits)]:=by simp [bB]
theorem dX (ps:List Pt):(bB ps).length=ps.length:=by simp [bB]
def lz (l:List Nat):Nat:=l.foldl (λ m x=>max m (x+1)) 0
theorem yx (l:List Nat) (x:Nat):lz (l++[x])=max (lz l) (x+1):=by simp [lz]
theorem Gs {l:List Nat} {B:Nat} (h:∀ x∈l,x<B):lz l<=B:=by
 have:∀ (l:List Nat) (m:Nat),m<=B->(∀ x∈l,x<B)->l.foldl (λ m x=>max m (x+1)) m<=B:=by
  intro l
  induction l with
  |nil=>intro m hm _;exact hm
  |cons x r ih=>intro m hm h;exact ih _ (by have:=h x (by simp);show max m (x+1)<=B;omega) λ y hy=>h y (by simp [hy])
 exact this l 0 (KD _) h
theorem vT:∀ (l:List Nat),∀ x∈l,x<lz l:=by
 have mono:∀ (l:List Nat) (m:Nat),m<=l.foldl (λ m x=>max m (x+1)) m:=by
  intro l
  induction l with
  |nil=>intro m;exact KB _
  |cons x r ih=>intro m;exact Q7 (Nat.le_max_left _ _) (ih _)
 have:∀ (l:List Nat) (m:Nat),∀ x∈l,x<l.foldl (λ m x=>max m (x+1)) m:=by
  intro l
  induction l with
  |nil=>intro m x h;cases h
  |cons y r ih=>
   intro m x h
   rcases PR.1 h with rfl|h
   ·exact RX (by omega:x<max m (x+1)) (mono r _)
   ·exact ih _ x h
 exact λ l=>this l 0
def dx (c:List Nat) (x:Nat):List Nat:=c.set x (c.getD x 0+1)
def js (m:Nat) (l:List Nat):List Nat:=l.foldl dx (List.replicate m 0)
theorem ue (m:Nat) (l:List Nat) (x:Nat):js m (l++[x])=dx (js m l) x:=by simp [js]
theorem fD (m:Nat) (l:List Nat):(js m l).length=m:=by
 have:∀ (l c:List Nat),(l.foldl dx c).length=c.length:=by
  intro l;induction l with
  |nil=>intro c;rfl
  |cons x r ih=>intro c;rw [RG,ih];simp [dx]
 rw [js,this];simp
theorem BT (m:Nat) (l:List Nat):∀ x∈js m l,x<=l.length:=by
 have:∀ (l c:List Nat) (B:Nat),(∀ x∈c,x<=B)->∀ x∈l.foldl dx c,x<=B+l.length:=by
  intro l
  induction l with
  |nil=>intro c B h x hx;simpa using h x hx
  |cons y r ih=>
   intro c B h x hx
   have:=ih (dx c y) (B+1) (λ z hz=>by
    rcases R2 hz with hz|rfl
    ·have:=h z hz;omega
    ·rw [KW]
     cases hg:c[y]? with
     |none=>simp
     |some v=>have:=h v (PO hg);simp;exact this) x hx
   simp only [KP];omega
 have h:=this l (List.replicate m 0) 0 (λ x hx=>by have:=Rj hx;omega)
 simpa [js] using h
theorem Gu {m:Nat} {l:List Nat} (hm:∀ x∈l,x<m):∀ x∈l,0<(js m l).getD x 0:=by
 have mono:∀ (l c:List Nat) (j:Nat),c.getD j 0<=(l.foldl dx c).getD j 0:=by
  intro l
  induction l with
  |nil=>intro c j;exact KB _
  |cons y r ih=>
   intro c j
   refine Q7 ?_ (ih _ j)
   by_cases h:y=j
   ·subst h
    by_cases hl:y<c.length
    ·rw [dx,fC hl];omega
    ·simp [KW,Q3 (RN hl)]
   ·rw [dx,dW h];exact KB _
 have:∀ (l c:List Nat),(∀ x∈l,x<c.length)->∀ x∈l,0<(l.foldl dx c).getD x 0:=by
  intro l
  induction l with
  |nil=>intro c _ x h;cases h
  |cons y r ih=>
   intro c hc x h
   have hy:=hc y (by simp)
   by_cases hx:x=y
   ·subst hx
    refine RX ?_ (mono r _ x)
    rw [dx,fC hy];omega
   ·exact ih (dx c y) (λ z hz=>by simp [dx];exact hc z (by simp [hz])) x ((PR.1 h).resolve_left hx)
 exact this l _ (by simpa using hm)
def bA (l:List Nat):List Nat:=ca (js (lz l) l)
theorem dr (l:List Nat):(bA l).length=lz l:=by rw [bA,jo,fD]
theorem l9 (l:List Nat) (h:lz l<=1024):LensOk (js (lz l) l) (bA l):=Gp _ (by have:=dA (js (lz l) l);rw [fD] at this;omega)
theorem yy {l:List Nat} (h:lz l<=1024):∀ x∈l,x<(bA l).length/\0<aE (bA l) x:=λ x hx=>by
 have h1:=vT l x hx
 have h2:=Gu (vT l) x hx
 refine ⟨by rw [dr];exact h1,?_⟩
 have:=(l9 l h).zero x (by rw [fD];exact h1)
 rw [aE];omega
def oN (l:List Nat) (k:Nat):List (List Nat×Nat):=(List.range k).map λ i=>(aH (db (bA l) (fP l i)),(db (bA l) (fP l i)).length)
theorem Gv (l:List Nat) (k:Nat):oN l (k+1)=oN l k++[(aH (db (bA l) (fP l k)),(db (bA l) (fP l k)).length)]:=by simp [oN,Ru]
def mC (kind:Nat) (p:List Nat×Nat):List Nat:=uv (if kind=0 then p.1.length else p.2)++p.1
def ee (kind:Nat) (ps:List (List Nat×Nat)):List Nat:=ps.flatMap (mC kind)
theorem fE (kind:Nat) (ps:List (List Nat×Nat)) (p:List Nat×Nat):ee kind (ps++[p])=ee kind ps++mC kind p:=by simp [ee]
def jt (n kind:Nat) (lens:List Nat):List Nat:=uv n++uv kind++(if kind=1 then uv lens.length++lens.map (· %2^8) else [])
theorem ju (n kind:Nat) (lens:List Nat):(jt n kind lens).length<=30+lens.length:=by
 have h1:=aD n;have h2:=aD kind;have h3:=aD lens.length
 unfold jt
 split<;>simp<;>omega
def jL (n kind:Nat) (lens:List Nat) (ps:List (List Nat×Nat)):List Nat:=jt n kind lens++ee kind ps
theorem j1 {ps:List Pt} {k:Nat} {x:Pt} (h:ps[k]? =some x):(bB ps)[k]? =some (x.bys,x.bits):=by simp [bB,h]
theorem jw (l:List Nat) (h:l.length<=64):(bD l).length<=10000:=by
 have hw:∀ w,w<=31->∀ l:List Nat,(de w l).2.1.length=l.length*w/\(de w l).2.2.1.length<=20*l.length:=by
  intro w _
  refine nQ ⟨by simp [de],by simp [de]⟩ λ l x ih=> ?_
  rw [eE]
  have h1:=aD ((de w l).1+1-(de w l).2.2.2.2)
  have h2:=aD (x/2^w)
  unfold dD
  simp only [sp,KP,KY]
  split<;>simp only [sp,aF]<;>(refine ⟨by rw [ih.1,Qx];omega,by omega⟩)
 have hb:=gL l 32
 obtain ⟨h1,h2⟩:=hw (dm l 32) (by omega) l
 have a1:=aD l.length
 have a2:=aD (dm l 32)
 have a3:=aD (de (dm l 32) l).2.2.2.1
 have hm:l.length*dm l 32<=64*31:=Tm h (by omega)
 unfold bD iu
 simp only [sp,bc]
 omega
theorem uf {ps:List Pt} {q:List (List Nat×Nat)} (h:bB ps=q) {C:List Nat×Nat->Prop} (hq:∀ x∈q,C x):∀ p∈ps,C (p.bys,p.bits):=λ p hp=>hq _ (by rw [<-h];exact Qv hp)
theorem KC {l:List Nat} {ps:List Pt} (h:bB ps=jK l (dq l.length)) (hn:l.length<=4096):ps.length<=100/\∀ p∈ps,p.bys.length<=20000/\p.bits<=1000000:=by
 refine ⟨by rw [<-dX,h];simp [jK,dq];omega,uf (C:=λ q=>q.1.length<=20000/\q.2<=1000000) h λ x hx=> ?_⟩
 obtain ⟨i,_,rfl⟩:=Qn.1 hx
 have:=jw (fP l i) (by rw [cM];omega)
 exact ⟨by show (bD (fP l i)).length<=20000;omega,by show 0<=1000000;omega⟩
theorem KE {l:List Nat} {ps:List Pt} (h:bB ps=oN l (dq l.length)) (hn:l.length<=4096) (hm:lz l<=1024):ps.length<=100/\∀ p∈ps,p.bys.length<=20000/\p.bits<=1000000:=by
 refine ⟨by rw [<-dX,h];simp [oN,dq];omega,uf (C:=λ q=>q.1.length<=20000/\q.2<=1000000) h λ x hx=> ?_⟩
 obtain ⟨i,_,rfl⟩:=Qn.1 hx
 have h1:=im (GoodLens.La (l9 l hm)) (fP l i)
 have h2:=cM l i
 exact ⟨by show (aH (db (bA l) (fP l i))).length<=20000;rw [bc];omega,by show (db (bA l) (fP l i)).length<=1000000;omega⟩
def jM (l:List Nat) (kind:Nat):List Nat:=jL l.length kind (if kind=1 then bA l else []) (if kind=1 then oN l (dq l.length) else jK l (dq l.length))
def br (l:List Nat):Nat:=if (jM l 1).length<(jM l 0).length then 1 else 0
def e9 (l:List Nat):List Nat:=if br l=1 then bA l else []
def lA (l:List Nat):List (List Nat×Nat):=if br l=1 then oN l (dq l.length) else jK l (dq l.length)
theorem DG {l:List Nat} (h:(jM l 1).length<(jM l 0).length):br l=1/\e9 l=bA l/\lA l=oN l (dq l.length):=by
 have hk:br l=1:=by rw [br,PI h]
 exact ⟨hk,by rw [e9,PI hk],by rw [lA,PI hk]⟩
theorem AB {l:List Nat} (h:¬ (jM l 1).length<(jM l 0).length):br l=0/\e9 l=[]/\lA l=jK l (dq l.length):=by
 have hk:br l=0:=by rw [br,M2 h]
 exact ⟨hk,by rw [e9,M2 (by omega)],by rw [lA,M2 (by omega)]⟩
theorem et (l:List Nat):br l<=1:=by unfold br;split<;>omega
structure OkN (l:List Nat):Prop where
 len:l.length<=4096
 lt:∀ x∈l,x<8
theorem OkN.PF {l:List Nat} (h:OkN l):lz l<=8:=Gs h.lt
theorem OkN.mx {l:List Nat} (h:OkN l):lz l<=1024:=Q7 h.PF (by decide)
theorem vU {l:List Nat} {ps:List Pt} (h:bB ps=lA l) (hl:OkN l):ps.length<=100/\∀ p∈ps,p.bys.length<=20000/\p.bits<=1000000:=by
 unfold lA at h
 split at h
 ·exact KE h hl.len hl.mx
 ·exact KC h hl.len
theorem ug {l:List Nat} (hl:OkN l):(e9 l).length<=1024:=by
 unfold e9
 split
 ·rw [dr];exact hl.mx
 ·simp
theorem vV (l:List Nat):jL l.length (br l) (e9 l) (lA l)=jM l (br l):=rfl
theorem Gw {n kind:Nat} {lens:List Nat} {ps:List Pt} (hll:lens.length<=1024) (h:ps.length<=100) (hb:∀ p∈ps,p.bys.length<=20000/\p.bits<=1000000):(jL n kind lens (bB ps)).length<=3000000:=by
 have h1:=ju n kind lens
 have:∀ ps:List Pt,(∀ p∈ps,p.bys.length<=20000/\p.bits<=1000000)->(ee kind (bB ps)).length<=20010*ps.length:=by
  intro ps
  induction ps with
  |nil=>intro _;simp [ee,bB]
  |cons p r ih=>
   intro hb
   have h1:=ih λ q hq=>hb q (by simp [hq])
   have h2:=hb p (by simp)
   have e:ee kind (bB (p::r))=mC kind (p.bys,p.bits)++ee kind (bB r):=by simp [ee,bB]
   have h3:=aD (if kind=0 then p.bys.length else p.bits)
   rw [e,sp,KP,mC,sp]
   simp only at h3⊢
   omega
 have h2:=this ps hb
 unfold jL
 rw [sp];omega
def CacheOk (l:List Nat) (last:Nat) (blk:List Nat):Prop:=(last=0/\blk=[])\/∃ q,last=q+1/\q<dq l.length/\blk=fP l q
theorem CacheOk.hit {l blk:List Nat} {k:Nat} (h:CacheOk l (k+1) blk):blk=fP l k:=by
 rcases h with ⟨h,_⟩|⟨q,h1,_,h2⟩
 ·omega
 ·rw [h2,show q=k by omega]
theorem CacheOk.now {l:List Nat} {k:Nat} (h:k<dq l.length):CacheOk l (k+1) (fP l k):= .inr ⟨k,rfl,h,rfl⟩
theorem CacheOk.zero (l:List Nat):CacheOk l 0 []:= .inl ⟨rfl,rfl⟩
theorem Gx {l:List Nat} {ps:List Pt} (h:bB ps=lA l) {k:Nat} (hk:k<dq l.length):∃ p,ps[k]? =some p/\(p.bys,p.bits)=if br l=1 then (aH (db (bA l) (fP l k)),(db (bA l) (fP l k)).length) else (bD (fP l k),0):=by
 have hl:ps.length=dq l.length:=by rw [<-dX,h];unfold lA;split<;>simp [jK,oN]
 obtain ⟨p,hp⟩:∃ p,ps[k]? =some p:=⟨_,py (by omega)⟩
 refine ⟨p,hp,?_⟩
 have h1:=j1 hp
 rw [h] at h1
 unfold lA at h1
 split at h1
 ·rename_i h0;rw [PI h0]
  rw [oN,PX,Sc hk] at h1
  exact (Qz h1).symm
 ·rename_i h0;rw [M2 h0]
  rw [jK,PX,Sc hk] at h1
  exact (Qz h1).symm
theorem JA (l:List Nat) (i:Nat):(fP l (i/64))[i%64]? =l[i]? :=by
 rw [fP,SU (RY _ (by decide)),QZ]
 congr 1;omega
theorem Gy {n i:Nat} (h:i<n):i/64<dq n:=by unfold dq;omega
end Go.Kw
