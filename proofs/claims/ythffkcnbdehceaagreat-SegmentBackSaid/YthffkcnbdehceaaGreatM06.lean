/-
 M06:corpora as they lie in memory,and which of them are good. No program in sight.
-/
import Derived.Test.YthffkcnbdehceaaGreatM13
import Derived.Lib.BitFns
open List hiding all
set_option linter.unusedVariables false
set_option linter.unusedSimpArgs false
set_option linter.unusedSectionVars false
namespace Go.Kw
abbrev Pr:=ByteArray×ByteArray
def aQ:Enc Pr:=⟨2,λ x=>[.string x.1,.string x.2],λ _=>rfl,λ x u h=>by simp at h;rcases h with rfl|rfl<;>rfl⟩
structure Tk where
 sv:SV
 ns:List ByteArray
def fz:Enc Tk:=⟨1,λ t=>[t.sv.val],λ _=>rfl,λ x u h=>by simp at h;subst h;rfl⟩
structure Iv where
 nm:ByteArray
 b:Int
 e:Int
 sv:SV
 ps:List Pr
def aG:Enc Iv:=⟨4,λ x=>[.string x.nm,.int .i64 x.b,.int .i64 x.e,x.sv.val],λ _=>rfl,λ x u h=>by simp at h;rcases h with rfl|rfl|rfl|rfl<;>rfl⟩
structure Nd where
 nm:ByteArray
 b:Int
 e:Int
 p:Int
def br:Enc Nd:=⟨4,λ x=>[.string x.nm,.int .i64 x.b,.int .i64 x.e,.int .i64 x.p],λ _=>rfl,λ x u h=>by simp at h;rcases h with rfl|rfl|rfl|rfl<;>rfl⟩
structure Co where
 va:Value
 vt:Value
 vx:Value
 vr:Value
 vn:Value
 vh:Value
 vl:Value
 at_:List (ByteArray×Bool)
 tk:List Tk
 tx:List Iv
 rg:List Iv
 nd:List Nd
 hd:List Int
 rl:List ByteArray
@[reducible] def Co.val (c:Co):Value:= .agg #[c.va,c.vt,c.vx,c.vr,c.vn,c.vh,c.vl]
structure RdC (w:World) (c:Co):Prop where
 a:RdL w c.va bU c.at_
 t:RdL w c.vt fz c.tk
 x:RdL w c.vx aG c.tx
 r:RdL w c.vr aG c.rg
 n:RdL w c.vn br c.nd
 h:RdL w c.vh (encI .i64) c.hd
 l:RdL w c.vl aB c.rl
 tr:∀ t∈c.tk,RdL w t.sv.val aB t.ns
 xr:∀ t∈c.tx,RdL w t.sv.val aQ t.ps
 rr:∀ t∈c.rg,RdL w t.sv.val aQ t.ps
theorem RdC.ext {w w':World} {c:Co} (h:RdC w c) (he:Ext w w'):RdC w' c:=
 ⟨h.a.ext he,h.t.ext he,h.x.ext he,h.r.ext he,h.n.ext he,h.h.ext he,h.l.ext he,λ t ht=>(h.tr t ht).ext he,λ t ht=>(h.xr t ht).ext he,λ t ht=>(h.rr t ht).ext he⟩
def j5 (s:ByteArray):Bool:=decide (s.size<=120)&&(db s&&((dO s.data.toList).all (λ u=>decide (31<u.r/\u.r≠127))&&s.data.toList.all λ c=>decide (32<=c.toNat/\c.toNat≠127)))
def l0 (s:List UInt8):Nat->Nat×List (List UInt8)
 |0=>(1,[])
 |i+1=>if 0<i/\s[i]? =some 124 then (i+1,(l0 s i).2++[(s.take i).drop (l0 s i).1]) else l0 s i
theorem Br (s:List UInt8):∀ i,(l0 s i).1<=max 1 i
 |0=>Nat.le_refl _
 |i+1=>by
  have:=Br s i
  unfold l0
  split
  ·simp only;omega
  ·omega
def za (s:ByteArray):Prop:=j5 s=true/\s.data.toList[0]? =some 124/\s.data.toList[s.size-1]? =some 124/\(∀ i,1<=i->s.data.toList[i]? =some 124->(l0 s.data.toList i).1≠i)/\∀ i x y,(l0 s.data.toList s.size).2[i]? =some x->(l0 s.data.toList s.size).2[i+1]? =some y->x<y
def okV (a:ByteArray×Bool) (v:ByteArray):Prop:=(a.2=false->j5 v=true)/\(a.2=true->za v)
theorem okV.val {a:ByteArray×Bool} {v:ByteArray} (h:okV a v):j5 v=true:=by
 cases hb:a.2 with
 |false=>exact h.1 hb
 |true=>exact (h.2 hb).1
def okPs (ps:List Pr):Prop:=ps.length<=8/\(∀ p∈ps,bA p.1=true/\j5 p.2=true)/\∀ i p q,ps[i]? =some p->ps[i+1]? =some q->SLt p.1 q.1
theorem tL:okPs []:=⟨by simp,by simp,by simp⟩
theorem tM {p:Pr} (h1:bA p.1=true) (h2:j5 p.2=true):okPs [p]:=⟨by simp,by simpa using ⟨h1,h2⟩,λ i p q _ hq=>by simp at hq⟩
instance (a b:ByteArray):Decidable (SLt a b):=inferInstanceAs (Decidable (a.data.toList<b.data.toList))
def eo (a b:ByteArray):Int:=if SLt a b then-1 else if SLt b a then 1 else 0
def dP (a b:Int):Int:=if a<b then-1 else if b<a then 1 else 0
def j6:List Pr->List Pr->Int
 |[],[]=>0
 |[],_::_=> -1
 |_::_,[]=>1
 |p::r,q::t=>if eo p.1 q.1≠0 then eo p.1 q.1 else if eo p.2 q.2≠0 then eo p.2 q.2 else j6 r t
def ea (x y:Iv):Int:=if dP x.b y.b≠0 then dP x.b y.b else if dP y.e x.e≠0 then dP y.e x.e else if eo x.nm y.nm≠0 then eo x.nm y.nm else j6 x.ps y.ps
theorem vV (a b:Int):dP a b= -dP b a:=by unfold dP;split<;>split<;>omega
theorem pq (a b:ByteArray):eo a b= -eo b a:=by
 unfold eo
 by_cases h:SLt a b
 ·rw [if_pos h,if_neg h.NL,if_pos h]
 ·by_cases k:SLt b a
  ·rw [if_neg h,if_pos k,if_pos k];rfl
  ·rw [if_neg h,if_neg k,if_neg k,if_neg h];rfl
theorem Eh {a b:ByteArray} (h:eo a b=0):a=b:=by
 unfold eo at h
 by_cases h1:SLt a b
 ·rw [if_pos h1] at h;omega
 ·by_cases h2:SLt b a
  ·rw [if_neg h1,if_pos h2] at h;omega
  ·exact Decidable.byContradiction λ hne=>h2 (SLt.KI h1 hne)
theorem kK (a:ByteArray):eo a a=0:=by unfold eo;rw [if_neg (SLt.vi a),if_neg (SLt.vi a)]
theorem vW:∀ a b:List Pr,j6 a b= -j6 b a
 |[],[]=>rfl
 |[],_::_=>rfl
 |_::_,[]=>rfl
 |p::r,q::t=>by
  unfold j6
  rw [pq p.1 q.1,pq p.2 q.2,vW r t]
  by_cases h1:eo q.1 p.1=0
  ·by_cases h2:eo q.2 p.2=0<;>simp [h1,h2]
  ·rw [if_pos (by omega),if_pos h1]
theorem Ei (x y:Iv):ea x y= -ea y x:=by
 unfold ea
 rw [vV x.b y.b,vV y.e x.e,pq x.nm y.nm,vW x.ps y.ps]
 by_cases h1:dP y.b x.b=0
 ·by_cases h2:dP x.e y.e=0
  ·by_cases h3:eo y.nm x.nm=0<;>simp [h1,h2,h3]
  ·simp [h1,h2]
 ·rw [if_pos (by omega),if_pos h1]
theorem JD {x y:Iv} (h:x.b<y.b):ea x y= -1:=by unfold ea dP;rw [if_pos h];rfl
def noX (x y:Iv):Prop:=x.nm=y.nm->¬ (x.b<y.e/\y.b<x.e/\¬ (x.b<=y.b/\y.e<=x.e)/\¬ (y.b<=x.b/\x.e<=y.e))
theorem noX.symm {x y:Iv} (h:noX x y):noX y x:=λ e k=>h e.symm ⟨k.2.1,k.1,k.2.2.2,k.2.2.1⟩
theorem noX.ends {x y:Iv} (h:x.e<=y.b):noX x y:=λ _ k=>by omega
structure okTx (n:Int) (l:List Iv):Prop where
 nm:∀ x∈l,bA x.nm=true/\okPs x.ps/\0<=x.b/\x.b<x.e/\x.e<=n
 nd:∀ (i j:Nat) x y,l[i]? =some x->l[j]? =some y->j<i->y.nm≠x.nm
 first:∀ x,l[0]? =some x->x.b=0
 next:∀ (i:Nat) x y,l[i]? =some x->l[i+1]? =some y->y.b=x.e
 last:∀ (i:Nat) x,l[i]? =some x->i+1=l.length->x.e=n
 none_:l=[]↔n=0
def inT (l:List Iv) (b e:Int):Prop:=∃ t∈l,t.b<=b/\b<e/\e<=t.e
structure okRg (tx rg:List Iv):Prop where
 el:∀ x∈rg,bA x.nm=true/\inT tx x.b x.e/\okPs x.ps
 asc:∀ (i:Nat) x y,rg[i]? =some x->rg[i+1]? =some y->ea x y<=0
 nox:∀ x∈rg,∀ y∈rg,noX x y
structure okNd (tx:List Iv) (nd:List Nd):Prop where
 el:∀ x∈nd,bA x.nm=true/\inT tx x.b x.e
 par:∀ (i:Nat) x,nd[i]? =some x->x.p= -1\/(x.p+1=i/\0<i/\∀ y,nd[i-1]? =some y->y.p= -1/\y.b<=x.b/\x.e<=y.e)
 sib:∀ (s i:Nat) x y,nd[s]? =some y->nd[i]? =some x->s<i->y.p=x.p->y.e<=x.b
structure okHd (n:Nat) (tx:List Iv) (hd:List Int) (rl:List ByteArray):Prop where
 len:hd.length=n/\rl.length=n
 bare:∃ i:Nat,(∃ h,hd[i]? =some h/\h≠-1)\/∃ s,rl[i]? =some s/\s≠ByteArray.empty
 el:∀ (i:Nat) h,hd[i]? =some h->h= -1\/∃ t∈tx,t.b<=i/\(i:Int)<t.e/\t.b<=h/\h<t.e
 nm:∀ s∈rl,s=ByteArray.empty\/bA s=true
 rk:∃ rank:Nat->Nat,∀ (i:Nat) h,hd[i]? =some h->0<=h->rank h.toNat<rank i
structure OkC (k:Nat) (c:Co):Prop where
 at_:atsOk c.at_
 tk:∀ t∈c.tk,t.ns.length=c.at_.length/\∀ (i:Nat) v a,t.ns[i]? =some v->c.at_[i]? =some a->okV a v
 tx:okTx c.tk.length c.tx
 rg:okRg c.tx c.rg
 nd:okNd c.tx c.nd
 hd:(c.hd=[]/\c.rl=[])\/okHd c.tk.length c.tx c.hd c.rl
 ntk:c.tk.length<=12*k
 ntx:c.tx.length<=k
 nrg:c.rg.length<=8*k
 nnd:c.nd.length<=8*k
def kL (n:Int) (x:Iv):Iv:={x with b:=x.b+n,e:=x.e+n}
def Ak (n m:Int) (x:Nd):Nd:={x with b:=x.b+n,e:=x.e+n,p:=if 0<=x.p then x.p+m else x.p}
def xk (n:Int) (h:Int):Int:=if 0<=h then h+n else h
def j7 (c:Co):List Int:=if 0<c.hd.length then c.hd else List.replicate c.tk.length (-1)
def jO (c:Co):List ByteArray:=if 0<c.hd.length then c.rl else List.replicate c.tk.length ByteArray.empty
structure IsCat (a b c:Co):Prop where
 at_:c.at_=a.at_
 tk:c.tk=a.tk++b.tk
 tx:c.tx=a.tx++b.tx.map (kL a.tk.length)
 rg:c.rg=a.rg++b.rg.map (kL a.tk.length)
 nd:c.nd=a.nd++b.nd.map (Ak a.tk.length a.nd.length)
 hd:(0<a.hd.length+b.hd.length/\c.hd=j7 a++(j7 b).map (xk a.tk.length)/\c.rl=jO a++jO b)\/(a.hd.length+b.hd.length=0/\c.hd=[]/\c.rl=[])
theorem nN {α:Type} {l r:List α} {i:Nat} {x:α} (h:(l++r)[i]? =some x):(i<l.length/\l[i]? =some x)\/(l.length<=i/\r[i-l.length]? =some x):=by
 rcases Nat.lt_or_ge i l.length with h1|h1
 ·rw [getElem?_append_left h1] at h;exact .inl ⟨h1,h⟩
 ·rw [getElem?_append_right h1] at h;exact .inr ⟨h1,h⟩
theorem bV {α β:Type} {l:List β} {r:List α} {f:α->β} {i:Nat} {x:β} (h:(l++r.map f)[i]? =some x):(i<l.length/\l[i]? =some x)\/(l.length<=i/\∃ y,r[i-l.length]? =some y/\x=f y):=by
 rcases nN h with h|⟨h1,h2⟩
 ·exact .inl h
 ·rw [getElem?_map,Option.map_eq_some_iff] at h2
  obtain ⟨y,hy,rfl⟩:=h2
  exact .inr ⟨h1,y,hy,rfl⟩
theorem fA {α β:Type} {l:List β} {r:List α} {f:α->β} {x:β} (h:x∈l++r.map f):x∈l\/∃ y∈r,x=f y:=by
 rcases mem_append.1 h with h|h
 ·exact .inl h
 ·obtain ⟨y,hy,rfl⟩:=mem_map.1 h
  exact .inr ⟨y,hy,rfl⟩
theorem cQ {α:Type} {l:List α} {i:Nat} {x:α} (h:l[i]? =some x):x∈l:=mem_of_getElem? h
theorem JE (n:Int) (x y:Iv):ea (kL n x) (kL n y)=ea x y:=by
 have e:∀ a b:Int,dP (a+n) (b+n)=dP a b:=λ a b=>by
  unfold dP
  by_cases h1:a<b
  ·rw [if_pos h1,if_pos (by omega)]
  ·rw [if_neg h1,if_neg (by omega)]
   by_cases h2:b<a
   ·rw [if_pos h2,if_pos (by omega)]
   ·rw [if_neg h2,if_neg (by omega)]
 unfold ea kL
 simp only [e]
theorem okTx.cat {n m:Nat} {l r:List Iv} (hl:okTx n l) (hr:okTx m r) (hd:∀ x∈r,∀ y∈l,y.nm≠x.nm):okTx ((n+m:Nat):Int) (l++r.map (kL n)) where
 nm x hx:=by
  rcases fA hx with h|⟨y,hy,rfl⟩
  ·have:=hl.nm x h;exact ⟨this.1,this.2.1,this.2.2.1,this.2.2.2.1,by have:=this.2.2.2.2;omega⟩
  ·have:=hr.nm y hy;exact ⟨this.1,this.2.1,by unfold kL;simp only;omega,by unfold kL;simp only;omega,by unfold kL;simp only;omega⟩
 nd i j x y hx hy hji:=by
  rcases bV hx with ⟨h1,h2⟩|⟨h1,z,hz,rfl⟩
  ·rcases bV hy with ⟨h3,h4⟩|⟨h3,z',hz',rfl⟩
   ·exact hl.nd i j x y h2 h4 hji
   ·omega
  ·rcases bV hy with ⟨h3,h4⟩|⟨h3,z',hz',rfl⟩
   ·exact hd z (cQ hz) y (cQ h4)
   ·exact hr.nd _ _ z z' hz hz' (by omega)
 first x hx:=by
  rcases bV hx with ⟨h1,h2⟩|⟨h1,z,hz,rfl⟩
  ·exact hl.first x h2
  ·have h0:l=[]:=eq_nil_of_length_eq_zero (by omega)
   have:=hl.none_.1 h0
   rw [h0] at hz
   have:=hr.first z hz
   unfold kL;simp only;omega
 next i x y hx hy:=by
  rcases bV hx with ⟨h1,h2⟩|⟨h1,z,hz,rfl⟩
  ·rcases bV hy with ⟨h3,h4⟩|⟨h3,z',hz',rfl⟩
   ·exact hl.next i x y h2 h4
   ·have e1:=hl.last i x h2 (by omega)
    have:i+1-l.length=0:=by omega
    rw [this] at hz'
    have:=hr.first z' hz'
    unfold kL;simp only;omega
  ·rcases bV hy with ⟨h3,h4⟩|⟨h3,z',hz',rfl⟩
   ·omega
   ·have e:i+1-l.length=i-l.length+1:=by omega
    rw [e] at hz'
    have:=hr.next _ z z' hz hz'
    unfold kL;simp only;omega
 last i x hx hi:=by
  simp only [length_append,length_map] at hi
  rcases bV hx with ⟨h1,h2⟩|⟨h1,z,hz,rfl⟩
  ·have h0:r=[]:=eq_nil_of_length_eq_zero (by omega)
   have:=hr.none_.1 h0
   have:=hl.last i x h2 (by omega)
   omega
  ·have:=hr.last _ z hz (by omega)
   unfold kL;simp only;omega
 none_:=by
  rw [append_eq_nil_iff,map_eq_nil_iff,hl.none_,hr.none_]
  omega
theorem inT.left {l r:List Iv} {b e:Int} (h:inT l b e):inT (l++r) b e:=let ⟨t,ht,h'⟩:=h;⟨t,mem_append_left _ ht,h'⟩
theorem inT.right {l r:List Iv} {n b e:Int} (h:inT r b e):inT (l++r.map (kL n)) (b+n) (e+n):=let ⟨t,ht,h1,h2,h3⟩:=h
 ⟨kL n t,mem_append_right _ (mem_map_of_mem ht),by unfold kL;simp only;omega,by omega,by unfold kL;simp only;omega⟩
theorem inT.bd {n b e:Int} {l:List Iv} (h:inT l b e) (ho:okTx n l):0<=b/\b<e/\e<=n:=by
 obtain ⟨t,ht,h1,h2,h3⟩:=h
 have:=(ho.nm t ht).2.2
 omega
theorem okRg.cat {n m:Nat} {l r tl tr:List Iv} (ht:okTx n tl) (hs:okTx m tr) (hl:okRg tl l) (hr:okRg tr r):okRg (tl++tr.map (kL n)) (l++r.map (kL n)) where
 el x hx:=by
  rcases fA hx with h|⟨y,hy,rfl⟩
  ·have:=hl.el x h;exact ⟨this.1,this.2.1.left,this.2.2⟩
  ·have:=hr.el y hy;exact ⟨this.1,this.2.1.right,this.2.2⟩
 asc i x y hx hy:=by
  rcases bV hx with ⟨h1,h2⟩|⟨h1,z,hz,rfl⟩
  ·rcases bV hy with ⟨h3,h4⟩|⟨h3,z',hz',rfl⟩
   ·exact hl.asc i x y h2 h4
   ·have e1:=(hl.el x (cQ h2)).2.1.bd ht
    have e2:=(hr.el z' (cQ hz')).2.1.bd hs
    rw [JD (by unfold kL;simp only;omega)];omega
  ·rcases bV hy with ⟨h3,h4⟩|⟨h3,z',hz',rfl⟩
   ·omega
   ·have e:i+1-l.length=i-l.length+1:=by omega
    rw [e] at hz'
    rw [JE];exact hr.asc _ z z' hz hz'
 nox x hx y hy:=by
  rcases fA hx with h|⟨z,hz,rfl⟩
  ·rcases fA hy with h'|⟨z',hz',rfl⟩
   ·exact hl.nox x h y h'
   ·have e1:=(hl.el x h).2.1.bd ht
    have e2:=(hr.el z' hz').2.1.bd hs
    exact .ends (by unfold kL;simp only;omega)
  ·rcases fA hy with h'|⟨z',hz',rfl⟩
   ·have e1:=(hl.el y h').2.1.bd ht
    have e2:=(hr.el z hz).2.1.bd hs
    exact noX.symm (.ends (by unfold kL;simp only;omega))
   ·intro e k
    exact hr.nox z hz z' hz' e (by unfold kL at k;simp only at k;omega)
theorem okNd.cat {n m:Nat} {l r:List Nd} {tl tr:List Iv} (ht:okTx n tl) (hs:okTx m tr) (hl:okNd tl l) (hr:okNd tr r):okNd (tl++tr.map (kL n)) (l++r.map (Ak n l.length)) where
 el x hx:=by
  rcases fA hx with h|⟨y,hy,rfl⟩
  ·have:=hl.el x h;exact ⟨this.1,this.2.left⟩
  ·have:=hr.el y hy;exact ⟨this.1,this.2.right⟩
 par i x hx:=by
  rcases bV hx with ⟨h1,h2⟩|⟨h1,z,hz,rfl⟩
  ·rcases hl.par i x h2 with h|⟨h,h0,hp⟩
   ·exact .inl h
   ·refine .inr ⟨h,h0,λ y hy=>hp y ?_⟩
    rw [getElem?_append_left (by omega)] at hy;exact hy
  ·rcases hr.par _ z hz with h|⟨h,h0,hp⟩
   ·exact .inl (by unfold Ak;simp only;rw [if_neg (by omega)];exact h)
   ·refine .inr ⟨by unfold Ak;simp only;rw [if_pos (by omega)];omega,by omega,λ y hy=> ?_⟩
    rcases bV hy with ⟨h3,_⟩|⟨h3,z',hz',rfl⟩
    ·omega
    ·have e:i-1-l.length=i-l.length-1:=by omega
     rw [e] at hz'
     have:=hp z' hz'
     unfold Ak;simp only
     rw [if_neg (by omega)]
     omega
 sib s i x y hy hx hsi hp:=by
  rcases bV hx with ⟨h1,h2⟩|⟨h1,z,hz,rfl⟩
  ·rcases bV hy with ⟨h3,h4⟩|⟨h3,z',hz',rfl⟩
   ·exact hl.sib s i x y h4 h2 hsi hp
   ·omega
  ·rcases bV hy with ⟨h3,h4⟩|⟨h3,z',hz',rfl⟩
   ·have e1:=(hl.el y (cQ h4)).2.bd ht
    have e2:=(hr.el z (cQ hz)).2.bd hs
    unfold Ak;simp only;omega
   ·have q:=hr.sib _ _ z z' hz' hz (by omega) (by
     unfold Ak at hp;simp only at hp
     have a1:=hr.par _ z hz
     have a2:=hr.par _ z' hz'
     split at hp<;>split at hp<;>omega)
    unfold Ak;simp only;omega
structure okHw (n:Nat) (tx:List Iv) (hd:List Int) (rl:List ByteArray):Prop where
 len:hd.length=n/\rl.length=n
 el:∀ (i:Nat) h,hd[i]? =some h->h= -1\/∃ t∈tx,t.b<=i/\(i:Int)<t.e/\t.b<=h/\h<t.e
 nm:∀ s∈rl,s=ByteArray.empty\/bA s=true
 rk:∃ rank:Nat->Nat,∀ (i:Nat) h,hd[i]? =some h->0<=h->rank h.toNat<rank i
theorem okHw.none (n:Nat) (tx:List Iv):okHw n tx (List.replicate n (-1)) (List.replicate n ByteArray.empty):=by
 have e:∀ (i:Nat) (h:Int),(List.replicate n (-1:Int))[i]? =some h->h= -1:=λ i h hi=>(eq_of_mem_replicate (cQ hi))
 exact ⟨by simp,λ i h hi=> .inl (e i h hi),λ s hs=> .inl (eq_of_mem_replicate hs),λ _=>0,λ i h hi h0=>by have:=e i h hi;omega⟩
theorem okHw.cat {n m:Nat} {tl tr:List Iv} {hl hr:List Int} {rl rr:List ByteArray} (ht:okTx n tl) (hs:okTx m tr) (hL:okHw n tl hl rl) (hR:okHw m tr hr rr):okHw (n+m) (tl++tr.map (kL n)) (hl++hr.map (xk n)) (rl++rr) where
 len:=by simp [hL.len,hR.len]
 el i h hi:=by
  rcases bV hi with ⟨h1,h2⟩|⟨h1,z,hz,rfl⟩
  ·rcases hL.el i h h2 with h|⟨t,ht',h3⟩
   ·exact .inl h
   ·exact .inr ⟨t,mem_append_left _ ht',h3⟩
  ·rw [hL.len.1] at h1 hz
   rcases hR.el _ z hz with h|⟨t,ht',h3,h4,h5,h6⟩
   ·exact .inl (by unfold xk;rw [if_neg (by omega)];exact h)
   ·have h0:=(hs.nm t ht').2.2.1
    refine .inr ⟨kL n t,mem_append_right _ (mem_map_of_mem ht'),?_⟩
    unfold xk kL
    rw [if_pos (by omega)]
    simp only
    omega
 nm s hs':=by
  rcases mem_append.1 hs' with h|h
  ·exact hL.nm s h
  ·exact hR.nm s h
 rk:=by
  obtain ⟨ra,hra⟩:=hL.rk
  obtain ⟨rb,hrb⟩:=hR.rk
  refine ⟨λ i=>if i<n then ra i else rb (i-n),λ i h hi h0=> ?_⟩
  rcases bV hi with ⟨h1,h2⟩|⟨h1,z,hz,rfl⟩
  ·have:=hra i h h2 h0
   have hin:h<(n:Int):=by
    rcases hL.el i h h2 with e|⟨t,ht',h3⟩
    ·omega
    ·have:=(ht.nm t ht').2.2.2.2;omega
   rw [hL.len.1] at h1
   show (if h.toNat<n then ra h.toNat else rb (h.toNat-n))<if i<n then ra i else rb (i-n)
   rw [if_pos (by omega),if_pos h1];exact this
  ·rw [hL.len.1] at h1 hz
   have hz0:0<=z:=by unfold xk at h0;split at h0<;>omega
   have:=hrb _ z hz hz0
   have e:xk n z=z+n:=by unfold xk;rw [if_pos hz0]
   show (if (xk n z).toNat<n then ra (xk n z).toNat else rb ((xk n z).toNat-n))<if i<n then ra i else rb (i-n)
   rw [e,if_neg (by omega),if_neg (by omega)]
   have e2:(z+(n:Int)).toNat-n=z.toNat:=by omega
   rw [e2];exact this
theorem OkC.hw {k:Nat} {c:Co} (h:OkC k c):okHw c.tk.length c.tx (j7 c) (jO c):=by
 unfold j7 jO
 rcases h.hd with ⟨h1,h2⟩|h1
 ·rw [h1,if_neg (by simp),if_neg (by simp)];exact .none _ _
 ·by_cases h0:0<c.hd.length
  ·rw [if_pos h0,if_pos h0];exact ⟨h1.len,h1.el,h1.nm,h1.rk⟩
  ·rw [if_neg h0,if_neg h0];exact .none _ _
theorem OkC.cat {j k:Nat} {a b c:Co} (ha:OkC j a) (hb:OkC k b) (he:a.at_=b.at_) (hd:∀ x∈b.tx,∀ y∈a.tx,y.nm≠x.nm) (hc:IsCat a b c):OkC (j+k) c where
 at_:=hc.at_▸ha.at_
 tk t ht:=by
  rw [hc.tk] at ht
  rw [hc.at_]
  rcases mem_append.1 ht with h|h
  ·exact ha.tk t h
  ·rw [he];exact hb.tk t h
 tx:=by rw [hc.tk,hc.tx,length_append];exact ha.tx.cat hb.tx hd
 rg:=by rw [hc.tx,hc.rg];exact okRg.cat ha.tx hb.tx ha.rg hb.rg
 nd:=by rw [hc.tx,hc.nd];exact okNd.cat ha.tx hb.tx ha.nd hb.nd
 hd:=by
  rcases hc.hd with ⟨h0,h1,h2⟩|⟨_,h1,h2⟩
  ·right
   have hw:=okHw.cat ha.tx hb.tx ha.hw hb.hw
   rw [hc.tk,hc.tx,h1,h2,length_append]
   refine ⟨hw.len,?_,hw.el,hw.nm,hw.rk⟩
   rcases Nat.lt_or_ge 0 a.hd.length with h3|h3
   ·rcases ha.hd with ⟨h4,_⟩|h4
    ·rw [h4] at h3;simp at h3
    ·obtain ⟨i,⟨h,hi,hne⟩|⟨s,hi,hne⟩⟩:=h4.bare
     ·refine ⟨i,.inl ⟨h,?_,hne⟩⟩
      unfold j7;rw [if_pos h3,getElem?_append_left (List.getElem?_eq_some_iff.1 hi).1];exact hi
     ·refine ⟨i,.inr ⟨s,?_,hne⟩⟩
      unfold jO;rw [if_pos h3,getElem?_append_left (List.getElem?_eq_some_iff.1 hi).1];exact hi
   ·have h3':0<b.hd.length:=by omega
    rcases hb.hd with ⟨h4,_⟩|h4
    ·rw [h4] at h3';simp at h3'
    ·obtain ⟨i,⟨h,hi,hne⟩|⟨s,hi,hne⟩⟩:=h4.bare
     ·refine ⟨a.tk.length+i,.inl ⟨xk a.tk.length h,?_,?_⟩⟩
      ·rw [getElem?_append_right (by rw [ha.hw.len.1];omega),ha.hw.len.1,Nat.add_sub_cancel_left,getElem?_map]
       unfold j7;rw [if_pos h3',hi];rfl
      ·unfold xk
       rcases h4.el i h hi with e|⟨t,ht,e⟩
       ·exact absurd e hne
       ·have:=(hb.tx.nm t ht).2.2.1
        rw [if_pos (by omega)];omega
     ·refine ⟨a.tk.length+i,.inr ⟨s,?_,hne⟩⟩
      rw [getElem?_append_right (by rw [ha.hw.len.2];omega),ha.hw.len.2,Nat.add_sub_cancel_left]
      unfold jO;rw [if_pos h3',hi]
  ·exact .inl ⟨h1,h2⟩
 ntk:=by rw [hc.tk,length_append];have:=ha.ntk;have:=hb.ntk;omega
 ntx:=by rw [hc.tx,length_append,length_map];have:=ha.ntx;have:=hb.ntx;omega
 nrg:=by rw [hc.rg,length_append,length_map];have:=ha.nrg;have:=hb.nrg;omega
 nnd:=by rw [hc.nd,length_append,length_map];have:=ha.nnd;have:=hb.nnd;omega
def Bs (l:List Iv):Prop:=∀ (i:Nat) x y,l[i]? =some x->l[i+1]? =some y->ea x y<=0
theorem GA:Bs []:=λ i x y h=>by simp at h
theorem GB {m:List Iv} {x:Iv} {k:Nat} (h:Bs m) (hk:k<=m.length) (h1:∀ y,0<k->m[k-1]? =some y->ea y x<=0) (h2:∀ y,m[k]? =some y->0<ea y x):Bs (m.take k++x::m.drop k):=by
 have hl:(m.take k).length=k:=by rw [length_take];omega
 intro i a b ha hb
 rcases nN ha with ⟨c1,c2⟩|⟨c1,c2⟩
 ·rw [hl] at c1
  rw [getElem?_take,if_pos (by omega)] at c2
  rcases nN hb with ⟨d1,d2⟩|⟨d1,d2⟩
  ·rw [hl] at d1
   rw [getElem?_take,if_pos (by omega)] at d2
   exact h i a b c2 d2
  ·rw [hl] at d1 d2
   have e:i+1-k=0:=by omega
   rw [e] at d2
   cases d2
   have e2:k-1=i:=by omega
   exact h1 a (by omega) (e2▸c2)
 ·rw [hl] at c1 c2
  rcases nN hb with ⟨d1,d2⟩|⟨d1,d2⟩
  ·rw [hl] at d1;omega
  ·rw [hl] at d1 d2
   rcases Nat.eq_zero_or_pos (i-k) with e|e
   ·rw [e] at c2;cases c2
    have e2:i+1-k=1:=by omega
    rw [e2] at d2
    simp only [getElem?_cons_succ,getElem?_drop,Nat.add_zero] at d2
    have:=h2 b d2
    rw [Ei];omega
   ·obtain ⟨j,hj⟩:∃ j,i-k=j+1:=⟨i-k-1,by omega⟩
    have e2:i+1-k=j+2:=by omega
    rw [hj] at c2;rw [e2] at d2
    simp only [getElem?_cons_succ,getElem?_drop] at c2 d2
    exact h _ a b c2 (by rw [Nat.add_assoc];exact d2)
theorem GC {α:Type} (m l:List α) (x:α) (k:Nat) (h:m.Perm l):(m.take k++x::m.drop k).Perm (l++[x]):=by
 have h1:(m.take k++x::m.drop k).Perm (x::m):=by
  refine perm_middle.trans ?_
  rw [take_append_drop]
 refine h1.trans ((h.cons x).trans ?_)
 exact (perm_append_singleton x l).symm
structure ndI (at_:Int) (l:List Nd):Prop where
 el:∀ x∈l,bA x.nm=true/\0<=x.b/\x.b<x.e/\x.e<=at_
 par:∀ (i:Nat) x,l[i]? =some x->x.p= -1\/(x.p+1=i/\0<i/\∀ y,l[i-1]? =some y->y.p= -1/\y.b<=x.b/\x.e<=y.e)
 sib:∀ (s i:Nat) x y,l[s]? =some y->l[i]? =some x->s<i->y.p=x.p->y.e<=x.b
theorem JF (z:Int):ndI z []:=⟨by simp,by simp,by simp⟩
theorem fB {α:Type} {l:List α} {i:Nat} {x y:α} (h:(l++[y])[i]? =some x):(i<l.length/\l[i]? =some x)\/(i=l.length/\x=y):=by
 rcases nN h with h|⟨h1,h2⟩
 ·exact .inl h
 ·have:=(List.getElem?_eq_some_iff.1 h2).1
  have e:i-l.length=0:=by simp at this;omega
  rw [e] at h2;cases h2
  exact .inr ⟨by omega,rfl⟩
theorem ndI.top {at_ b e:Int} {l:List Nd} {nm:ByteArray} (h:ndI at_ l) (hn:bA nm=true) (h0:0<=at_) (h1:at_<=b) (h2:b<e):ndI e (l++[⟨nm,b,e,-1⟩]) where
 el x hx:=by
  rcases mem_append.1 hx with hx|hx
  ·have:=h.el x hx;exact ⟨this.1,by omega,by omega,by omega⟩
  ·rw [mem_singleton.1 hx];exact ⟨hn,by simp only;omega,h2,Int.le_refl _⟩
 par i x hx:=by
  rcases fB hx with ⟨c1,c2⟩|⟨c1,rfl⟩
  ·rcases h.par i x c2 with q|⟨q1,q2,q3⟩
   ·exact .inl q
   ·exact .inr ⟨q1,q2,λ y hy=>q3 y (by rw [getElem?_append_left (by omega)] at hy;exact hy)⟩
  ·exact .inl rfl
 sib s i x y hy hx hsi hp:=by
  rcases fB hx with ⟨c1,c2⟩|⟨c1,rfl⟩
  ·rcases fB hy with ⟨d1,d2⟩|⟨d1,rfl⟩
   ·exact h.sib s i x y d2 c2 hsi hp
   ·omega
  ·rcases fB hy with ⟨d1,d2⟩|⟨d1,rfl⟩
   ·have:=h.el y (cQ d2);simp only;omega
   ·omega
theorem ndI.PK {at_ b e c d:Int} {l:List Nd} {nm lm:ByteArray} (h:ndI e (l++[⟨nm,b,e,-1⟩])) (hn:bA lm=true) (h1:b<=c) (h2:c<d) (h3:d<=e):ndI e ((l++[⟨nm,b,e,-1⟩])++[⟨lm,c,d,l.length⟩]) where
 el x hx:=by
  rcases mem_append.1 hx with hx|hx
  ·exact h.el x hx
  ·rw [mem_singleton.1 hx]
   have:=h.el ⟨nm,b,e,-1⟩ (by simp)
   exact ⟨hn,by simp only at this⊢;omega,h2,h3⟩
 par i x hx:=by
  rcases fB hx with ⟨c1,c2⟩|⟨c1,rfl⟩
  ·rcases h.par i x c2 with q|⟨q1,q2,q3⟩
   ·exact .inl q
   ·exact .inr ⟨q1,q2,λ y hy=>q3 y (by rw [getElem?_append_left (by omega)] at hy;exact hy)⟩
  ·simp only [length_append,length_singleton] at c1
   refine .inr ⟨by simp only;omega,by omega,λ y hy=> ?_⟩
   have e1:i-1=l.length:=by omega
   rw [e1,append_assoc,getElem?_append_right (Nat.le_refl _),Nat.sub_self] at hy
   cases hy
   exact ⟨rfl,h1,h3⟩
 sib s i x y hy hx hsi hp:=by
  rcases fB hx with ⟨c1,c2⟩|⟨c1,rfl⟩
  ·rcases fB hy with ⟨d1,d2⟩|⟨d1,rfl⟩
   ·exact h.sib s i x y d2 c2 hsi hp
   ·omega
  ·rcases fB hy with ⟨d1,d2⟩|⟨d1,rfl⟩
   ·simp only [length_append,length_singleton] at c1 d1
    simp only at hp
    rcases h.par s y d2 with q|⟨q1,q2,_⟩<;>omega
   ·omega
theorem ndI.ok {at_ n:Int} {l:List Nd} {t:Iv} (h:ndI at_ l) (h1:at_<=n) (ht:t.b=0) (he:t.e=n):okNd [t] l:=
 ⟨λ x hx=>⟨(h.el x hx).1,t,by simp,by have:=h.el x hx;omega,by have:=h.el x hx;omega,by have:=h.el x hx;omega⟩,h.par,h.sib⟩
structure ordI (i:Nat) (o:List Nat):Prop where
 nd:o.Nodup
 len:o.length=i
 lt:∀ x∈o,x<i
 all:∀ x,x<i->x∈o
theorem GD:ordI 0 []:=⟨by simp,rfl,by simp,by simp⟩
theorem ordI.ins {i:Nat} {o:List Nat} (h:ordI i o) (k:Nat) (hk:k<=i):ordI (i+1) (o.take k++[i]++o.drop k):=by
 have hp:(o.take k++[i]++o.drop k).Perm (i::o):=by
  rw [append_assoc,singleton_append]
  refine perm_middle.trans ?_
  rw [take_append_drop]
 refine ⟨hp.nodup_iff.2 (nodup_cons.2 ⟨λ hm=>by have:=h.lt i hm;omega,h.nd⟩),by rw [hp.length_eq,length_cons,h.len],λ x hx=> ?_,λ x hx=>hp.mem_iff.2 (mem_cons.2 ((Nat.lt_or_ge x i).elim (λ q=> .inr (h.all x q)) λ q=> .inl (by omega)))⟩
 rcases mem_cons.1 (hp.mem_iff.1 hx) with rfl|hx
 ·omega
 ·have:=h.lt x hx;omega
structure hdI (n:Nat) (o:List Nat) (j:Nat) (hd:List Int) (rl:List ByteArray) (some_:Bool):Prop where
 len:hd.length=n/\rl.length=n
 el:∀ (r x:Nat),r<j->o[r]? =some x->hd[x]? =some (-1)\/∃ (q y:Nat),q<r/\o[q]? =some y/\hd[x]? =some (y:Int)
 nm:∀ s∈rl,s=ByteArray.empty\/bA s=true
 bare:some_=true->∃ r x:Nat,r<j/\o[r]? =some x/\((∃ h,hd[x]? =some h/\h≠-1)\/∃ s,rl[x]? =some s/\s≠ByteArray.empty)
theorem Ej {n:Nat} {o:List Nat}:hdI n o 0 (List.replicate n 0) (List.replicate n ByteArray.empty) false:=
 ⟨by simp,λ r x h=>absurd h (by omega),λ s hs=> .inl (eq_of_mem_replicate hs),λ h=>by cases h⟩
theorem nO {α:Type} {l:List α} {i j:Nat} {x:α} (h:i<l.length):(l.set i x)[j]? =if i=j then some x else l[j]? :=by
 by_cases e:i=j
 ·subst e;rw [if_pos rfl,getElem?_set_self h]
 ·rw [if_neg e,getElem?_set_ne e]
theorem vX {α:Type} {l:List α} (h:l.Nodup):∀ {i j:Nat} {x:α},l[i]? =some x->l[j]? =some x->i=j:=by
 induction l with
 |nil=>intro i j x hi;simp at hi
 |cons a l ih=>
  intro i j x hi hj
  obtain ⟨h1,h2⟩:=nodup_cons.1 h
  cases i with
  |zero=>
   cases j with
   |zero=>rfl
   |succ j=>simp at hi hj;subst hi;exact absurd (cQ hj) h1
  |succ i=>
   cases j with
   |zero=>simp at hi hj;subst hj;exact absurd (cQ hi) h1
   |succ j=>simp at hi hj;exact congrArg (· +1) (ih h2 hi hj)
theorem hdI.step {n:Nat} {o:List Nat} {j x:Nat} {hd:List Int} {rl:List ByteArray} {s1 s2:Bool} (h:hdI n o j hd rl s1) (ho:ordI n o) (hx:o[j]? =some x) (v:Int) (s:ByteArray) (hv:v= -1\/∃ q y:Nat,q<j/\o[q]? =some y/\v=(y:Int)) (hs:s=ByteArray.empty\/bA s=true)
  (hb:s2=true->s1=true\/v≠-1\/s≠ByteArray.empty):hdI n o (j+1) (hd.set x v) (rl.set x s) s2:=by
 have hxn:=ho.lt x (cQ hx)
 have hne:∀ r y:Nat,r<j->o[r]? =some y->x≠y:=λ r y hr hy e=>by
  subst e
  have:=vX ho.nd hx hy
  omega
 refine ⟨by simp [h.len],λ r y hr hy=> ?_,λ t ht=> ?_,λ h2=> ?_⟩
 ·rw [nO (by rw [h.len.1];exact hxn)]
  rcases Nat.lt_or_ge r j with h3|h3
  ·rw [if_neg (hne r y h3 hy)];exact h.el r y h3 hy
  ·have e:r=j:=by omega
   subst e
   rw [hx] at hy;cases hy
   rw [if_pos rfl]
   rcases hv with rfl|⟨q,z,hq,hz,rfl⟩
   ·exact .inl rfl
   ·exact .inr ⟨q,z,hq,hz,rfl⟩
 ·rcases mem_or_eq_of_mem_set ht with ht|rfl
  ·exact h.nm t ht
  ·exact hs
 ·rcases hb h2 with h3|h3
  ·obtain ⟨r,y,hr,hy,h4⟩:=h.bare h3
   refine ⟨r,y,by omega,hy,?_⟩
   rw [nO (by rw [h.len.1];exact hxn),nO (by rw [h.len.2];exact hxn),if_neg (hne r y hr hy),if_neg (hne r y hr hy)]
   exact h4
  ·refine ⟨j,x,by omega,hx,?_⟩
   rw [nO (by rw [h.len.1];exact hxn),nO (by rw [h.len.2];exact hxn),if_pos rfl,if_pos rfl]
   rcases h3 with h3|h3
   ·exact .inl ⟨v,rfl,h3⟩
   ·exact .inr ⟨s,rfl,h3⟩
theorem hdI.ok {n:Nat} {o:List Nat} {hd:List Int} {rl:List ByteArray} {t:Iv} (h:hdI n o n hd rl true) (ho:ordI n o) (ht:t.b=0) (he:t.e=n):okHd n [t] hd rl where
 len:=h.len
 bare:=by
  obtain ⟨r,x,_,_,h4⟩:=h.bare rfl
  exact ⟨x,h4⟩
 el i v hi:=by
  have hin:=(List.getElem?_eq_some_iff.1 hi).1
  rw [h.len.1] at hin
  obtain ⟨r,hr⟩:=getElem?_of_mem (ho.all i hin)
  have hrn:=(List.getElem?_eq_some_iff.1 hr).1
  rw [ho.len] at hrn
  rcases h.el r i hrn hr with e|⟨q,y,hq,hy,e⟩
  ·rw [hi] at e;cases e;exact .inl rfl
  ·rw [hi] at e;cases e
   have:=ho.lt y (cQ hy)
   exact .inr ⟨t,by simp,by omega,by omega,by omega,by omega⟩
 nm:=h.nm
 rk:=by
  refine ⟨λ x=>o.idxOf x,λ i v hi h0=> ?_⟩
  have hin:=(List.getElem?_eq_some_iff.1 hi).1
  rw [h.len.1] at hin
  obtain ⟨r,hr⟩:=getElem?_of_mem (ho.all i hin)
  have hrn:=(List.getElem?_eq_some_iff.1 hr).1
  rw [ho.len] at hrn
  have ix:∀ (x k:Nat),o[k]? =some x->o.idxOf x=k:=λ x k hk=>by
   have hm:=cQ hk
   have hl:=idxOf_lt_length_of_mem hm
   have h5:o[o.idxOf x]? =some x:=by rw [getElem?_eq_getElem hl,getElem_idxOf hl]
   exact vX ho.nd h5 hk
  show o.idxOf v.toNat<o.idxOf i
  rw [ix i r hr]
  rcases h.el r i hrn hr with e|⟨q,y,hq,hy,e⟩
  ·rw [hi] at e;cases e;omega
  ·rw [hi] at e;cases e
   show o.idxOf ((y:Int)).toNat<r
   rw [Int.toNat_natCast,ix y q hy];exact hq
def xm (s:List UInt8):Bool:=s.all λ c=>decide (32<=c.toNat/\c.toNat<127)
theorem ql {s:List UInt8} (h:xm s=true):∀ (k i:Nat),s.length-i<=k->∀ u∈cJ s i,32<=u.r/\u.r<127
 |0,i,hk,u,hu=>by rw [fb (by omega)] at hu;cases hu
 |k+1,i,hk,u,hu=>by
  rcases Nat.lt_or_ge i s.length with hi|hi
  ·have hg:=all_eq_true.1 h _ (getElem_mem hi)
   have hg:=of_decide_eq_true hg
   have hd:dec (s.drop i)=((s[i]).toNat,1):=by
    unfold dec
    have e:gb (s.drop i) 0=(s[i]).toNat:=by rw [nE,Nat.add_zero];unfold gb;rw [getD_eq_getElem?_getD,getElem?_eq_getElem hi];rfl
    rw [e];unfold Lib.decodeN;rw [if_pos (by omega)]
   rw [gx hi,hd] at hu
   rcases mem_cons.1 hu with rfl|hu
   ·exact ⟨hg.1,hg.2⟩
   ·exact ql h k _ (by omega) u hu
  ·rw [fb (by omega)] at hu;cases hu
theorem jP {s:ByteArray} (h1:s.size<=120) (h:xm s.data.toList=true):j5 s=true:=by
 have hu:∀ u∈dO s.data.toList,32<=u.r/\u.r<127:=ql h _ 0 (Nat.le_refl _)
 unfold j5
 rw [decide_eq_true h1,Bool.true_and,Bool.and_eq_true,Bool.and_eq_true]
 refine ⟨all_eq_true.2 λ u hm=> ?_,all_eq_true.2 λ u hm=> ?_,all_eq_true.2 λ c hm=> ?_⟩
 ·have:=hu u hm
  unfold Un.ok
  rw [Bool.or_eq_true];left
  exact bne_iff_ne.2 (by omega)
 ·have:=hu u hm;exact decide_eq_true ⟨by omega,by omega⟩
 ·have:=of_decide_eq_true (all_eq_true.1 h c hm);exact decide_eq_true ⟨this.1,by omega⟩
def tN:List ByteArray:=[ByteArray.mk #[97],ByteArray.mk #[98],ByteArray.mk #[99],ByteArray.mk #[65],ByteArray.mk #[97,98],ByteArray.mk #[]]
def zb:List ByteArray:=[ByteArray.mk #[88],ByteArray.mk #[89]]
def pw:List ByteArray:=[ByteArray.mk #[124],ByteArray.mk #[124,112,124],ByteArray.mk #[124,112,124,113,124],ByteArray.mk #[124,113,124]]
def jm:List (ByteArray×Bool):=[(ByteArray.mk #[119,111,114,100],false),(ByteArray.mk #[116,97,103],false),(ByteArray.mk #[102,101,97,116],true)]
theorem Ek:∀ s∈tN,j5 s=true:=λ s hs=>by
 refine jP ?_ ?_
 ·exact (by decide:∀ s∈tN.map (·.size),s<=120) _ (mem_map_of_mem hs)
 ·exact (by decide:∀ s∈tN.map (λ s=>xm s.data.toList),s=true) _ (mem_map_of_mem (f:=λ s:ByteArray=>xm s.data.toList) hs)
theorem GF:∀ s∈zb,j5 s=true:=λ s hs=>by
 refine jP ?_ ?_
 ·exact (by decide:∀ s∈zb.map (·.size),s<=120) _ (mem_map_of_mem hs)
 ·exact (by decide:∀ s∈zb.map (λ s=>xm s.data.toList),s=true) _ (mem_map_of_mem (f:=λ s:ByteArray=>xm s.data.toList) hs)
def Ml:List (List UInt8)->Bool
 |x::y::r=>decide (x<y)&&Ml (y::r)
 |_=>true
theorem zd:∀ (l:List (List UInt8)),Ml l=true->∀ (i:Nat) x y,l[i]? =some x->l[i+1]? =some y->x<y
 |[],_,i,x,y,hx,_=>by simp at hx
 |[a],_,i,x,y,_,hy=>by simp at hy
 |a::b::r,h,0,x,y,hx,hy=>by
  simp at hx hy;subst hx hy
  exact of_decide_eq_true (Bool.and_eq_true _ _▸h).1
 |a::b::r,h,i+1,x,y,hx,hy=>zd (b::r) (Bool.and_eq_true _ _▸h).2 i x y hx hy
def JG (s:List UInt8):Bool:=decide (s[0]? =some 124)&&(decide (s[s.length-1]? =some 124)&&(((List.range s.length).all λ i=>decide (1<=i->s[i]? =some 124->(l0 s i).1≠i))&&Ml (l0 s s.length).2))
theorem JH {s:ByteArray} (h:j5 s=true) (ht:JG s.data.toList=true):za s:=by
 unfold JG at ht
 simp only [Bool.and_eq_true,decide_eq_true_eq,all_eq_true,mem_range] at ht
 obtain ⟨h1,h2,h3,h4⟩:=ht
 exact ⟨h,h1,h2,λ i hi hs=>h3 i (List.getElem?_eq_some_iff.1 hs).1 hi hs,zd _ h4⟩
theorem El:∀ s∈pw,za s:=λ s hs=>by
 refine JH (jP ?_ ?_) ?_
 ·exact (by decide:∀ s∈pw.map (·.size),s<=120) _ (mem_map_of_mem hs)
 ·exact (by decide:∀ s∈pw.map (λ s=>xm s.data.toList),s=true) _ (mem_map_of_mem (f:=λ s:ByteArray=>xm s.data.toList) hs)
 ·exact (by decide:∀ s∈pw.map (λ s=>JG s.data.toList),s=true) _ (mem_map_of_mem (f:=λ s:ByteArray=>JG s.data.toList) hs)
theorem GG:atsOk jm:=by
 refine ⟨λ i x hx=> ?_,by decide,by decide⟩
 have hi:=(List.getElem?_eq_some_iff.1 hx).1
 have hi:i<3:=hi
 rcases (by omega:i=0\/i=1\/i=2) with rfl|rfl|rfl<;>(cases hx;exact ⟨by decide,by decide⟩)
def Mm (ns:List ByteArray):Prop:=∃ a b c,ns=[a,b,c]/\a∈tN/\b∈zb/\c∈pw
theorem JI {ns:List ByteArray} (h:Mm ns):ns.length=jm.length/\∀ (i:Nat) v a,ns[i]? =some v->jm[i]? =some a->okV a v:=by
 obtain ⟨a,b,c,rfl,ha,hb,hc⟩:=h
 refine ⟨rfl,λ i v x hv hx=> ?_⟩
 have hi:i<3:=(List.getElem?_eq_some_iff.1 hv).1
 rcases (by omega:i=0\/i=1\/i=2) with rfl|rfl|rfl
 ·cases hv;cases hx;exact ⟨λ _=>Ek _ ha,λ h=>by cases h⟩
 ·cases hv;cases hx;exact ⟨λ _=>GF _ hb,λ h=>by cases h⟩
 ·cases hv;cases hx;exact ⟨(λ h=>by cases h),λ _=>El _ hc⟩
def PY (n:Int) (x:Iv):Prop:=bA x.nm=true/\okPs x.ps/\0<=x.b/\x.b<x.e/\x.e<=n
theorem Mn {c:Co} {n:Nat} {t:Iv} {at_:Int} (h0:0<n) (h1:n<=12) (ha:c.at_=jm) (hl:c.tk.length=n) (hk:∀ t∈c.tk,Mm t.ns) (hx:c.tx=[t]) (tb:t.b=0) (te:t.e=n) (tn:bA t.nm=true) (tp:okPs t.ps)
  (hr:∀ x∈c.rg,PY n x) (hs:Bs c.rg) (hX:∀ x∈c.rg,∀ y∈c.rg,noX x y) (hm:c.rg.length<=8) (hn:ndI at_ c.nd) (hat:at_<=n) (hnl:c.nd.length<=8) (hh:(c.hd=[]/\c.rl=[])\/okHd n [t] c.hd c.rl):OkC 1 c where
 at_:=ha▸GG
 tk t ht:=by rw [ha];exact JI (hk t ht)
 tx:=by
  rw [hx,hl]
  have g1:∀ {i:Nat} {x:Iv},[t][i]? =some x->i=0/\x=t:=λ {i x} h=>by
   cases i with
   |zero=>cases h;exact ⟨rfl,rfl⟩
   |succ i=>simp at h
  refine ⟨λ x hx=> ?_,λ i j x y hx hy hji=> ?_,λ x h=>(g1 h).2▸tb,λ i x y hx hy=> ?_,λ i x h _=>(g1 h).2▸te,?_⟩
  ·rw [mem_singleton.1 hx];exact ⟨tn,tp,by omega,by omega,by omega⟩
  ·have:=g1 hx;omega
  ·have:=g1 hy;omega
  ·constructor
   ·intro h;cases h
   ·intro h;omega
 rg:=by
  rw [hx]
  refine ⟨λ x hm=> ?_,hs,hX⟩
  have:=hr x hm
  exact ⟨this.1,⟨t,by simp,by have:=this.2.2;omega,by have:=this.2.2;omega,by have:=this.2.2;omega⟩,this.2.1⟩
 nd:=hx▸hn.ok (by omega) tb te
 hd:=by rw [hl,hx];exact hh
 ntk:=by omega
 ntx:=by rw [hx];exact Nat.le_refl _
 nrg:=by omega
 nnd:=by omega
def nP:Nat->Nat->List Nat
 |0,v=>[v%256]
 |f+1,v=>if v<128 then [v%256] else (v%256|||128)::nP f (v/128)
def uv (v:Nat):List Nat:=nP 9 v
theorem ze:∀ (f v:Nat),v<128^(f+1)->nP (f+1) v=nP f v
 |0,v,h=>by simp only [nP];rw [if_pos (by omega)]
 |f+1,v,h=>by
  have h2:v/128<128^(f+1):=by rw [Nat.pow_succ] at h;omega
  rw [nP]
  conv=>rhs;rw [nP]
  rw [ze f (v/128) h2]
theorem JJ (v:Nat) (hv:v<2^64) (h:128<=v):uv v=(v%2^8|||128)::uv (v/2^7):=by
 unfold uv
 rw [ze 8 (v/2^7) (by omega)]
 rw [nP,if_neg (by omega)]
theorem GH (v:Nat) (h:v<128):uv v=[v%2^8]:=by unfold uv;rw [nP,if_pos h]
theorem GI:∀ (f v:Nat),(nP f v).length<=f+1
 |0,v=>by simp [nP]
 |f+1,v=>by
  rw [nP];split
  ·simp
  ·simp;exact GI f _
theorem aN (v:Nat):(uv v).length<=10:=GI 9 v
theorem JK:∀ (f v:Nat),1<=(nP f v).length
 |0,v=>by simp [nP]
 |f+1,v=>by rw [nP];split<;>simp
theorem Mo (v:Nat):1<=(uv v).length:=JK 9 v
theorem GJ:∀ (f v:Nat),∀ x∈nP f v,x<256
 |0,v=>by simp [nP];omega
 |f+1,v=>by
  rw [nP];split
  ·simp;omega
  ·intro x hx
   rcases mem_cons.1 hx with rfl|hx
   ·exact Nat.or_lt_two_pow (n:=8) (by omega) (by omega)
   ·exact GJ f _ x hx
theorem cN (v:Nat):∀ x∈uv v,x<256:=GJ 9 v
def gz (b:Bool) (m:Nat):Nat:=if b then m else 0
def cA (l:List Bool) (i:Nat):Bool:=l.getD i false
def cT (l:List Bool) (k:Nat):Nat:=
 gz (cA l (8*k)) 128|||(gz (cA l (8*k+1)) 64|||(gz (cA l (8*k+2)) 32|||(gz (cA l (8*k+3)) 16|||
  (gz (cA l (8*k+4)) 8|||(gz (cA l (8*k+5)) 4|||(gz (cA l (8*k+6)) 2|||gz (cA l (8*k+7)) 1))))))
def aJ (l:List Bool):List Nat:=(List.range ((l.length+7)/8)).map (cT l)
theorem aR (l:List Bool):(aJ l).length=(l.length+7)/8:=by simp [aJ]
theorem tO (l:List Bool) (x:Bool) (i:Nat):cA (l++[x]) i=if i=l.length then x else cA l i:=by
 unfold cA
 simp only [getD_eq_getElem?_getD]
 rcases Nat.lt_trichotomy i l.length with h|h|h
 ·rw [getElem?_append_left h,if_neg (by omega)]
 ·subst h;simp
 ·rw [if_neg (by omega),getElem?_eq_none (by simp;omega),getElem?_eq_none (by omega)]
theorem dQ (l:List Bool) (i:Nat) (h:l.length<=i):cA l i=false:=by
 unfold cA;rw [getD_eq_getElem?_getD,getElem?_eq_none h];rfl
theorem jQ (l:List Bool) (x:Bool) (k:Nat):cT (l++[x]) k=if k=l.length/8 then cT l k|||gz x (128/2^(l.length%8)) else cT l k:=by
 by_cases hk:k=l.length/8
 ·rw [if_pos hk]
  have hr:l.length%8<8:=Nat.mod_lt _ (by decide)
  have hn:l.length=8*k+l.length%8:=by omega
  have out:∀ j,l.length%8<=j->cA l (8*k+j)=false:=λ j hj=>dQ l _ (by omega)
  unfold cT
  simp only [tO]
  have z0:=out 0;have z1:=out 1;have z2:=out 2;have z3:=out 3;have z4:=out 4;have z5:=out 5;have z6:=out 6;have z7:=out 7
  rw [Nat.add_zero] at z0
  generalize l.length%8=r at*
  have hcase:r=0\/r=1\/r=2\/r=3\/r=4\/r=5\/r=6\/r=7:=by omega
  rcases hcase with rfl|rfl|rfl|rfl|rfl|rfl|rfl|rfl<;>
   simp [hn,z0,z1,z2,z3,z4,z5,z6,z7,gz,Nat.or_assoc]
 ·rw [if_neg hk]
  have e:∀ j,j<8->cA (l++[x]) (8*k+j)=cA l (8*k+j):=λ j hj=>by rw [tO,if_neg (by omega)]
  unfold cT
  rw [show cA (l++[x]) (8*k)=cA l (8*k) from e 0 (by omega),e 1 (by omega),e 2 (by omega),e 3 (by omega),e 4 (by omega),e 5 (by omega),e 6 (by omega),e 7 (by omega)]
theorem Bt (l:List Bool) (k:Nat) (h:l.length<=8*k):cT l k=0:=by
 unfold cT
 simp [dQ l (8*k) (by omega),dQ l (8*k+1) (by omega),dQ l (8*k+2) (by omega),dQ l (8*k+3) (by omega),dQ l (8*k+4) (by omega),dQ l (8*k+5) (by omega),
  dQ l (8*k+6) (by omega),dQ l (8*k+7) (by omega),gz]
theorem px (l:List Bool) (k:Nat):cT l k<256:=by
 have h:∀ (b:Bool) (m:Nat),m<256->gz b m<2^8:=λ b m hm=>by cases b<;>simp [gz,hm]
 unfold cT
 have:=λ a b (h1:a<2^8) (h2:b<2^8)=>Nat.or_lt_two_pow h1 h2
 exact this _ _ (h _ _ (by decide)) (this _ _ (h _ _ (by decide)) (this _ _ (h _ _ (by decide)) (this _ _ (h _ _ (by decide)) (this _ _ (h _ _ (by decide)) (this _ _ (h _ _ (by decide)) (this _ _ (h _ _ (by decide)) (h _ _ (by decide))))))))
theorem gA (l:List Bool):∀ x∈aJ l,x<256:=λ x hx=>by
 obtain ⟨k,_,rfl⟩:=mem_map.1 hx;exact px l k
def gB (l:List Bool):List Nat:=if l.length%8=0 then aJ l++[0] else aJ l
theorem nQ (l:List Bool):gB l=(List.range (l.length/8+1)).map (cT l):=by
 unfold gB aJ
 split
 ·rename_i h
  rw [show (l.length+7)/8=l.length/8 by omega,range_succ,map_append]
  simp only [map_cons,map_nil]
  rw [Bt l _ (by omega)]
 ·rw [show (l.length+7)/8=l.length/8+1 by omega]
theorem tP (l:List Bool) (x:Bool):aJ (l++[x])=(List.range (l.length/8+1)).map (cT (l++[x])):=by
 unfold aJ
 rw [length_append,length_singleton,show (l.length+1+7)/8=l.length/8+1 by omega]
theorem zf (l:List Bool):aJ (l++[false])=gB l:=by
 rw [tP,nQ]
 apply map_congr_left
 intro k _
 rw [jQ];split<;>simp [gz]
theorem j8 (l:List Bool):(gB l).length=l.length/8+1:=by rw [nQ];simp
theorem Em (l:List Bool):(gB l)[l.length/8]? =some (cT l (l.length/8)):=by rw [nQ];simp
theorem Bu (l:List Bool):aJ (l++[true])=(gB l).set (l.length/8) (cT l (l.length/8)|||128/2^(l.length%8)):=by
 rw [tP,nQ,range_succ,map_append,map_append,set_append_right _ _ (by simp)]
 simp only [map_cons,map_nil,length_map,length_range,Nat.sub_self,set_cons_zero]
 congr 1
 ·apply map_congr_left
  intro k hk
  rw [jQ,if_neg (by have:=mem_range.1 hk;omega)]
 ·rw [jQ,if_pos rfl];simp [gz]
def aZ (x:Nat):Nat->List Bool
 |0=>[]
 |m+1=>decide (x/2^m%2^1=1)::aZ x m
theorem aW (x:Nat):∀ m,(aZ x m).length=m
 |0=>rfl
 |m+1=>by simp [aZ,aW x m]
theorem au {α:Type} {l:List α} {k:Nat} {x:α} (h:l[k]? =some x):l.take (k+1)=l.take k++[x]:=by
 rw [take_add_one,h];rfl
theorem ch {α:Type} {l:List α} {k:Nat} {x:α} (h:l[k]? =some x):k<l.length:=(List.getElem?_eq_some_iff.1 h).1
theorem aa {α:Type} {l:List α} {k:Nat} {x:α} (h:l[k]? =some x):x∈l:=mem_of_getElem? h
theorem bitLenAux_le:∀ (f v n:Nat),v<2^n->Lib.bitLenAux f v<=n
 |0,_,_,_=>Nat.zero_le _
 |f+1,v,n,h=>by
  unfold Lib.bitLenAux
  split
  ·exact Nat.zero_le _
  ·cases n with
   |zero=>simp at h;omega
   |succ n=>
    have:=bitLenAux_le f (v/2) n (by rw [Nat.pow_succ] at h;omega)
    omega
theorem bitLen_le {v n:Nat} (h:v<2^n):Lib.bitLen v<=n:=bitLenAux_le 64 v n h
theorem gW:∀ (f v:Nat),Lib.bitLenAux f v<=f
 |0,_=>Nat.le_refl _
 |f+1,v=>by unfold Lib.bitLenAux;split;(omega);(have:=gW f (v/2);omega)
theorem bitLen_le64 (v:Nat):Lib.bitLen v<=64:=gW 64 v
theorem okTx.le {n:Int} {l:List Iv} (h:okTx n l):∀ (d i:Nat) x y,l[i]? =some x->l[i+d+1]? =some y->x.e<=y.b
 |0,i,x,y,hx,hy=>by have:=h.next i x y hx hy;omega
 |d+1,i,x,y,hx,hy=>by
  have hl:=(List.getElem?_eq_some_iff.1 hy).1
  obtain ⟨z,hz⟩:∃ z,l[i+d+1]? =some z:=⟨_,getElem?_eq_getElem (by omega)⟩
  have h1:=okTx.le h d i x z hx hz
  have h2:=h.next (i+d+1) z y hz hy
  have h3:=(h.nm z (aa hz)).2.2
  omega
theorem okTx.uniq {n:Int} {l:List Iv} (h:okTx n l) {i j:Nat} {x y:Iv} {p:Int} (hx:l[i]? =some x) (hy:l[j]? =some y) (h1:x.b<=p/\p<x.e) (h2:y.b<=p/\p<y.e):i=j:=by
 rcases Nat.lt_trichotomy i j with q|q|q
 ·have:=h.le (j-i-1) i x y hx (by rw [show i+(j-i-1)+1=j by omega];exact hy);omega
 ·exact q
 ·have:=h.le (i-j-1) j y x hy (by rw [show j+(i-j-1)+1=i by omega];exact hx);omega
theorem okTx.same {n:Int} {l:List Iv} (h:okTx n l) {x y:Iv} {p:Int} (hx:x∈l) (hy:y∈l) (h1:x.b<=p/\p<x.e) (h2:y.b<=p/\p<y.e):x=y:=by
 obtain ⟨i,hi⟩:=getElem?_of_mem hx
 obtain ⟨j,hj⟩:=getElem?_of_mem hy
 have:=h.uniq hi hj h1 h2
 subst this;rw [hi] at hj;cases hj;rfl
theorem okTx.cover {n:Int} {l:List Iv} (h:okTx n l) {p:Int} (h0:0<=p) (h1:p<n):∃ t∈l,t.b<=p/\p<t.e:=by
 have key:∀ (k:Nat),k<l.length->(∃ t∈l,t.b<=p/\p<t.e)\/∀ x,l[k]? =some x->x.e<=p:=by
  intro k
  induction k with
  |zero=>
   intro hk
   obtain ⟨x,hx⟩:∃ x,l[0]? =some x:=⟨_,getElem?_eq_getElem hk⟩
   have e:=h.first x hx
   rcases (by omega:p<x.e\/x.e<=p) with q|q
   ·exact .inl ⟨x,aa hx,by omega,q⟩
   ·exact .inr λ y hy=>by rw [hx] at hy;cases hy;exact q
  |succ k ih=>
   intro hk
   rcases ih (by omega) with q|q
   ·exact .inl q
   ·obtain ⟨x,hx⟩:∃ x,l[k]? =some x:=⟨_,getElem?_eq_getElem (by omega)⟩
    obtain ⟨y,hy⟩:∃ y,l[k+1]? =some y:=⟨_,getElem?_eq_getElem hk⟩
    have e:=h.next k x y hx hy
    have e2:=q x hx
    rcases (by omega:p<y.e\/y.e<=p) with r|r
    ·exact .inl ⟨y,aa hy,by omega,r⟩
    ·exact .inr λ z hz=>by rw [hy] at hz;cases hz;exact r
 have hl:0<l.length:=by
  rcases Nat.eq_zero_or_pos l.length with q|q
  ·have:=h.none_.1 (eq_nil_of_length_eq_zero q);omega
  ·exact q
 rcases key (l.length-1) (by omega) with q|q
 ·exact q
 ·obtain ⟨x,hx⟩:∃ x,l[l.length-1]? =some x:=⟨_,getElem?_eq_getElem (by omega)⟩
  have e1:=h.last _ x hx (by omega)
  have e2:=q x hx
  omega
theorem okTx.lens {n:Nat} {l:List Iv} (h:okTx n l):(!(decide (l.length=0)==decide (n=0)))=false:=by
 have h1:=h.none_
 by_cases q:n=0
 ·have:l=[]:=h1.2 (by omega)
  subst this;simp [q]
 ·have:l.length≠0:=λ e=>q (by have:=h1.1 (eq_nil_of_length_eq_zero e);omega)
  simp [q,this]
theorem atsOk.no {l:List (ByteArray×Bool)} (h:atsOk l) {k j:Nat} {x y:ByteArray×Bool} (hx:l[k]? =some x) (hy:((l.take k).drop 0)[j]? =some y):y.1≠x.1:=λ e=>by
 have h1:=(h.1 k x hx).2
 rw [any_eq_false] at h1
 exact h1 y (by rw [drop_zero] at hy;exact aa hy) (by simpa using e)
theorem Mp {l:List (ByteArray×Bool)} (h:atsOk l) {k j:Nat} {x y:ByteArray×Bool} (hx:l[k]? =some x) (hy:((l.take k).drop 0)[j]? =some y):y.1≠x.1:=h.no hx hy
theorem tQ {α:Type} {l:List α} {k j:Nat} {y:α} (h:((l.take k).drop 0)[j]? =some y):j<k/\l[j]? =some y:=by
 rw [drop_zero,getElem?_take] at h
 split at h
 ·exact ⟨by assumption,h⟩
 ·cases h
theorem JL {n:Int} {l:List Iv} (h:okTx n l) {t x y:Iv} {i j:Nat} {p q:Int} (ht:t∈l) (hx:l[i]? =some x) (hy:l[j]? =some y) (h1:t.b<=p/\p<t.e) (h2:t.b<=q/\q<t.e) (h3:x.b<=p/\p<x.e) (h4:y.b<=q/\q<y.e):i=j:=by
 obtain ⟨m,hm⟩:=getElem?_of_mem ht
 rw [<-h.uniq hm hx h1 h3,<-h.uniq hm hy h2 h4]
structure HdF (n:Nat) (hd:List Int):Prop where
 rg:∀ (i:Nat) h,hd[i]? =some h->h= -1\/(0<=h/\h<(hd.length:Int))
 rk:∃ rank:Nat->Nat,∀ (i:Nat) h,hd[i]? =some h->0<=h->rank h.toNat<rank i
theorem OkC.Q0 {n:Nat} {c:Co} (h:OkC n c):HdF c.tk.length c.hd:=by
 rcases h.hd with ⟨e,_⟩|q
 ·rw [e];exact ⟨λ i h hh=>by simp at hh,⟨id,λ i h hh=>by simp at hh⟩⟩
 ·refine ⟨λ i x hx=>(q.el i x hx).elim .inl λ ⟨t,ht,h1,h2,h3,h4⟩=> .inr ?_,q.rk⟩
  have:=(h.tx.nm t ht).2.2
  rw [q.len.1]
  omega
theorem OkC.oJ {n:Nat} {c:Co} (h:OkC n c):c.hd.length=c.rl.length/\(0<c.hd.length->okHd c.tk.length c.tx c.hd c.rl):=by
 rcases h.hd with ⟨e,e2⟩|q
 ·rw [e,e2];exact ⟨rfl,λ h=>by simp at h⟩
 ·exact ⟨by rw [q.len.1,q.len.2],λ _=>q⟩
theorem Bv {l:List Iv} {k m:Nat} {x y:Iv} (hk:k<=m) (hx:l[m]? =some x) (hy:l[k]? =some y) (h:¬ y.nm=x.nm):k+1<=m:=by
 rcases Nat.lt_or_ge k m with q|q
 ·exact q
 ·have e:k=m:=by omega
  subst e;rw [hx] at hy;cases hy;exact absurd rfl h
theorem iF {α:Type} {l:List α} {k:Nat} {x:α} {Q:Nat->α->Prop} (hno:∀ (j:Nat) t,j<k->l[j]? =some t->Q j t) (hx:l[k]? =some x) (h:Q k x):∀ (j:Nat) t,j<k+1->l[j]? =some t->Q j t:=λ j t hj ht=>by
 rcases Nat.lt_or_ge j k with q|q
 ·exact hno j t q ht
 ·have e:j=k:=by omega
  subst e;rw [hx] at ht;cases ht;exact h
theorem JM {nd:List Nd} {en:List Int} {k:Nat} {x:Nd} (hen:∀ (q:Nat) z,en[q]? =some z->z=0\/∃ (s:Nat) (y:Nd),s<k/\nd[s]? =some y/\y.p+1=(q:Int)/\y.e=z) (hx:nd[k]? =some x) (hp: -1<=x.p):∀ (q:Nat) z,(en.set (x.p+1).toNat x.e)[q]? =some z->z=0\/∃ (s:Nat) (y:Nd),s<k+1/\nd[s]? =some y/\y.p+1=(q:Int)/\y.e=z:=λ q z h=>by
 rw [getElem?_set] at h
 split at h
 ·split at h
  ·cases h;exact .inr ⟨k,x,by omega,hx,by omega,rfl⟩
  ·cases h
 ·exact (hen q z h).imp_right λ ⟨s,y,h1,h2⟩=>⟨s,y,by omega,h2⟩
theorem JN {dp:List Nat} {k d:Nat} (hdp:∀ (q:Nat) d,dp[q]? =some d->d<=q) (hd:d<=k):∀ (q:Nat) e,(dp.set (k+1) (d+1))[q]? =some e->e<=q:=λ q e h=>by
 rw [getElem?_set] at h
 split at h
 ·split at h
  ·cases h;omega
  ·cases h
 ·exact hdp q e h
theorem GK {dp:List Nat} {k d:Nat} (hdp:∀ (q:Nat) d,dp[q]? =some d->d<=q+1/\(k<=q->d=0)) (hd:d<=k):(∀ (q:Nat) e,(dp.set k d)[q]? =some e->q≠k->e<=q+1/\(k<=q->e=0))/\∀ e,(dp.set k d)[k]? =some e->e<=k:=by
 refine ⟨λ q e h hq=> ?_,λ e h=> ?_⟩
 ·rw [getElem?_set_ne (Ne.symm hq)] at h;exact hdp q e h
 ·rw [getElem?_set] at h
  split at h
  ·split at h
   ·cases h;exact hd
   ·cases h
  ·omega
theorem zg {dp:List Nat} {k d:Nat} (hdp:(∀ (q:Nat) d,dp[q]? =some d->q≠k->d<=q+1/\(k<=q->d=0))/\∀ d,dp[k]? =some d->d<=k) (hd:d<=k):∀ (q:Nat) e,(dp.set k (d+1))[q]? =some e->e<=q+1/\(k+1<=q->e=0):=λ q e h=>by
 by_cases hq:k=q
 ·subst hq
  rw [getElem?_set] at h
  split at h
  ·split at h
   ·cases h;exact ⟨by omega,λ h=>by omega⟩
   ·cases h
  ·omega
 ·rw [getElem?_set_ne hq] at h
  have:=hdp.1 q e h (Ne.symm hq)
  exact ⟨this.1,λ h=>this.2 (by omega)⟩
theorem O2 {hd:List Int} {rl:List ByteArray} {k:Nat} (he:hd.length=rl.length) (hno:∀ (j:Nat) t,j<k->hd[j]? =some t->t= -1/\rl[j]? =some (ByteArray.mk #[])) (hk:hd.length<=k) (hb:∃ i:Nat,(∃ h,hd[i]? =some h/\h≠-1)\/∃ s,rl[i]? =some s/\s≠ByteArray.empty):False:=by
 obtain ⟨i,⟨h,h1,h2⟩|⟨s,h1,h2⟩⟩:=hb
 ·have:=(List.getElem?_eq_some_iff.1 h1).1
  exact h2 (hno i h (by omega) h1).1
 ·have hl:=(List.getElem?_eq_some_iff.1 h1).1
  obtain ⟨t,ht⟩:∃ t,hd[i]? =some t:=⟨_,getElem?_eq_getElem (by omega)⟩
  have:=(hno i t (by omega) ht).2
  rw [h1] at this;cases this;exact h2 rfl
theorem JO (se:List Nat) (z:Int):∃ s,(0<=z/\z<(se.length:Int))->se[z.toNat]? =some s:=by
 by_cases h:z.toNat<se.length
 ·exact ⟨se[z.toNat],λ _=>getElem?_eq_getElem h⟩
 ·exact ⟨0,λ q=>absurd q (by omega)⟩
theorem Mq {se:List Nat} {z:Int} {n k s:Nat} {rank:Nat->Nat} (_hz: -1<=z/\z<(n:Int)) (hl:se.length=n) (hs:(0<=z/\z<(se.length:Int))->se[z.toNat]? =some s) (hsv:∀ (j:Nat) v,se[j]? =some v->v<=k+1/\(v=k+1->0<=z->rank z.toNat<rank j)):((z<0\/(n:Int)<=z)\/s≠k+1)\/False:=by
 rcases (by omega:z<0\/0<=z) with q|q
 ·exact .inl (.inl (.inl q))
 ·refine .inl (.inr λ e=> ?_)
  have:=(hsv _ s (hs ⟨q,by omega⟩)).2 e q
  omega
theorem JP {hd:List Int} {se:List Nat} {z x:Int} {k:Nat} {rank:Nat->Nat} (hsv:∀ (j:Nat) v,se[j]? =some v->v<=k+1/\(v=k+1->0<=z->rank z.toNat<rank j)) (hrk:∀ (i:Nat) h,hd[i]? =some h->0<=h->rank h.toNat<rank i) (hx:hd[z.toNat]? =some x) (hz:0<=z):∀ (j:Nat) v,(se.set z.toNat (k+1))[j]? =some v->v<=k+1/\(v=k+1->0<=x->rank x.toNat<rank j):=λ j v h=>by
 rw [getElem?_set] at h
 split at h
 ·rename_i e
  split at h
  ·cases h
   refine ⟨Nat.le_refl _,λ _ h0=> ?_⟩
   have:=hrk _ x hx h0
   rw [e] at this;exact this
  ·cases h
 ·have h2:=hsv j v h
  exact ⟨h2.1,λ e h0=>by have:=h2.2 e hz;have:=hrk _ x hx h0;omega⟩
section
variable {α:Type}
def sw (l:List α) (i j:Nat):List α:=
 match l[i]?,l[j]? with
 |some x,some y=>(l.set i y).set j x
 |_,_=>l
theorem nR {l:List α} {i j:Nat} {x y:α} (hi:l[i]? =some x) (hj:l[j]? =some y):sw l i j=(l.set i y).set j x:=by simp [sw,hi,hj]
@[simp] theorem NJ (l:List α) (i j:Nat):(sw l i j).length=l.length:=by unfold sw;split<;>simp
theorem pz {P Q:List α} {x y:α} {i:Nat} (h:i=P.length):(P++x::Q).set i y=P++y::Q:=by subst h;simp
theorem get_at {P Q:List α} {x:α} {i:Nat} (h:i=P.length):(P++x::Q)[i]? =some x:=by subst h;simp
theorem Ld {P M Q:List α} {x y:α} {i j:Nat} (hi:i=P.length) (hj:j=P.length+1+M.length):sw (P++x::(M++y::Q)) i j=P++y::(M++x::Q):=by
 have e:∀ z,P++z::(M++y::Q)=(P++z::M)++y::Q:=by simp
 rw [nR (get_at hi) (y:=y) (by rw [e];exact get_at (by simp;omega)),pz hi,show P++y::(M++y::Q)=(P++y::M)++y::Q by simp,pz (by simp;omega)]
 simp
theorem JQ {P M Q:List α} {x y:α} {i j:Nat} (hi:i=P.length+1+M.length) (hj:j=P.length):sw (P++x::(M++y::Q)) i j=P++y::(M++x::Q):=by
 have e:∀ z,P++z::(M++y::Q)=(P++z::M)++y::Q:=by simp
 rw [nR (x:=y) (y:=x) (by rw [e];exact get_at (by simp;omega)) (get_at hj),e,pz (by simp;omega)]
 rw [show (P++x::M)++x::Q=P++x::(M++x::Q) by simp,pz hj]
theorem mb (X:List α) (n:Nat) (h:n<X.length):∃ x X',X.drop n=x::X'/\X.drop (n+1)=X'/\X.take (n+1)=X.take n++[x]:=
 ⟨X[n],X.drop (n+1),(getElem_cons_drop h).symm,rfl,(take_append_getElem h).symm⟩
def bF (l:List α) (a b:Nat):Nat->List α
 |0=>l
 |n+1=>sw (bF l a b n) (a+n) (b+n)
@[simp] theorem nS (l:List α) (a b n:Nat):(bF l a b n).length=l.length:=by induction n<;>simp_all [bF]
theorem zh (A X M Y B:List α) (hxy:X.length=Y.length) {a b:Nat} (ha:a=A.length) (hb:b=A.length+X.length+M.length):∀ n,n<=X.length->
  bF (A++X++M++Y++B) a b n=A++(Y.take n++X.drop n)++M++(X.take n++Y.drop n)++B
 |0,_=>by simp [bF]
 |n+1,h=>by
  rw [bF,zh A X M Y B hxy ha hb n (by omega)]
  obtain ⟨x,X',hX,hX1,hX2⟩:=mb X n (by omega)
  obtain ⟨y,Y',hY,hY1,hY2⟩:=mb Y n (by omega)
  rw [hX,hY,hX2,hY2,hX1,hY1]
  have lX:X'.length+(n+1)=X.length:=by have:=congrArg List.length hX;simp at this;omega
  have e:A++(Y.take n++x::X')++M++(X.take n++y::Y')++B=(A++Y.take n)++x::((X'++M++X.take n)++y::(Y'++B)):=by simp
  rw [e,Ld (by simp;omega) (by simp;omega)]
  simp
theorem gm (A X M Y B:List α) (hxy:X.length=Y.length) {a b n:Nat} (ha:a=A.length) (hb:b=A.length+X.length+M.length) (hn:n=X.length):
  bF (A++X++M++Y++B) a b n=A++Y++M++X++B:=by
 rw [zh A X M Y B hxy ha hb n (by omega),hn,take_of_length_le (by omega),drop_of_length_le (by omega),take_of_length_le (by omega),drop_of_length_le (l:=Y) (by omega)]
 simp
def pA (l:List α) (a:Nat):Nat->List α
 |0=>l
 |n+1=>sw (pA l a n) (a+n) (a+n+1)
@[simp] theorem tR (l:List α) (a n:Nat):(pA l a n).length=l.length:=by induction n<;>simp_all [pA]
theorem GL (A L B:List α) (x:α) {a:Nat} (ha:a=A.length):∀ n,n<=L.length->pA (A++x::(L++B)) a n=A++L.take n++x::(L.drop n++B)
 |0,_=>by simp [pA]
 |n+1,h=>by
  rw [pA,GL A L B x ha n (by omega)]
  obtain ⟨y,L',hX,hX1,hX2⟩:=mb L n (by omega)
  rw [hX,hX2,hX1]
  have e:A++L.take n++x::(y::L'++B)=(A++L.take n)++x::([]++y::(L'++B)):=by simp
  rw [e,Ld (by simp;omega) (by simp;omega)]
  simp
def pB (l:List α) (m:Nat):Nat->List α
 |0=>l
 |n+1=>sw (pB l m n) (m-n) (m-n-1)
@[simp] theorem tS (l:List α) (a n:Nat):(pB l a n).length=l.length:=by induction n<;>simp_all [pB]
theorem GM (A L B:List α) (x:α) {m:Nat} (hm:m=A.length+L.length):∀ n,n<=L.length->pB (A++L++x::B) m n=A++L.take (L.length-n)++x::(L.drop (L.length-n)++B)
 |0,_=>by simp [pB]
 |n+1,h=>by
  rw [pB,GM A L B x hm n (by omega)]
  obtain ⟨q,hq⟩:∃ q,L.length-(n+1)=q:=⟨_,rfl⟩
  rw [hq,show L.length-n=q+1 by omega]
  obtain ⟨y,L',hX,hX1,hX2⟩:=mb L q (by omega)
  rw [hX,hX2,hX1]
  have e:A++(L.take q++[y])++x::(L'++B)=(A++L.take q)++y::([]++x::(L'++B)):=by simp
  rw [e,JQ (by simp;omega) (by simp;omega)]
  simp
def Srt (key:α->Nat) (l:List α):Prop:=l.Pairwise λ a b=>key a<=key b
def Stb (key:α->Nat) (l m:List α):Prop:=∀ k,l.filter (λ x=>key x==k)=m.filter (λ x=>key x==k)
variable {key:α->Nat}
theorem Stb.refl (l:List α):Stb key l l:=λ _=>rfl
theorem Stb.symm {l m:List α} (h:Stb key l m):Stb key m l:=λ k=>(h k).symm
theorem Stb.trans {l m n:List α} (h:Stb key l m) (g:Stb key m n):Stb key l n:=λ k=>(h k).trans (g k)
theorem Stb.append {l l' m m':List α} (h:Stb key l l') (g:Stb key m m'):Stb key (l++m) (l'++m'):=λ k=>by simp only [filter_append,h k,g k]
theorem Stb.dm {A B l l':List α} (h:Stb key l l'):Stb key (A++l++B) (A++l'++B):=((Stb.refl A).append h).append (Stb.refl B)
theorem Stb.comm {l m:List α} (h:∀ x∈l,∀ y∈m,key x≠key y):Stb key (l++m) (m++l):=λ k=>by
 simp only [filter_append]
 rcases hl:l.filter (λ x=>key x==k) with _|⟨x,r⟩
 ·simp
 ·have hx:x∈l.filter (λ x=>key x==k):=by rw [hl];simp
  rw [mem_filter] at hx
  have:m.filter (λ x=>key x==k)=[]:=by
   rw [filter_eq_nil_iff]
   intro y hy hk
   exact h x hx.1 y hy (by have:=hx.2;simp at this hk;omega)
  simp [this]
theorem Stb.mem {l m:List α} (h:Stb key l m) {x:α}:x∈l↔x∈m:=by
 have e:∀ q:List α,x∈q↔x∈q.filter (λ y=>key y==key x):=λ q=>by simp [mem_filter]
 rw [e l,e m,h (key x)]
theorem Stb.perm:∀ {l m:List α},Stb key l m->l.Perm m
 |[],m,h=>by
  cases m with
  |nil=>exact .refl _
  |cons y r=>exact absurd (h.mem.2 (mem_cons_self)) (by simp)
 |x::l,m,h=>by
  obtain ⟨p,q,rfl,hp⟩:∃ p q,m=p++x::q/\∀ y∈p,key y≠key x:=by
   have hx:=h (key x)
   rw [filter_cons_of_pos (by simp)] at hx
   have:∀ m:List α,∀ r,x::r=m.filter (λ y=>key y==key x)->∃ p q,m=p++x::q/\∀ y∈p,key y≠key x:=by
    intro m
    induction m with
    |nil=>intro r h;simp at h
    |cons y m ih=>
     intro r hr
     by_cases hy:key y=key x
     ·rw [filter_cons_of_pos (by simp [hy])] at hr
      exact ⟨[],m,by simp [List.cons.inj hr|>.1],by simp⟩
     ·rw [filter_cons_of_neg (by simp [hy])] at hr
      obtain ⟨p,q,rfl,hp⟩:=ih r hr
      exact ⟨y::p,q,rfl,λ z hz=>(mem_cons.1 hz).elim (λ e=>e▸hy) (hp z)⟩
   exact this m _ hx
  have h2:Stb key l (p++q):=λ k=>by
   have:=h k
   simp only [filter_append,filter_cons] at this⊢
   by_cases hk:key x=k
   ·have hn:p.filter (λ y=>key y==k)=[]:=by
     rw [filter_eq_nil_iff];intro y hy;simpa [<-hk] using hp y hy
    simp [hk,hn] at this⊢
    exact this
   ·simp [hk] at this⊢
    exact this
  exact (List.Perm.cons x h2.perm).trans perm_middle.symm
theorem Stb.length {l m:List α} (h:Stb key l m):l.length=m.length:=h.perm.length_eq
theorem Srt.append {l m:List α}:Srt key (l++m)↔Srt key l/\Srt key m/\∀ x∈l,∀ y∈m,key x<=key y:=by unfold Srt;rw [pairwise_append]
theorem Srt.nil:Srt key ([]:List α):=List.Pairwise.nil
theorem Srt.one (x:α):Srt key [x]:=by simp [Srt]
def En (key:α->Nat) (x:α):List α->List α
 |[]=>[x]
 |y::r=>if key x<=key y then x::y::r else y::En key x r
def dJ (key:α->Nat):List α->List α
 |[]=>[]
 |x::r=>En key x (dJ key r)
theorem tT (x:α):∀ l:List α,Stb key (x::l) (En key x l)
 |[]=>Stb.refl _
 |y::r=>by
  rw [En];split
  ·exact Stb.refl _
  ·have h1:Stb key (x::y::r) (y::x::r):=Stb.append (l:=[x,y]) (l':=[y,x]) (Stb.comm (l:=[x]) (m:=[y]) (by simp;omega)) (Stb.refl r)
   exact h1.trans (Stb.append (Stb.refl [y]) (tT x r))
theorem zi (x:α):∀ l:List α,Srt key l->Srt key (En key x l)
 |[],_=>Srt.one x
 |y::r,h=>by
  have h1:=pairwise_cons.1 h
  rw [En];split
  ·rename_i hxy
   exact pairwise_cons.2 ⟨λ z hz=>(mem_cons.1 hz).elim (λ e=>e▸hxy) (λ hz=>Nat.le_trans hxy (h1.1 z hz)),h⟩
  ·refine pairwise_cons.2 ⟨λ z hz=> ?_,zi x r h1.2⟩
   rcases mem_cons.1 ((tT x r).mem.2 hz) with rfl|hz
   ·omega
   ·exact h1.1 z hz
theorem bN:∀ l:List α,Stb key l (dJ key l)
 |[]=>Stb.refl _
 |x::r=>(Stb.append (Stb.refl [x]) (bN r)).trans (tT x _)
theorem cU:∀ l:List α,Srt key (dJ key l)
 |[]=>Srt.nil
 |x::r=>zi x _ (cU r)
theorem Srt.unique:∀ {l m:List α},Srt key l->Srt key m->Stb key l m->l=m
 |[],m,_,_,h=>by
  have:=h.length;simp at this;exact (eq_nil_of_length_eq_zero this.symm).symm
 |x::l,[],_,_,h=>by have:=h.length;simp at this
 |x::l,y::m,hl,hm,h=>by
  have h1:=pairwise_cons.1 hl
  have h2:=pairwise_cons.1 hm
  have hk:key x=key y:=by
   have a1:key x<=key y:=by
    rcases mem_cons.1 (h.mem.2 (mem_cons_self:y∈y::m)) with e|e
    ·rw [e];exact Nat.le_refl _
    ·exact h1.1 y e
   have a2:key y<=key x:=by
    rcases mem_cons.1 (h.mem.1 (mem_cons_self:x∈x::l)) with e|e
    ·rw [e];exact Nat.le_refl _
    ·exact h2.1 x e
   omega
  have hxy:x=y:=by
   have:=h (key x)
   rw [filter_cons_of_pos (by simp),filter_cons_of_pos (by simp [hk])] at this
   exact (List.cons.inj this).1
  subst hxy
  congr 1
  refine Srt.unique h1.2 h2.2 λ k=> ?_
  have:=h k
  simp only [filter_cons] at this
  split at this
  ·exact (List.cons.inj this).2
  ·exact this
theorem nT {l m:List α} (h:Srt key m) (g:Stb key l m):m=dJ key l:=h.unique (cU l) (g.symm.trans (bN l))
@[simp] theorem nU (l:List α):(dJ key l).length=l.length:=(bN l).length.symm
def kl (key:α->Nat) (l:List α) (i j:Nat):Bool:=
 match l[i]?,l[j]? with
 |some x,some y=>decide (key x<key y)
 |_,_=>false
def l3 (key:α->Nat) (a:Nat):Nat->List α->List α
 |0,l=>l
 |j+1,l=>if a<j+1/\kl key l (j+1) j=true then l3 key a j (sw l (j+1) j) else l
def cP (key:α->Nat) (a:Nat) (l:List α):Nat->List α
 |0=>l
 |n+1=>l3 key a (a+(n+1)) (cP key a l n)
theorem iG {a j:Nat} {l:List α} {x y:α} (h:¬ (a<j/\key x<key y)) (hx:l[j]? =some x) (hy:l[j-1]? =some y):l3 key a j l=l:=by
 cases j with
 |zero=>rfl
 |succ j=>
  rw [l3]
  rw [Nat.add_sub_cancel] at hy
  have:kl key l (j+1) j=decide (key x<key y):=by unfold kl;rw [hx,hy]
  rw [this,if_neg]
  simpa using h
theorem xn {a j:Nat} {l:List α} {x y:α} (h:a<j/\key x<key y) (hx:l[j]? =some x) (hy:l[j-1]? =some y):l3 key a j l=l3 key a (j-1) ((l.set j y).set (j-1) x):=by
 cases j with
 |zero=>omega
 |succ j=>
  rw [l3]
  rw [Nat.add_sub_cancel] at hy⊢
  have:kl key l (j+1) j=decide (key x<key y):=by unfold kl;rw [hx,hy]
  rw [this,if_pos (by simpa using h),nR hx hy]
@[simp] theorem qm (a:Nat):∀ (j:Nat) (l:List α),(l3 key a j l).length=l.length
 |0,l=>rfl
 |j+1,l=>by rw [l3];split<;>simp [qm a j]
@[simp] theorem jS (a:Nat) (l:List α):∀ n,(cP key a l n).length=l.length
 |0=>rfl
 |n+1=>by rw [cP,qm,jS a l n]
theorem CE (A:List α) (x:α) {a:Nat} (ha:a=A.length):∀ (n:Nat) (S B:List α),S.length=n->∀ j,j=a+n->Srt key S->
  ∃ S',l3 key a j (A++S++x::B)=A++S'++B/\Srt key S'/\Stb key (S++[x]) S'
 |0,S,B,hn,j,hj,_=>by
  have:S=[]:=eq_nil_of_length_eq_zero hn
  subst this
  refine ⟨[x],?_,Srt.one x,Stb.refl _⟩
  have h0:l3 key a j (A++[]++x::B)=A++[]++x::B:=by
   cases j with
   |zero=>rfl
   |succ j=>rw [l3,if_neg (by omega)]
  rw [h0];simp
 |n+1,S,B,hn,j,hj,hS=>by
  obtain ⟨S0,y,rfl⟩:∃ S0 y,S=S0++[y]:=⟨S.dropLast,S.getLast (by intro h;rw [h] at hn;simp at hn),(dropLast_concat_getLast _).symm⟩
  simp at hn
  have hS2:=Srt.append.1 hS
  have ex:(A++(S0++[y])++x::B)[j]? =some x:=get_at (P:=A++(S0++[y])) (by simp;omega)
  have ey:(A++(S0++[y])++x::B)[j-1]? =some y:=by
   rw [show A++(S0++[y])++x::B=(A++S0)++y::(x::B) by simp];exact get_at (by simp;omega)
  by_cases hc:key x<key y
  ·have hsw:((A++(S0++[y])++x::B).set j y).set (j-1) x=A++S0++x::(y::B):=by
    rw [pz (P:=A++(S0++[y])) (by simp;omega),show A++(S0++[y])++y::B=(A++S0)++y::(y::B) by simp,pz (by simp;omega)]
   obtain ⟨S',h1,h2,h3⟩:=CE A x ha n S0 (y::B) hn (j-1) (by omega) hS2.1
   refine ⟨S'++[y],?_,?_,?_⟩
   ·rw [xn ⟨by omega,hc⟩ ex ey,hsw,h1];simp
   ·refine Srt.append.2 ⟨h2,Srt.one y,λ z hz q hq=> ?_⟩
    simp at hq;subst hq
    rcases mem_append.1 (h3.mem.2 hz) with hz|hz
    ·exact hS2.2.2 z hz q (by simp)
    ·simp at hz;subst hz;omega
   ·have e1:Stb key (S0++[y]++[x]) (S0++[x]++[y]):=by
     rw [append_assoc,append_assoc]
     exact (Stb.refl S0).append (Stb.comm (by simp;omega))
    exact e1.trans (h3.append (Stb.refl [y]))
  ·refine ⟨S0++[y]++[x],?_,?_,Stb.refl _⟩
   ·rw [iG (by omega) ex ey];simp
   ·refine Srt.append.2 ⟨hS,Srt.one x,λ z hz q hq=> ?_⟩
    simp at hq;subst hq
    rcases mem_append.1 hz with hz|hz
    ·exact Nat.le_trans (hS2.2.2 z hz y (by simp)) (by omega)
    ·simp at hz;subst hz;omega
theorem CF (A S B:List α) {a:Nat} (ha:a=A.length):∀ n,n+1<=S.length->∃ S',cP key a (A++S++B) n=A++S'++(S.drop (n+1)++B)/\Srt key S'/\Stb key (S.take (n+1)) S'
 |0,h=>by
  cases S with
  |nil=>simp at h
  |cons x S=>exact ⟨[x],by simp [cP],Srt.one x,Stb.refl _⟩
 |n+1,h=>by
  obtain ⟨S',h1,h2,h3⟩:=CF A S B ha n (by omega)
  obtain ⟨y,L',hX,hX1,hX2⟩:=mb S (n+1) (by omega)
  have hl:S'.length=n+1:=by rw [<-h3.length];simp;omega
  obtain ⟨S2,g1,g2,g3⟩:=CE (key:=key) A y ha (n+1) S' (L'++B) hl (a+(n+1)) rfl h2
  refine ⟨S2,?_,g2,?_⟩
  ·rw [cP,h1,hX,hX1,cons_append,g1]
  ·rw [hX2];exact (h3.append (Stb.refl _)).trans g3
theorem zj (A S B:List α) {a n:Nat} (ha:a=A.length) (hn:n=S.length-1):∃ S',cP key a (A++S++B) n=A++S'++B/\Srt key S'/\Stb key S S':=by
 rcases Nat.eq_zero_or_pos S.length with h0|hp
 ·have:S=[]:=eq_nil_of_length_eq_zero h0
  subst this;simp at hn;subst hn
  exact ⟨[],rfl,Srt.nil,Stb.refl _⟩
 ·obtain ⟨S',h1,h2,h3⟩:=CF (key:=key) A S B ha n (by omega)
  rw [show n+1=S.length by omega,drop_of_length_le (Nat.le_refl _),nil_append] at h1
  rw [show n+1=S.length by omega,take_of_length_le (Nat.le_refl _)] at h3
  exact ⟨S',h1,h2,h3⟩
inductive Blks (key:α->Nat) (bs:Nat):List α->Prop
 |last (l:List α):l.length<=bs->Srt key l->Blks key bs l
 |cons (p r:List α):p.length=bs->Srt key p->Blks key bs r->Blks key bs (p++r)
inductive Full (key:α->Nat) (bs:Nat):List α->Prop
 |nil:Full key bs []
 |snoc (p q:List α):Full key bs p->q.length=bs->Srt key q->Full key bs (p++q)
theorem Full.Nr {bs:Nat} {p:List α} (h:Full key bs p):∀ {q:List α},Blks key bs q->Blks key bs (p++q):=by
 induction h with
 |nil=>intro q h;simpa using h
 |snoc p q _ hq hs ih=>intro r hr;rw [append_assoc];exact ih (.cons q r hq hs hr)
theorem Blks.two {bs:Nat} {l:List α} (h:Blks key bs l) (hl:2*bs<=l.length) (hb:0<bs):∃ L R B,l=L++R++B/\L.length=bs/\R.length=bs/\Srt key L/\Srt key R/\Blks key bs B:=by
 cases h with
 |last _ h1 h2=>omega
 |cons p r hp hs hr=>
  cases hr with
  |last _ h1 h2=>
   simp at hl
   exact ⟨p,r,[],by simp,hp,by omega,hs,h2,.last _ (by simp) Srt.nil⟩
  |cons q B hq hqs hB=>exact ⟨p,q,B,by simp,hp,hq,hs,hqs,hB⟩
theorem Blks.split {bs:Nat} {l:List α} (h:Blks key bs l) (hl:l.length<2*bs) (hb:bs<l.length):∃ L R,l=L++R/\L.length=bs/\Srt key L/\Srt key R:=by
 cases h with
 |last _ h1 h2=>omega
 |cons p r hp hs hr=>
  simp at hl
  cases hr with
  |last _ h1 h2=>exact ⟨p,r,rfl,hp,hs,h2⟩
  |cons q B hq hqs hB=>simp at hl;omega
theorem Blks.PJ {bs:Nat} {l:List α} (h:Blks key bs l) (hl:l.length<=bs):Srt key l:=by
 cases h with
 |last _ h1 h2=>exact h2
 |cons p r hp hs hr=>
  simp at hl
  have:r=[]:=eq_nil_of_length_eq_zero (by omega)
  subst this;simpa using hs
end
section
variable {α:Type} {key:α->Nat}
theorem Srt.take {l:List α} (h:Srt key l) (q:Nat):Srt key (l.take q):=List.Pairwise.sublist (take_sublist q l) h
theorem Srt.drop {l:List α} (h:Srt key l) (q:Nat):Srt key (l.drop q):=List.Pairwise.sublist (drop_sublist q l) h
theorem Srt.left {l m:List α} (h:Srt key (l++m)):Srt key l:=(Srt.append.1 h).1
theorem Srt.right {l m:List α} (h:Srt key (l++m)):Srt key m:=(Srt.append.1 h).2.1
theorem Srt.or {l m:List α} (h:l.length=0\/m.length=0) (hl:Srt key l) (hm:Srt key m):Srt key (l++m):=by
 rcases h with h|h
 ·rw [eq_nil_of_length_eq_zero h];simpa using hm
 ·rw [eq_nil_of_length_eq_zero h];simpa using hl
theorem nW {R:List α} {q:Nat} (hR:Srt key R) (p:Nat->Prop) (hp:∀ u v,u<=v->p v->p u) (hq:q<=R.length) (h:0<q->∀ y,R[q-1]? =some y->p (key y)):∀ y∈R.take q,p (key y):=by
 intro y hy
 cases q with
 |zero=>simp at hy
 |succ q=>
  obtain ⟨z,R',h1,h2,h3⟩:=mb R q (by omega)
  have hz:R[q]? =some z:=by have:=congrArg List.head? h1;simpa using this
  have hs:=hR.take (q+1)
  rw [h3] at hy hs
  have hpz:=h (by omega) z (by simpa using hz)
  rcases mem_append.1 hy with hy|hy
  ·exact hp _ _ ((Srt.append.1 hs).2.2 y hy z (by simp)) hpz
  ·simp at hy;subst hy;exact hpz
theorem nX {R:List α} {q:Nat} (hR:Srt key R) (p:Nat->Prop) (hp:∀ u v,u<=v->p u->p v) (h:q<R.length->∀ y,R[q]? =some y->p (key y)):∀ y∈R.drop q,p (key y):=by
 intro y hy
 rcases Nat.lt_or_ge q R.length with hq|hq
 ·obtain ⟨z,R',h1,h2,h3⟩:=mb R q hq
  have hz:R[q]? =some z:=by have:=congrArg List.head? h1;simpa using this
  have hs:=hR.drop q
  rw [h1] at hy hs
  rcases mem_cons.1 hy with rfl|hy
  ·exact h hq _ hz
  ·exact hp _ _ ((pairwise_cons.1 hs).1 y hy) (h hq z hz)
 ·rw [drop_of_length_le hq] at hy;simp at hy
theorem jU {A R B:List α} {i k:Nat} (h:i=A.length+k) (hk:k<R.length):(A++R++B)[i]? =R[k]? :=by
 subst h
 rw [append_assoc,getElem?_append_right (by omega),getElem?_append_left (by omega)]
 congr 1;omega
theorem zk {l A R B:List α} {x:α} {a m i b:Nat} (hl:l=A++[x]++R++B) (ha:a=A.length) (hm:m=a+1) (hb:b=m+R.length) (hmi:m<=i) (hib:i<=b)
  (lo:m<i->∀ y,l[i-1]? =some y->key y<key x) (hi:i<b->∀ y,l[i]? =some y->key x<=key y) (hR:Srt key R):∃ M,pA l a (i-1-a)=A++M++B/\Srt key M/\Stb key ([x]++R) M:=by
 obtain ⟨q,hq⟩:∃ q,q=i-m:=⟨_,rfl⟩
 have hgt:∀ y∈R.take q,key y<key x:=nW hR (λ u=>u<key x) (λ u v h1 h2=>by omega) (by omega) λ h y hy=>lo (by omega) y (by
  rw [hl,jU (A:=A++[x]) (k:=q-1) (by simp;omega) (by omega)];exact hy)
 have hge:∀ y∈R.drop q,key x<=key y:=nX hR (λ u=>key x<=u) (λ u v h1 h2=>by omega) λ h y hy=>hi (by omega) y (by
  rw [hl,jU (A:=A++[x]) (k:=q) (by simp;omega) (by omega)];exact hy)
 refine ⟨R.take q++[x]++R.drop q,?_,?_,?_⟩
 ·rw [hl,show A++[x]++R++B=A++x::(R++B) by simp,GL A R B x ha _ (by omega),show i-1-a=q by omega];simp
 ·refine Srt.append.2 ⟨Srt.append.2 ⟨hR.take q,Srt.one x,λ y hy z hz=> ?_⟩,hR.drop q,λ y hy z hz=> ?_⟩
  ·simp at hz;subst hz;exact Nat.le_of_lt (hgt y hy)
  ·rcases mem_append.1 hy with hy|hy
   ·exact Nat.le_trans (Nat.le_of_lt (hgt y hy)) (hge z hz)
   ·simp at hy;subst hy;exact hge z hz
 ·have e:[x]++R=([x]++R.take q)++R.drop q:=by rw [append_assoc,take_append_drop]
  rw [e]
  exact (Stb.comm λ y hy z hz=>by simp at hy;subst hy;have:=hgt z hz;omega).append (Stb.refl _)
theorem vY {l A L B:List α} {x:α} {a m i:Nat} (hl:l=A++L++[x]++B) (ha:a=A.length) (hm:m=a+L.length) (hai:a<=i) (him:i<=m)
  (lo:a<i->∀ y,l[i-1]? =some y->key y<=key x) (hi:i<m->∀ y,l[i]? =some y->key x<key y) (hL:Srt key L):∃ M,pB l m (m-i)=A++M++B/\Srt key M/\Stb key (L++[x]) M:=by
 obtain ⟨q,hq⟩:∃ q,q=i-a:=⟨_,rfl⟩
 have hl2:l=A++L++([x]++B):=by rw [hl];simp
 have hle:∀ y∈L.take q,key y<=key x:=nW hL (λ u=>u<=key x) (λ u v h1 h2=>by omega) (by omega) λ h y hy=>lo (by omega) y (by
  rw [hl2,jU (k:=q-1) (by omega) (by omega)];exact hy)
 have hgt:∀ y∈L.drop q,key x<key y:=nX hL (λ u=>key x<u) (λ u v h1 h2=>by omega) λ h y hy=>hi (by omega) y (by
  rw [hl2,jU (k:=q) (by omega) (by omega)];exact hy)
 refine ⟨L.take q++[x]++L.drop q,?_,?_,?_⟩
 ·rw [hl,show A++L++[x]++B=A++L++x::B by simp,GM A L B x (by omega) _ (by omega),show L.length-(m-i)=q by omega];simp
 ·refine Srt.append.2 ⟨Srt.append.2 ⟨hL.take q,Srt.one x,λ y hy z hz=> ?_⟩,hL.drop q,λ y hy z hz=> ?_⟩
  ·simp at hz;subst hz;exact hle y hy
  ·rcases mem_append.1 hy with hy|hy
   ·exact Nat.le_trans (hle y hy) (Nat.le_of_lt (hgt z hz))
   ·simp at hy;subst hy;exact Nat.le_of_lt (hgt z hz)
 ·have e:L++[x]=L.take q++(L.drop q++[x]):=by rw [<-append_assoc,take_append_drop]
  rw [e,append_assoc]
  exact (Stb.refl _).append (Stb.comm λ y hy z hz=>by simp at hz;subst hz;have:=hgt y hy;omega)
theorem CG {l A L R B:List α} {a m b mid st st0 r0:Nat} (hl:l=A++L++R++B) (ha:a=A.length) (hm:m=a+L.length) (hb:b=m+R.length) (hL:Srt key L) (hR:Srt key R)
  (h1:a<=st) (h2:st<=m) (h3:st<=mid) (h4:mid+m-st<=b) (hst0:st0=a\/mid+m-st0=b) (hr0:r0=mid\/r0=m)
  (lo:st0<st->∀ y z,l[mid+m-1-(st-1)]? =some y->l[st-1]? =some z->key z<=key y) (hi:st<r0->∀ y z,l[mid+m-1-st]? =some y->l[st]? =some z->key y<key z) (hss:st0<=st) (hsr:st<=r0):
  ∃ L1 L2 R1 R2,L=L1++L2/\R=R1++R2/\L1.length=st-a/\L2.length=m-st/\R1.length=mid-st/\R2.length=b-(mid+m-st)/\(∀ z∈L2,∀ y∈R1,key z≠key y)/\(∀ z∈L1++R1,∀ y∈L2++R2,key z<=key y):=by
 obtain ⟨q,hq⟩:∃ q,q=st-a:=⟨_,rfl⟩
 obtain ⟨t,ht⟩:∃ t,t=mid-st:=⟨_,rfl⟩
 have hl2:l=A++L++(R++B):=by rw [hl];simp
 have hlo:∀ z∈L.take q,∀ y∈R.drop t,key z<=key y:=by
  intro z hz y hy
  have hq0:0<q:=by cases q<;>simp at hz⊢
  have ht0:t<R.length:=by
   rcases Nat.lt_or_ge t R.length with h|h
   ·exact h
   ·rw [drop_of_length_le h] at hy;simp at hy
  obtain ⟨u,hu⟩:∃ u,L[q-1]? =some u:=⟨_,getElem?_eq_getElem (by omega)⟩
  obtain ⟨v,hv⟩:∃ v,R[t]? =some v:=⟨_,getElem?_eq_getElem ht0⟩
  have huv:key u<=key v:=lo (by omega) v u (by rw [hl,jU (A:=A++L) (k:=t) (by simp;omega) ht0];exact hv) (by rw [hl2,jU (k:=q-1) (by omega) (by omega)];exact hu)
  have e1:=nW hL (λ x=>x<=key v) (λ _ _ h1 h2=>Nat.le_trans h1 h2) (by omega) (λ _ y hy=>by rw [hu] at hy;cases hy;exact huv) z hz
  exact nX hR (λ x=>key z<=x) (λ _ _ h1 h2=>Nat.le_trans h2 h1) (λ _ y hy=>by rw [hv] at hy;cases hy;exact e1) y hy
 have hhi:∀ y∈R.take t,∀ z∈L.drop q,key y<key z:=by
  intro y hy z hz
  have ht0:0<t:=by cases t<;>simp at hy⊢
  have hq0:q<L.length:=by
   rcases Nat.lt_or_ge q L.length with h|h
   ·exact h
   ·rw [drop_of_length_le h] at hz;simp at hz
  obtain ⟨u,hu⟩:∃ u,R[t-1]? =some u:=⟨_,getElem?_eq_getElem (by omega)⟩
  obtain ⟨v,hv⟩:∃ v,L[q]? =some v:=⟨_,getElem?_eq_getElem hq0⟩
  have huv:key u<key v:=hi (by omega) u v (by rw [hl,jU (A:=A++L) (k:=t-1) (by simp;omega) (by omega)];exact hu) (by rw [hl2,jU (k:=q) (by omega) (by omega)];exact hv)
  have e1:=nW hR (λ x=>x<key v) (λ _ _ h1 h2=>Nat.lt_of_le_of_lt h1 h2) (by omega) (λ _ y hy=>by rw [hu] at hy;cases hy;exact huv) y hy
  exact nX hL (λ x=>key y<x) (λ _ _ h1 h2=>Nat.lt_of_lt_of_le h2 h1) (λ _ y hy=>by rw [hv] at hy;cases hy;exact e1) z hz
 refine ⟨L.take q,L.drop q,R.take t,R.drop t,(take_append_drop ..).symm,(take_append_drop ..).symm,by simp;omega,by simp;omega,by simp;omega,by simp;omega,λ z hz y hy=>by have:=hhi y hy z hz;omega,λ z hz y hy=> ?_⟩
 have hL2:Srt key (L.take q++L.drop q):=by rw [take_append_drop];exact hL
 have hR2:Srt key (R.take t++R.drop t):=by rw [take_append_drop];exact hR
 rcases mem_append.1 hz with hz|hz<;>rcases mem_append.1 hy with hy|hy
 ·exact (Srt.append.1 hL2).2.2 z hz y hy
 ·exact hlo z hz y hy
 ·exact Nat.le_of_lt (hhi z hz y hy)
 ·exact (Srt.append.1 hR2).2.2 z hz y hy
theorem rJ {L L1 L2 R R1 R2 M1 M2:List α} (hL:L=L1++L2) (hR:R=R1++R2) (h1:∀ z∈L2,∀ y∈R1,key z≠key y) (h2:∀ z∈L1++R1,∀ y∈L2++R2,key z<=key y)
  (m1:Srt key M1) (m2:Srt key M2) (s1:Stb key (L1++R1) M1) (s2:Stb key (L2++R2) M2):Srt key (M1++M2)/\Stb key (L++R) (M1++M2):=by
 refine ⟨Srt.append.2 ⟨m1,m2,λ z hz y hy=>h2 z (s1.mem.2 hz) y (s2.mem.2 hy)⟩,?_⟩
 have e:L++R=L1++(L2++R1)++R2:=by rw [hL,hR];simp
 have e2:Stb key (L1++(L2++R1)++R2) (L1++(R1++L2)++R2):=Stb.dm (Stb.comm h1)
 rw [e]
 refine e2.trans ?_
 rw [show L1++(R1++L2)++R2=(L1++R1)++(L2++R2) by simp]
 exact s1.append s2
theorem zl {bs:Nat} {l Pre Suf:List α} (hF:Full key bs Pre) (hT:Stb key l (Pre++Suf)) (h:bs<=Suf.length):
  ∃ S',cP key Pre.length (Pre++Suf) (Pre.length+bs-Pre.length-1)=Pre++S'++Suf.drop bs/\Full key bs (Pre++S')/\Stb key l (Pre++S'++Suf.drop bs)/\S'.length=bs:=by
 have hl:(Suf.take bs).length=bs:=by simp;omega
 obtain ⟨S',h1,h2,h3⟩:=zj (key:=key) Pre (Suf.take bs) (Suf.drop bs) (a:=Pre.length) (n:=Pre.length+bs-Pre.length-1) rfl (by omega)
 rw [append_assoc,take_append_drop] at h1
 refine ⟨S',h1,.snoc _ _ hF (by rw [<-h3.length];exact hl) h2,hT.trans ?_,by rw [<-h3.length];exact hl⟩
 have e:Pre++Suf=Pre++Suf.take bs++Suf.drop bs:=by rw [append_assoc,take_append_drop]
 rw [e];exact Stb.dm h3
theorem CH {bs n:Nat} {l Pre Suf:List α} (hF:Full key bs Pre) (hT:Stb key l (Pre++Suf)) (h:Suf.length<bs) (hn:n=l.length):
  Blks key bs (cP key Pre.length (Pre++Suf) (n-Pre.length-1))/\Stb key l (cP key Pre.length (Pre++Suf) (n-Pre.length-1)):=by
 have hl:=hT.length
 rw [length_append] at hl
 obtain ⟨S',h1,h2,h3⟩:=zj (key:=key) Pre Suf [] (a:=Pre.length) (n:=n-Pre.length-1) rfl (by omega)
 simp only [append_nil] at h1
 rw [h1]
 exact ⟨hF.Nr (.last _ (by rw [<-h3.length];omega) h2),hT.trans ((Stb.refl _).append h3)⟩
theorem zm {bs:Nat} {l Pre Suf L R B M:List α} (hF:Full key (2*bs) Pre) (hT:Stb key l (Pre++Suf)) (hS:Suf=L++R++B) (hL:L.length=bs) (hR:R.length=bs) (hM:Srt key M) (hS':Stb key (L++R) M):
  Full key (2*bs) (Pre++M)/\Stb key l (Pre++M++B)/\M.length=2*bs:=by
 have hl:=hS'.length
 rw [length_append] at hl
 refine ⟨.snoc _ _ hF (by omega) hM,hT.trans ?_,by omega⟩
 have e:Pre++Suf=Pre++(L++R)++B:=by rw [hS];simp
 rw [e];exact Stb.dm hS'
theorem rK {bs:Nat} {l Pre Suf L R M:List α} (hF:Full key (2*bs) Pre) (hT:Stb key l (Pre++Suf)) (hS:Suf=L++R) (hl2:Suf.length<2*bs) (hM:Srt key M) (hS':Stb key (L++R) M):
  Blks key (bs*2) (Pre++M++[])/\Stb key l (Pre++M++[]):=by
 have hl:=hS'.length
 rw [<-hS] at hl
 rw [append_nil,Nat.mul_comm bs 2]
 refine ⟨hF.Nr (.last _ (by omega) hM),hT.trans ?_⟩
 rw [hS];exact (Stb.refl _).append hS'
theorem zn {bs:Nat} {Pre Suf:List α} (hF:Full key (2*bs) Pre) (hB:Blks key bs Suf) (h:Suf.length<=bs):Blks key (bs*2) (Pre++Suf):=by
 rw [Nat.mul_comm];exact hF.Nr (.last _ (by omega) (hB.PJ h))
end
theorem all_take {α:Type} {P:α->Prop} {l:List α} {k:Nat} {x:α} (h:∀ z∈l.take k,P z) (hx:l[k]? =some x) (hp:P x):∀ z∈l.take (k+1),P z:=λ z hz=>by
 have hk:=(List.getElem?_eq_some_iff.1 hx)
 rw [<-take_append_getElem hk.1,mem_append] at hz
 rcases hz with hz|hz
 ·exact h z hz
 ·simp at hz;rw [hz,hk.2];exact hp
def kr (x:Nat):Nat:=if 0<x then 2^(15-x) else 0
def jw:List Nat->Nat
 |[]=>0
 |x::r=>kr x+jw r
theorem jV:∀ (l m:List Nat),jw (l++m)=jw l+jw m
 |[],m=>by simp [jw]
 |x::l,m=>by simp [jw,jV l m];omega
def ep (l:List Nat):Bool:=l.all (λ x=>decide (x<=15))&&decide (jw l<=2^15)
theorem Bw {l:List Nat} {x:Nat} (h:x∈l) (hx:15<x):ep l=false:=by
 have:l.all (λ x=>decide (x<=15))=false:=by
  rw [all_eq_false];exact ⟨x,h,by simp;omega⟩
 simp [ep,this]
theorem Eo {l:List Nat} (h:∀ x∈l,x<=15):ep l=decide (jw l<=2^15):=by
 have:l.all (λ x=>decide (x<=15))=true:=by
  rw [all_eq_true];intro x hx;simpa using h x hx
 simp [ep,this]
structure It where
 w:Nat
 sym:Int
 lf:Nat
 rt:Nat
def bg:Nat->List Nat->List It
 |_,[]=>[]
 |i,n::r=>if 0<n then ⟨n,i,0,0⟩::bg (i+1) r else bg (i+1) r
theorem jW:∀ (l:List Nat) (i x:Nat),bg i (l++[x])=bg i l++(if 0<x then [⟨x,((i+l.length:Nat):Int),0,0⟩] else [])
 |[],i,x=>by simp [bg]
 |n::r,i,x=>by
  have:=jW r (i+1) x
  rw [show i+1+r.length=i+(n::r).length by simp;omega] at this
  rw [cons_append,bg,bg,this]
  split<;>simp
theorem fo:∀ (l:List Nat) (i:Nat),(bg i l).length<=l.length
 |[],i=>by simp [bg]
 |n::r,i=>by
  have:=fo r (i+1)
  rw [bg];split<;>simp<;>omega
theorem j9:∀ (l:List Nat) (i:Nat),∀ x∈bg i l,x.w∈l/\∃ j,x.sym=((i+j:Nat):Int)/\l[j]? =some x.w
 |[],i=>by simp [bg]
 |n::r,i=>λ x hx=>by
  have ih:∀ x∈bg (i+1) r,x.w∈n::r/\∃ j,x.sym=((i+j:Nat):Int)/\(n::r)[j]? =some x.w:=λ x hx=>by
   obtain ⟨h1,j,h2,h3⟩:=j9 r (i+1) x hx
   exact ⟨mem_cons_of_mem _ h1,j+1,by rw [h2];congr 1;omega,by simpa using h3⟩
  rw [bg] at hx
  split at hx
  ·rcases mem_cons.1 hx with rfl|hx
   ·exact ⟨by simp,0,by simp,by simp⟩
   ·exact ih x hx
  ·exact ih x hx
def leaves (c:List Nat):List It:=dJ It.w (bg 0 c)
def bu:Nat->List Nat->List Nat
 |_,[]=>[]
 |i,n::r=>if 0<n then i::bu (i+1) r else bu (i+1) r
theorem jX:∀ (l:List Nat) (i x:Nat),bu i (l++[x])=bu i l++(if 0<x then [i+l.length] else [])
 |[],i,x=>by simp [bu]
 |n::r,i,x=>by
  have:=jX r (i+1) x
  rw [show i+1+r.length=i+(n::r).length by simp;omega] at this
  rw [cons_append,bu,bu,this]
  split<;>simp
theorem fp:∀ (l:List Nat) (i:Nat),(bu i l).length<=l.length
 |[],i=>by simp [bu]
 |n::r,i=>by
  have:=fp r (i+1)
  rw [bu];split<;>simp<;>omega
theorem ja:∀ (l:List Nat) (i:Nat),∀ x∈bu i l,i<=x/\x<i+l.length/\0<l.getD (x-i) 0
 |[],i=>by simp [bu]
 |n::r,i=>λ x hx=>by
  have ih:∀ x∈bu (i+1) r,i<=x/\x<i+(n::r).length/\0<(n::r).getD (x-i) 0:=λ x hx=>by
   obtain ⟨h1,h2,h3⟩:=ja r (i+1) x hx
   refine ⟨by omega,by simp;omega,?_⟩
   rw [show x-i=(x-(i+1))+1 by omega];simpa using h3
  rw [bu] at hx
  split at hx
  ·rename_i hn
   rcases mem_cons.1 hx with rfl|hx
   ·exact ⟨Nat.le_refl _,by simp,by simpa using hn⟩
   ·exact ih x hx
  ·exact ih x hx
def ai (l:List Nat) (i:Nat):Nat:=l.getD i 0
def aX (l:List Nat):List Nat:=dJ (ai l) (bu 0 l)
theorem Srt.get {α:Type} {key:α->Nat} {l:List α} (h:Srt key l) {i j:Nat} {x y:α} (hij:i<j) (hx:l[i]? =some x) (hy:l[j]? =some y):key x<=key y:=by
 obtain ⟨h1,rfl⟩:=List.getElem?_eq_some_iff.1 hx
 obtain ⟨h2,rfl⟩:=List.getElem?_eq_some_iff.1 hy
 exact pairwise_iff_getElem.1 h i j h1 h2 hij
def jb (l:List Nat) (s:Nat×Nat×Nat×List Nat) (i:Nat):Nat×Nat×Nat×List Nat:=
 let c:=if 0<s.1 then (s.2.1+1)%2^64*2^(ai l i-s.2.2.1)%2^64 else s.2.1
 (s.1+1,c,ai l i,s.2.2.2.set i c)
def eG (l:List Nat) (ord:List Nat):Nat×Nat×Nat×List Nat:=ord.foldl (jb l) (0,0,0,List.replicate l.length 0)
theorem fc (l ord:List Nat) (i:Nat):eG l (ord++[i])=jb l (eG l ord) i:=by simp [eG]
def cV (l:List Nat):List Nat:=(eG l (aX l)).2.2.2
theorem qn (l:List Nat):∀ ord,(eG l ord).2.2.2.length=l.length:=λ ord=>by
 have:∀ (ord:List Nat) s,(ord.foldl (jb l) s).2.2.2.length=s.2.2.2.length:=by
  intro ord
  induction ord with
  |nil=>intro s;rfl
  |cons i r ih=>intro s;rw [foldl_cons,ih];simp [jb]
 rw [eG,this];simp
theorem lb (l:List Nat):(cV l).length=l.length:=qn l _
theorem pC (l:List Nat):∀ x∈aX l,x<l.length/\0<ai l x:=λ x hx=>by
 have:=ja l 0 x ((bN _).mem.2 hx)
 exact ⟨by omega,by have:=this.2.2;simpa [ai] using this⟩
theorem fV (l:List Nat):(aX l).length<=l.length:=by
 have:=fp l 0
 rw [aX,nU];exact this
def bz:Nat->List It->List It
 |i,x::y::r=>⟨x.w+y.w,-1,i,i+1⟩::bz (i+2) r
 |_,_=>[]
theorem tU:∀ (q i:Nat) (b:List It) (x y:It),b[2*q]? =some x->b[2*q+1]? =some y->
  bz i (b.take (2*(q+1)))=bz i (b.take (2*q))++[⟨x.w+y.w,-1,i+2*q,i+2*q+1⟩]
 |0,i,b,x,y,hx,hy=>by
  match b with
  |[]=>simp at hx
  |[_]=>simp at hy
  |u::v::r=>
   simp at hx hy;subst hx;subst hy
   simp [bz]
 |q+1,i,b,x,y,hx,hy=>by
  match b with
  |[]=>simp at hx
  |[_]=>simp at hy
  |u::v::r=>
   have e1:2*(q+1)=2*q+1+1:=by omega
   have e2:2*(q+1+1)=2*(q+1)+1+1:=by omega
   rw [e1] at hx hy
   have hx':r[2*q]? =some x:=by simpa using hx
   have hy':r[2*q+1]? =some y:=by simpa using hy
   have ih:=tU q (i+2) r x y hx' hy'
   rw [e2,e1,take_succ_cons,take_succ_cons,take_succ_cons,take_succ_cons,bz,bz,cons_append]
   rw [show 2*q+1+1=2*(q+1) by omega,ih]
   simp;omega
theorem vZ:∀ (q i:Nat) (b:List It),b.length<=2*q+1->bz i (b.take (2*q))=bz i b
 |0,i,b,h=>by
  match b with
  |[]=>rfl
  |[x]=>rfl
  |_::_::_=>simp at h
 |q+1,i,b,h=>by
  match b with
  |[]=>rfl
  |[x]=>rfl
  |u::v::r=>
   have e1:2*(q+1)=2*q+1+1:=by omega
   rw [e1,take_succ_cons,take_succ_cons,bz,bz,vZ q (i+2) r (by simp at h;omega)]
theorem eI:∀ (i:Nat) (b:List It),(bz i b).length=b.length/2
 |i,[]=>by simp [bz]
 |i,[x]=>by simp [bz]
 |i,x::y::r=>by rw [bz,length_cons,eI (i+2) r,length_cons,length_cons];omega
theorem pD:∀ (i:Nat) (b:List It) (W:Nat),(∀ x∈b,x.w<=W)->∀ x∈bz i b,x.w<=2*W/\x.sym= -1
 |i,[],W,_=>by simp [bz]
 |i,[x],W,_=>by simp [bz]
 |i,x::y::r,W,h=>λ z hz=>by
  rw [bz] at hz
  rcases mem_cons.1 hz with rfl|hz
  ·have h1:=h x (by simp);have h2:=h y (by simp);exact ⟨by show x.w+y.w<=2*W;omega,rfl⟩
  ·exact pD (i+2) r W (λ q hq=>h q (by simp [hq])) z hz
theorem kM:∀ (i:Nat) (b:List It),∀ x∈bz i b,x.sym= -1
 |i,[]=>by simp [bz]
 |i,[x]=>by simp [bz]
 |i,x::y::r=>λ z hz=>by
  rw [bz] at hz
  rcases mem_cons.1 hz with rfl|hz
  ·rfl
  ·exact kM (i+2) r z hz
def iH (l b:List It):List It:=dJ It.w (l++bz 0 b)
theorem nY (l b:List It):(iH l b).length=l.length+b.length/2:=by simp [iH,eI]
def lvl (c:List Nat):Nat->List It
 |0=>leaves c
 |k+1=>iH (leaves c) (lvl c k)
def zo (c:List Nat) (k:Nat):List (List It):=(List.range k).map (lvl c)
theorem Ep (c:List Nat) (k:Nat):zo c (k+1)=zo c k++[lvl c k]:=by simp [zo,range_succ]
theorem zp (c:List Nat) {i k:Nat} (h:i<k):(zo c k)[i]? =some (lvl c i):=by simp [zo,h]
theorem eb (c:List Nat):(leaves c).length<=c.length:=by rw [leaves,nU];exact fo c 0
theorem de (c:List Nat):∀ x∈leaves c,x.w∈c/\∃ j:Nat,x.sym=(j:Int)/\c[j]? =some x.w:=λ x hx=>by
 have:=j9 c 0 x ((bN _).mem.2 hx)
 simpa using this
theorem mc (c:List Nat):∀ k,(leaves c).length<=(lvl c k).length/\(lvl c k).length<=2*(leaves c).length
 |0=>by simp [lvl];omega
 |k+1=>by
  have:=mc c k
  rw [lvl,nY];omega
theorem zq (c:List Nat) (h1:1<=(leaves c).length):∀ k,2*(leaves c).length<=(lvl c k).length+1+((leaves c).length-1)/2^k
 |0=>by simp [lvl];omega
 |k+1=>by
  have ih:=zq c h1 k
  rw [lvl,nY]
  have e:((leaves c).length-1)/2^(k+1)=((leaves c).length-1)/2^k/2:=by rw [Nat.pow_succ,Nat.div_div_eq_div_mul]
  rw [e];omega
theorem Le (c:List Nat) (W:Nat) (h:∀ x∈c,x<=W):∀ k,∀ x∈lvl c k,x.w<=W*2^k
 |0=>λ x hx=>by have:=h _ (de c x hx).1;simpa using this
 |k+1=>λ x hx=>by
  have ih:=Le c W h k
  rw [lvl] at hx
  have hp:W*2^(k+1)=2*(W*2^k):=by rw [Nat.pow_succ,<-Nat.mul_assoc,Nat.mul_comm]
  have h1:W<=W*2^k:=Nat.le_mul_of_pos_right _ (Nat.two_pow_pos k)
  rcases mem_append.1 ((bN _).mem.2 hx) with hx|hx
  ·have:=h _ (de c x hx).1;omega
  ·have:=(pD 0 _ _ ih x hx).1;omega
theorem JR (c:List Nat):∀ k,∀ x∈lvl c k,x.sym= -1\/∃ j,x.sym=((j:Nat):Int)/\j<c.length
 |0=>λ x hx=>by
  obtain ⟨_,j,h1,h2⟩:=de c x hx
  exact .inr ⟨j,h1,(List.getElem?_eq_some_iff.1 h2).1⟩
 |k+1=>λ x hx=>by
  rw [lvl] at hx
  rcases mem_append.1 ((bN _).mem.2 hx) with hx|hx
  ·obtain ⟨_,j,h1,h2⟩:=de c x hx
   exact .inr ⟨j,h1,(List.getElem?_eq_some_iff.1 h2).1⟩
  ·exact .inl (kM 0 _ x hx)
def bump (ls:List Nat) (x:It):List Nat:=if 0<=x.sym then ls.set x.sym.toNat (ls.getD x.sym.toNat 0+1) else ls
def cv (ls:List Nat) (xs:List It):List Nat:=xs.foldl bump ls
theorem jc (ls:List Nat) (xs:List It) (x:It):cv ls (xs++[x])=bump (cv ls xs) x:=by simp [cv]
theorem qo (ls:List Nat) (x:It):(bump ls x).length=ls.length:=by unfold bump;split<;>simp
theorem eJ (xs:List It):∀ ls,(cv ls xs).length=ls.length:=by
 induction xs with
 |nil=>intro ls;rfl
 |cons x r ih=>intro ls;rw [cv,foldl_cons];exact (ih _).trans (qo ls x)
def l4 (xs:List It):Nat:=xs.countP λ x=>decide (x.sym<0)
theorem zt (xs:List It) (x:It):l4 (xs++[x])=l4 xs+if x.sym<0 then 1 else 0:=by
 simp [l4,countP_append,countP_cons]
theorem Bx (xs:List It) (t:Nat):l4 (xs.take t)<=l4 xs:=(take_sublist t xs).countP_le
theorem tV (c:List Nat):∀ x∈leaves c,0<=x.sym:=λ x hx=>by
 obtain ⟨_,j,h,_⟩:=de c x hx;omega
theorem me (c:List Nat):l4 (leaves c)=0:=by
 rw [l4,countP_eq_zero];intro x hx;have:=tV c x hx;simp;omega
theorem GN (c:List Nat) (b:List It):l4 (iH (leaves c) b)=b.length/2:=by
 have hp:l4 (iH (leaves c) b)=l4 (leaves c++bz 0 b):=((bN (key:=It.w) (leaves c++bz 0 b)).perm.countP_eq _).symm
 have h0:=me c
 have h1:l4 (bz 0 b)=(bz 0 b).length:=by
  rw [l4,countP_eq_length];intro x hx;have:=kM 0 b x hx;simp;omega
 rw [hp]
 simp only [l4] at h0 h1⊢
 rw [countP_append,h0,h1,eI];omega
def down (c:List Nat):Nat->Nat->List Nat->List Nat
 |0,_,ls=>ls
 |k+1,t,ls=>down c k (2*l4 ((lvl c k).take t)) (cv ls ((lvl c k).take t))
def cW (c:List Nat):List Nat:=
 if (leaves c).length<2 then (leaves c).foldl (λ ls x=>ls.set x.sym.toNat 1) (List.replicate c.length 0) else down c 15 (2*(leaves c).length-2) (List.replicate c.length 0)
theorem wa (c:List Nat) (k t:Nat):2*l4 ((lvl c (k+1)).take t)<=(lvl c k).length:=by
 have h1:=Bx (lvl c (k+1)) t
 have h2:l4 (lvl c (k+1))=(lvl c k).length/2:=GN c _
 omega
theorem zu (c:List Nat) (h1:1<=(leaves c).length) (hn:(leaves c).length<=1024):2*(leaves c).length-2<=(lvl c 14).length:=by
 have:=zq c h1 14
 rw [Nat.div_eq_of_lt (by omega:(leaves c).length-1<2^14)] at this
 omega
theorem CI {ls:List Nat} {B:Nat} (h:∀ x∈ls,x<=B) (y:It):∀ x∈bump ls y,x<=B+1:=λ x hx=>by
 unfold bump at hx
 split at hx
 ·rcases mem_or_eq_of_mem_set hx with hx|rfl
  ·have:=h x hx;omega
  ·rw [getD_eq_getElem?_getD]
   cases hg:ls[y.sym.toNat]? with
   |none=>simp
   |some v=>have:=h v (mem_of_getElem? hg);simp;exact this
 ·have:=h x hx;omega
theorem qp (c:List Nat):∀ k t ls,(down c k t ls).length=ls.length
 |0,t,ls=>rfl
 |k+1,t,ls=>by rw [down,qp c k,eJ]
theorem nZ (c:List Nat):(cW c).length=c.length:=by
 unfold cW
 split
 ·have:∀ (xs:List It) (ls:List Nat),(xs.foldl (λ ls x=>ls.set x.sym.toNat 1) ls).length=ls.length:=by
   intro xs;induction xs with
   |nil=>intro ls;rfl
   |cons x r ih=>intro ls;rw [foldl_cons,ih];simp
  rw [this];simp
 ·rw [qp];simp
section
variable {α:Type} {key:α->Nat}
theorem Srt.filter {l:List α} (h:Srt key l) (p:α->Bool):Srt key (l.filter p):=List.Pairwise.sublist filter_sublist h
theorem o0 (l:List α) (p:α->Bool):(dJ key l).filter p=dJ key (l.filter p):=
 nT ((cU l).filter p) λ k=>by
  have h:=bN (key:=key) l k
  have h1:(l.filter p).filter (λ x=>key x==k)=(l.filter λ x=>key x==k).filter p:=by simp only [filter_filter,Bool.and_comm]
  have h2:((dJ key l).filter p).filter (λ x=>key x==k)=((dJ key l).filter λ x=>key x==k).filter p:=by simp only [filter_filter,Bool.and_comm]
  rw [h1,h2,h]
theorem zv {l:List α} (h:Srt key l):dJ key l=l:=(nT h (Stb.refl l)).symm
theorem Srt.take_drop {l:List α} (h:Srt key l) (t:Nat):∀ x∈l.take t,∀ y∈l.drop t,key x<=key y:=by
 rw [<-take_append_drop t l,Srt.append] at h;exact h.2.2
theorem fe (l:List α) (p:α->Bool) (t:Nat):l.countP p=(l.take t).countP p+(l.drop t).countP p:=by
 conv=>lhs;rw [<-take_append_drop t l]
 rw [countP_append]
theorem df (p:α->Bool):∀ (l:List α) (t:Nat),(l.take t).filter p=(l.filter p).take ((l.take t).countP p)
 |[],t=>by simp
 |x::r,0=>by simp
 |x::r,t+1=>by
  rw [take_succ_cons]
  cases hp:p x with
  |true=>rw [filter_cons_of_pos hp,filter_cons_of_pos hp,countP_cons_of_pos hp,take_succ_cons,df p r t]
  |false=>rw [filter_cons_of_neg (by simp [hp]),filter_cons_of_neg (by simp [hp]),countP_cons_of_neg (by simp [hp]),df p r t]
end
def jY (x:It):Bool:=decide (0<=x.sym)
def zw (x:It):Bool:=decide (x.sym<0)
def qq (xs:List It):Nat:=xs.countP jY
theorem CJ (xs:List It):qq xs+l4 xs=xs.length:=by
 induction xs with
 |nil=>rfl
 |cons x r ih=>
  simp only [qq,l4,jY,countP_cons,length_cons] at ih⊢
  by_cases h:0<=x.sym
  ·simp [h,show ¬ x.sym<0 by omega];omega
  ·simp [h,show x.sym<0 by omega];omega
theorem o3 (i:Nat) (b:List It):(bz i b).filter zw=bz i b/\(bz i b).filter jY=[]:=by
 refine ⟨filter_eq_self.2 λ x hx=> ?_,filter_eq_nil_iff.2 λ x hx=> ?_⟩<;>(have:=kM i b x hx;simp [zw,jY,this])
theorem iq (c:List Nat):(leaves c).filter jY=leaves c/\(leaves c).filter zw=[]:=by
 refine ⟨filter_eq_self.2 λ x hx=> ?_,filter_eq_nil_iff.2 λ x hx=> ?_⟩<;>(have:=tV c x hx;simp [zw,jY];omega)
theorem iI:∀ (q i:Nat) (b:List It) (z:It),(bz i b)[q]? =some z->∃ x y,b[2*q]? =some x/\b[2*q+1]? =some y/\z.w=x.w+y.w
 |_,_,[],z,h=>by simp [bz] at h
 |_,_,[x],z,h=>by simp [bz] at h
 |0,i,x::y::r,z,h=>by simp [bz] at h;subst h;exact ⟨x,y,rfl,rfl,rfl⟩
 |q+1,i,x::y::r,z,h=>by
  rw [bz] at h
  obtain ⟨u,v,h1,h2,h3⟩:=iI q (i+2) r z (by simpa using h)
  refine ⟨u,v,?_,?_,h3⟩
  ·rw [show 2*(q+1)=2*q+1+1 by omega];simpa using h1
  ·rw [show 2*(q+1)+1=2*q+1+1+1 by omega];simpa using h2
theorem Er (i:Nat) (b:List It) (h:Srt It.w b):Srt It.w (bz i b):=by
 refine pairwise_iff_getElem.2 λ p q hp hq hpq=> ?_
 obtain ⟨x,y,h1,h2,h3⟩:=iI p i b _ (getElem?_eq_getElem hp)
 obtain ⟨u,v,g1,g2,g3⟩:=iI q i b _ (getElem?_eq_getElem hq)
 rw [h3,g3]
 have a1:x.w<=u.w:=h.get (by omega) h1 g1
 have a2:y.w<=v.w:=h.get (by omega) h2 g2
 omega
theorem o4 (c:List Nat):∀ k,Srt It.w (lvl c k)
 |0=>cU _
 |_+1=>cU _
theorem gD (c:List Nat):∀ k,(lvl c k).filter jY=leaves c
 |0=>(iq c).1
 |k+1=>by
  rw [lvl,iH,o0,filter_append,(iq c).1,(o3 0 _).2,append_nil]
  exact zv (cU _)
theorem GO (c:List Nat) (k:Nat):(lvl c (k+1)).filter zw=bz 0 (lvl c k):=by
 rw [lvl,iH,o0,filter_append,(iq c).2,(o3 0 _).1,nil_append]
 exact zv (Er 0 _ (o4 c k))
theorem fW (c:List Nat) (k t:Nat):((lvl c k).take t).filter jY=(leaves c).take (qq ((lvl c k).take t)):=by
 rw [df,gD];rfl
theorem By (c:List Nat) (k t:Nat):((lvl c (k+1)).take t).filter zw=(bz 0 (lvl c k)).take (l4 ((lvl c (k+1)).take t)):=by
 rw [df,GO];rfl
theorem zx (c:List Nat) (k t p:Nat) (hp:l4 ((lvl c (k+1)).take t)=p+1):∃ z x y,z∈(lvl c (k+1)).take t/\(lvl c k)[2*p]? =some x/\(lvl c k)[2*p+1]? =some y/\z.w=x.w+y.w:=by
 have h:=By c k t
 rw [hp] at h
 have hl:(((lvl c (k+1)).take t).filter zw).length=p+1:=by rw [<-countP_eq_length_filter];exact hp
 obtain ⟨z,hz⟩:∃ z,(((lvl c (k+1)).take t).filter zw)[p]? =some z:=⟨_,getElem?_eq_getElem (by omega)⟩
 have hz2:=hz
 rw [h,getElem?_take_of_lt (by omega)] at hz2
 obtain ⟨x,y,h1,h2,h3⟩:=iI p 0 _ z hz2
 exact ⟨z,x,y,(mem_filter.1 (mem_of_getElem? hz)).1,h1,h2,h3⟩
theorem o5 (c:List Nat):∀ k,∀ x∈lvl c k,0<x.w
 |0=>λ x hx=>by
  have hm:x∈bg 0 c:=(bN _).mem.2 hx
  have:∀ (l:List Nat) (i:Nat),∀ x∈bg i l,0<x.w:=by
   intro l
   induction l with
   |nil=>intro i x hx;simp [bg] at hx
   |cons n r ih=>
    intro i x hx
    rw [bg] at hx
    split at hx
    ·rcases mem_cons.1 hx with rfl|hx
     ·assumption
     ·exact ih _ x hx
    ·exact ih _ x hx
  exact this _ _ x hm
 |k+1=>λ x hx=>by
  rcases mem_append.1 ((bN _).mem.2 hx) with hx|hx
  ·exact o5 c 0 x hx
  ·obtain ⟨q,hq⟩:=mem_iff_getElem?.1 hx
   obtain ⟨u,v,h1,_,h3⟩:=iI q 0 _ x hq
   have:=o5 c k u (mem_of_getElem? h1)
   omega
theorem GP (c:List Nat) (k t:Nat):qq ((lvl c k).take (2*l4 ((lvl c (k+1)).take t)))<=qq ((lvl c (k+1)).take t):=by
 cases hp:l4 ((lvl c (k+1)).take t) with
 |zero=>simp [qq]
 |succ p=>
  obtain ⟨z,x,y,hz,hx,hy,hw⟩:=zx c k t p hp
  have hx0:=o5 c k x (mem_of_getElem? hx)
  let q:It->Bool:=λ u=>jY u&&decide (u.w<z.w)
  have h1:qq ((lvl c k).take (2*(p+1)))<=((lvl c k).take (2*(p+1))).countP q:=by
   refine countP_mono_left λ u hu hl=> ?_
   obtain ⟨i,hi⟩:=mem_iff_getElem?.1 hu
   rw [getElem?_take] at hi
   split at hi
   ·have:u.w<=y.w:=by
     rcases Nat.lt_or_ge i (2*p+1) with h|h
     ·exact (o4 c k).get h hi hy
     ·have:i=2*p+1:=by omega
      subst this;rw [hi] at hy;cases hy;exact Nat.le_refl _
    have:u.w<z.w:=by omega
    simp [q,hl,this]
   ·cases hi
  have h2:((lvl c k).take (2*(p+1))).countP q<=(lvl c k).countP q:=(take_sublist _ _).countP_le
  have h3:∀ k,(lvl c k).countP q=(leaves c).countP λ u=>decide (u.w<z.w):=λ k=>by
   rw [<-gD c k,countP_filter]
   exact countP_congr λ u _=>by simp [q,and_comm]
  have h4:(lvl c (k+1)).countP q=((lvl c (k+1)).take t).countP q:=by
   rw [fe _ _ t]
   have:((lvl c (k+1)).drop t).countP q=0:=by
    rw [countP_eq_zero]
    intro u hu
    have:=(o4 c (k+1)).take_drop t z hz u hu
    simp [q];intro _;omega
   omega
  have h5:((lvl c (k+1)).take t).countP q<=qq ((lvl c (k+1)).take t):=countP_mono_left λ u _ hu=>by simp [q] at hu;exact hu.1
  have:=h3 k;have:=h3 (k+1)
  omega
theorem mf (c:List Nat) (k:Nat):qq (lvl c k)=(leaves c).length:=by
 rw [qq,countP_eq_length_filter,gD]
theorem CK (c:List Nat) (hn:2<=(leaves c).length):∀ k,qq ((lvl c k).drop (2*(leaves c).length-2))=0
 |0=>by
  rw [drop_of_length_le (by simp [lvl];omega)];rfl
 |k+1=>by
  rw [qq,countP_eq_zero]
  intro x hx hl
  have hcnt:=mf c (k+1)
  have hsum:=fe (lvl c (k+1)) jY (2*(leaves c).length-2)
  have hpos:0<((lvl c (k+1)).drop (2*(leaves c).length-2)).countP jY:=countP_pos_iff.2 ⟨x,hx,hl⟩
  have hlen:((lvl c (k+1)).take (2*(leaves c).length-2)).length=2*(leaves c).length-2:=by
   rw [length_take]
   have:0<((lvl c (k+1)).drop (2*(leaves c).length-2)).length:=length_pos_of_mem hx
   rw [length_drop] at this
   omega
  have hnp:=CJ ((lvl c (k+1)).take (2*(leaves c).length-2))
  have hge:(leaves c).length-1<=l4 ((lvl c (k+1)).take (2*(leaves c).length-2)):=by
   simp only [qq] at hcnt hnp;omega
  obtain ⟨p,hp⟩:∃ p,l4 ((lvl c (k+1)).take (2*(leaves c).length-2))=p+1:=⟨_-1,(Nat.sub_add_cancel (by omega)).symm⟩
  obtain ⟨z,u,y,hz,hu,hy,hw⟩:=zx c k _ p hp
  have hzx:=(o4 c (k+1)).take_drop _ z hz x hx
  have hu0:=o5 c k u (mem_of_getElem? hu)
  have hxl:x∈leaves c:=by rw [<-gD c (k+1)];exact mem_filter.2 ⟨mem_of_mem_drop hx,hl⟩
  have hxk:x∈lvl c k:=by rw [<-gD c k] at hxl;exact (mem_filter.1 hxl).1
  have ih:=CK c hn k
  rw [qq,countP_eq_zero] at ih
  rw [<-take_append_drop (2*(leaves c).length-2) (lvl c k),mem_append] at hxk
  rcases hxk with hxk|hxk
  ·obtain ⟨i,hi⟩:=mem_iff_getElem?.1 hxk
   rw [getElem?_take] at hi
   split at hi
   ·have:x.w<=y.w:=by
     rcases Nat.lt_or_ge i (2*p+1) with h|h
     ·exact (o4 c k).get h hi hy
     ·have:i=2*p+1:=by omega
      subst this;rw [hi] at hy;cases hy;exact Nat.le_refl _
    omega
   ·cases hi
  ·exact ih x hxk hl
theorem GQ (c:List Nat) (hn:2<=(leaves c).length) (k:Nat):qq ((lvl c k).take (2*(leaves c).length-2))=(leaves c).length:=by
 have h1:=CK c hn k
 have h2:=mf c k
 have h3:=fe (lvl c k) jY (2*(leaves c).length-2)
 simp only [qq] at h1 h2⊢;omega
def dB (l:List It) (ls:List Nat):Nat:=(l.map λ x=>2^(15-ls.getD x.sym.toNat 0)).sum
theorem fX (ls:List Nat) (xs:List It):cv ls xs=cv ls (xs.filter jY):=by
 unfold cv
 induction xs generalizing ls with
 |nil=>rfl
 |cons x r ih=>
  by_cases h:0<=x.sym
  ·rw [filter_cons_of_pos (by simp [jY,h]),foldl_cons,foldl_cons,ih]
  ·rw [filter_cons_of_neg (by simp [jY,h]),foldl_cons,show bump ls x=ls by simp [bump,h],ih]
theorem ew {ls:List Nat} {i v:Nat} (h:i<ls.length):(ls.set i v).getD i 0=v:=by simp [getD_eq_getElem?_getD,h]
theorem dh {ls:List Nat} {i j v:Nat} (h:i≠j):(ls.set i v).getD j 0=ls.getD j 0:=by simp [getD_eq_getElem?_getD,getElem?_set_ne h]
def Ok (n:Nat) (l:List It):Prop:=(∀ x∈l,0<=x.sym/\x.sym.toNat<n)/\l.Pairwise λ x y=>x.sym.toNat≠y.sym.toNat
theorem Ok.left {n:Nat} {l m:List It} (h:Ok n (l++m)):Ok n l:=⟨λ x hx=>h.1 x (mem_append_left _ hx),(pairwise_append.1 h.2).1⟩
theorem Ok.right {n:Nat} {l m:List It} (h:Ok n (l++m)):Ok n m:=⟨λ x hx=>h.1 x (mem_append_right _ hx),(pairwise_append.1 h.2).2.1⟩
theorem jZ {n:Nat}:∀ {l:List It} {ls:List Nat},Ok n l->ls.length=n->∀ x∈l,(cv ls l).getD x.sym.toNat 0=ls.getD x.sym.toNat 0+1
 |y::r,ls,h,hl,x,hx=>by
  have hb:cv ls (y::r)=cv (bump ls y) r:=rfl
  have hy:=h.1 y (by simp)
  have hlb:(bump ls y).length=n:=by rw [qo,hl]
  rw [hb]
  have hr:Ok n r:=Ok.right (l:=[y]) h
  rcases mem_cons.1 hx with rfl|hx
  ·have hout:∀ (r:List It) (ls:List Nat),(∀ z∈r,x.sym.toNat≠z.sym.toNat)->(cv ls r).getD x.sym.toNat 0=ls.getD x.sym.toNat 0:=by
    intro r
    induction r with
    |nil=>intro ls _;rfl
    |cons z r ih=>
     intro ls hz
     have:cv ls (z::r)=cv (bump ls z) r:=rfl
     rw [this,ih _ λ q hq=>hz q (by simp [hq])]
     unfold bump
     split
     ·exact dh λ e=>hz z (by simp) e.symm
     ·rfl
   rw [hout r _ (pairwise_cons.1 h.2).1]
   unfold bump
   rw [if_pos hy.1,ew (by omega)]
  ·rw [jZ hr hlb x hx]
   have hne:=(pairwise_cons.1 h.2).1 x hx
   unfold bump
   rw [if_pos hy.1,dh hne]
theorem kN {j:Nat}:∀ (l:List It) (ls:List Nat),(∀ x∈l,x.sym.toNat≠j)->(cv ls l).getD j 0=ls.getD j 0
 |[],ls,_=>rfl
 |x::r,ls,h=>by
  have:cv ls (x::r)=cv (bump ls x) r:=rfl
  rw [this,kN r _ λ z hz=>h z (by simp [hz])]
  unfold bump
  split
  ·exact dh (h x (by simp))
  ·rfl
theorem o6 (l m:List It) (ls:List Nat):dB (l++m) ls=dB l ls+dB m ls:=by simp [dB]
theorem k6 {l:List It} {ls:List Nat} {d:Nat} (h:∀ x∈l,ls.getD x.sym.toNat 0=d):dB l ls=l.length*2^(15-d):=by
 unfold dB
 induction l with
 |nil=>simp
 |cons x r ih=>
  rw [map_cons,sum_cons,ih λ y hy=>h y (by simp [hy]),h x (by simp),length_cons,Nat.add_mul,Nat.one_mul,Nat.add_comm]
theorem zy {l:List It} {ls ls':List Nat} (h:∀ x∈l,ls.getD x.sym.toNat 0=ls'.getD x.sym.toNat 0):dB l ls=dB l ls':=by
 unfold dB
 exact congrArg List.sum (map_congr_left λ x hx=>by rw [h x hx])
theorem zz {n:Nat} {A B:List It} {ls:List Nat} {k:Nat} (hO:Ok n (A++B)) (hl:ls.length=n) (hk:k<=14) (hA:∀ x∈A,ls.getD x.sym.toNat 0=14-k):
  dB (A++B) (cv ls A)+A.length*2^k=dB (A++B) ls:=by
 rw [o6,o6]
 have hB:dB B (cv ls A)=dB B ls:=zy λ x hx=>kN A ls λ y hy=>(pairwise_append.1 hO.2).2.2 y hy x hx
 have hA1:dB A (cv ls A)=A.length*2^k:=by
  rw [k6 (d:=15-k) λ x hx=>by rw [jZ hO.left hl x hx,hA x hx];omega]
  rw [show 15-(15-k)=k by omega]
 have hA2:dB A ls=A.length*2^(k+1):=by
  rw [k6 (d:=14-k) hA,show 15-(14-k)=k+1 by omega]
 rw [hB,hA1,hA2,Nat.pow_succ]
 have:A.length*(2^k*2)=A.length*2^k+A.length*2^k:=by rw [Nat.mul_comm (2^k) 2,Nat.two_mul,Nat.mul_add]
 omega
theorem mg:∀ (l:List Nat) (i:Nat),(bg i l).Pairwise λ x y=>x.sym.toNat<y.sym.toNat
 |[],i=>by simp [bg]
 |n::r,i=>by
  rw [bg]
  split
  ·refine pairwise_cons.2 ⟨λ y hy=> ?_,mg r (i+1)⟩
   obtain ⟨_,j,h,_⟩:=j9 r (i+1) y hy
   simp [h];omega
  ·exact mg r (i+1)
theorem kO (c:List Nat):Ok c.length (leaves c):=by
 refine ⟨λ x hx=> ?_,?_⟩
 ·obtain ⟨_,j,h,hj⟩:=de c x hx
  have:=(List.getElem?_eq_some_iff.1 hj).1
  exact ⟨by omega,by rw [h];simpa using this⟩
 ·have h1:(bg 0 c).Pairwise λ x y=>x.sym.toNat≠y.sym.toNat:=(mg c 0).imp λ h=>by omega
  exact (bN (bg 0 c)).perm.pairwise h1 λ h=>h.symm
theorem zA (c:List Nat):∀ (k t:Nat) (ls:List Nat),ls.length=c.length->k<=15->t<=(lvl c (k-1)).length->(k=0->t=0)->
  (∀ x∈(leaves c).take (qq ((lvl c (k-1)).take t)),ls.getD x.sym.toNat 0=15-k)->dB (leaves c) (down c k t ls)+t*2^k/2=dB (leaves c) ls
 |0,t,ls,_,_,_,h0,_=>by rw [h0 rfl];simp [down]
 |k+1,t,ls,hl,hk,ht,_,hA=>by
  rw [Nat.add_sub_cancel] at ht hA
  have hA':=λ x hx=>(hA x hx).trans (by omega:15-(k+1)=14-k)
  have hO:=kO c
  have hcat:=take_append_drop (qq ((lvl c k).take t)) (leaves c)
  have hn1:qq ((lvl c k).take t)<=(leaves c).length:=by
   rw [<-mf c k];exact (take_sublist t (lvl c k)).countP_le
  have hb:cv ls ((lvl c k).take t)=cv ls ((leaves c).take (qq ((lvl c k).take t))):=by rw [fX,fW]
  have h1:=zz (n:=c.length) (A:=(leaves c).take (qq ((lvl c k).take t))) (B:=(leaves c).drop (qq ((lvl c k).take t))) (ls:=ls) (k:=k) (by rw [hcat];exact hO) hl (by omega) hA'
  rw [hcat,length_take,Nat.min_eq_left hn1] at h1
  have hnp:=CJ ((lvl c k).take t)
  rw [length_take,Nat.min_eq_left ht] at hnp
  rw [down,hb]
  have hk2:t*2^(k+1)/2=t*2^k:=by rw [Nat.pow_succ,<-Nat.mul_assoc,Nat.mul_div_cancel _ (by decide)]
  rw [hk2]
  cases k with
  |zero=>
   have h0:l4 ((lvl c 0).take t)=0:=by
    have:=Bx (lvl c 0) t
    have h:=me c
    simp only [lvl] at this⊢
    omega
   rw [h0] at hnp⊢
   simp only [Nat.pow_zero,Nat.mul_one,Nat.mul_zero,down] at h1⊢
   omega
  |succ k=>
   have hmono:=GP c k t
   have ih:=zA c (k+1) (2*l4 ((lvl c (k+1)).take t)) (cv ls ((leaves c).take (qq ((lvl c (k+1)).take t)))) (by rw [eJ,hl]) (by omega) (wa c k t) (by omega) (by
    intro x hx
    rw [Nat.add_sub_cancel] at hx
    have hx2:x∈(leaves c).take (qq ((lvl c (k+1)).take t)):=by
     rw [mem_iff_getElem?] at hx⊢
     obtain ⟨i,hi⟩:=hx
     refine ⟨i,?_⟩
     rw [getElem?_take] at hi⊢
     split at hi
     ·rw [if_pos (by omega)];exact hi
     ·cases hi
    rw [jZ (Ok.left (m:=(leaves c).drop (qq ((lvl c (k+1)).take t))) (by rw [hcat];exact hO)) hl x hx2,hA' x hx2];omega)
   have e1:2*l4 ((lvl c (k+1)).take t)*2^(k+1)/2=l4 ((lvl c (k+1)).take t)*2^(k+1):=by
    rw [Nat.mul_assoc,Nat.mul_div_cancel_left _ (by decide)]
   rw [e1] at ih
   have e2:t*2^(k+1)=qq ((lvl c (k+1)).take t)*2^(k+1)+l4 ((lvl c (k+1)).take t)*2^(k+1):=by rw [<-Nat.add_mul,hnp]
   omega
theorem xo (ls:List Nat) (x:It) (j:Nat):ls.getD j 0<=(bump ls x).getD j 0:=by
 unfold bump
 split
 ·by_cases h:x.sym.toNat=j
  ·subst h
   by_cases hl:x.sym.toNat<ls.length
   ·rw [ew hl];omega
   ·simp [getD_eq_getElem?_getD,getElem?_eq_none (Nat.le_of_not_lt hl)]
  ·rw [dh h];exact Nat.le_refl _
 ·exact Nat.le_refl _
theorem lh (j:Nat):∀ (xs:List It) (ls:List Nat),ls.getD j 0<=(cv ls xs).getD j 0
 |[],ls=>Nat.le_refl _
 |x::r,ls=>Nat.le_trans (xo ls x j) (lh j r (bump ls x))
theorem o7 (c:List Nat) (j:Nat):∀ k t ls,ls.getD j 0<=(down c k t ls).getD j 0
 |0,_,_=>Nat.le_refl _
 |k+1,t,ls=>Nat.le_trans (lh j _ ls) (o7 c j k _ _)
theorem GR (c:List Nat) (k t:Nat):Ok c.length (((lvl c k).take t).filter jY):=by
 rw [fW];exact Ok.left (m:=(leaves c).drop _) (by rw [take_append_drop];exact kO c)
theorem Bz (c:List Nat) (k t j:Nat) {ls:List Nat} (hl:ls.length=c.length):(cv ls ((lvl c k).take t)).getD j 0<=ls.getD j 0+1:=by
 rw [fX]
 by_cases h:∃ x∈((lvl c k).take t).filter jY,x.sym.toNat=j
 ·obtain ⟨x,hx,rfl⟩:=h
  rw [jZ (GR c k t) hl x hx];exact Nat.le_refl _
 ·rw [kN _ _ λ x hx he=>h ⟨x,hx,he⟩];omega
theorem CL (c:List Nat) (j:Nat):∀ k t ls,ls.length=c.length->(down c k t ls).getD j 0<=ls.getD j 0+k
 |0,_,_,_=>Nat.le_refl _
 |k+1,t,ls,hl=>by
  have h1:=Bz c k t j hl
  have h2:=CL c j k (2*l4 ((lvl c k).take t)) (cv ls ((lvl c k).take t)) (by rw [eJ,hl])
  rw [down];omega
theorem zB (c:List Nat) (j:Nat) (hj:∀ x∈leaves c,x.sym.toNat≠j):∀ k t ls,(down c k t ls).getD j 0=ls.getD j 0
 |0,_,_=>rfl
 |k+1,t,ls=>by
  rw [down,zB c j hj k,fX]
  refine kN _ _ λ x hx=>hj x ?_
  rw [fW] at hx
  exact mem_of_mem_take hx
theorem GS {c:List Nat} {j n:Nat} (h:c[j]? =some n) (hn:0<n):∃ x∈leaves c,x.sym.toNat=j/\x.w=n:=by
 have:∀ (l:List Nat) (i j:Nat),l[j]? =some n->∃ x∈bg i l,x.sym.toNat=i+j/\x.w=n:=by
  intro l
  induction l with
  |nil=>intro i j h;simp at h
  |cons m r ih=>
   intro i j h
   cases j with
   |zero=>
    simp at h;subst h
    rw [bg,if_pos hn]
    exact ⟨⟨m,i,0,0⟩,by simp,by simp,rfl⟩
   |succ j=>
    obtain ⟨x,hx,h1,h2⟩:=ih (i+1) j (by simpa using h)
    refine ⟨x,?_,by omega,h2⟩
    rw [bg];split
    ·exact mem_cons_of_mem _ hx
    ·exact hx
 obtain ⟨x,hx,h1,h2⟩:=this c 0 j h
 exact ⟨x,(bN _).mem.1 hx,by omega,h2⟩
theorem rL (LS:List Nat):∀ (r s:List Nat) (i:Nat),LS.drop i=s->s.length=r.length->(∀ j,j<r.length->(s.getD j 0=0↔r.getD j 0=0))->dB (bg i r) LS=jw s
 |[],s,i,_,hl,_=>by
  have h0:s=[]:=eq_nil_of_length_eq_zero (by simpa using hl)
  subst h0;rfl
 |n::r,s,i,hd,hl,hz=>by
  match s with
  |[]=>simp at hl
  |v::s=>
   have hi:LS.getD i 0=v:=by
    have:(LS.drop i)[0]? =some v:=by rw [hd];rfl
    rw [getElem?_drop] at this
    rw [getD_eq_getElem?_getD];simpa using congrArg (λ o=>o.getD 0) this
   have ih:=rL LS r s (i+1) (by rw [<-drop_drop,hd];rfl) (by simpa using hl) (λ j hj=>by have:=hz (j+1) (by simpa using hj);simpa using this)
   have h0:=hz 0 (by simp)
   simp only [getD_cons_zero] at h0
   rw [bg,jw]
   split
   ·rename_i hn
    have hv:0<v:=by omega
    have e:dB (⟨n,i,0,0⟩::bg (i+1) r) LS=2^(15-LS.getD i 0)+dB (bg (i+1) r) LS:=by simp [dB]
    rw [e,ih,hi,kr,if_pos hv]
   ·have hv:¬ 0<v:=by omega
    rw [ih,kr,if_neg hv,Nat.zero_add]
structure LensOk (c ls:List Nat):Prop where
 len:ls.length=c.length
 le:∀ j,ls.getD j 0<=15
 zero:∀ j,j<c.length->(ls.getD j 0=0↔c.getD j 0=0)
 kraft:jw ls<=2^15
theorem getD_some {l:List Nat} {j n:Nat} (h:l[j]? =some n):l.getD j 0=n:=by simp [getD_eq_getElem?_getD,h]
theorem ca (n j:Nat):(List.replicate n 0).getD j 0=0:=by
 rw [getD_eq_getElem?_getD,getElem?_replicate];split<;>rfl
theorem GU (c:List Nat) (hn:(leaves c).length<=1024):LensOk c (cW c):=by
 have hlen:=nZ c
 have hperm:∀ ls,dB (leaves c) ls=dB (bg 0 c) ls:=λ ls=>((bN (key:=It.w) (bg 0 c)).perm.symm.map _).sum_nat
 have hout:∀ j,j<c.length->c.getD j 0=0->∀ x∈leaves c,x.sym.toNat≠j:=λ j hj h0 x hx he=>by
  obtain ⟨_,i,h1,h2⟩:=de c x hx
  have:i=j:=by omega
  subst this
  have hp:=o5 c 0 x hx
  rw [getD_some h2] at h0;omega
 have hin:∀ j,j<c.length->c.getD j 0≠0->∃ x∈leaves c,x.sym.toNat=j:=λ j hj h0=>by
  have hg:c[j]? =some c[j]:=getElem?_eq_getElem hj
  rw [getD_some hg] at h0
  obtain ⟨x,hx,h1,_⟩:=GS hg (by omega)
  exact ⟨x,hx,h1⟩
 rcases Nat.lt_or_ge (leaves c).length 2 with h2|h2
 ·have hE:cW c=(leaves c).foldl (λ ls x=>ls.set x.sym.toNat 1) (List.replicate c.length 0):=by unfold cW;rw [if_pos h2]
  rcases Nat.eq_zero_or_pos (leaves c).length with h0|h0
  ·have hnil:=eq_nil_of_length_eq_zero h0
   rw [hnil] at hE
   have hz:∀ j,j<c.length->((cW c).getD j 0=0↔c.getD j 0=0):=λ j hj=>by
    rw [hE]
    refine ⟨λ _=> ?_,λ _=>ca ..⟩
    refine Classical.byContradiction λ hne=> ?_
    obtain ⟨x,hx,_⟩:=hin j hj hne
    rw [hnil] at hx;cases hx
   refine ⟨hlen,λ j=>by rw [hE];show (List.replicate c.length 0).getD j 0<=15;rw [ca];omega,hz,?_⟩
   rw [<-rL (cW c) c (cW c) 0 rfl hlen hz,<-hperm,hnil]
   exact Nat.zero_le _
  ·obtain ⟨x,hx⟩:=length_eq_one_iff.1 (by omega:(leaves c).length=1)
   rw [hx] at hE
   have hE':cW c=(List.replicate c.length 0).set x.sym.toNat 1:=hE
   have hxl:=(kO c).1 x (by rw [hx];simp)
   have hg:∀ j,(cW c).getD j 0=if x.sym.toNat=j then 1 else 0:=λ j=>by
    rw [hE']
    by_cases h:x.sym.toNat=j
    ·subst h;rw [ew (by simpa using hxl.2),if_pos rfl]
    ·rw [dh h,if_neg h,ca]
   have hz:∀ j,j<c.length->((cW c).getD j 0=0↔c.getD j 0=0):=λ j hj=>by
    rw [hg]
    by_cases h:x.sym.toNat=j
    ·rw [if_pos h]
     refine ⟨λ h=>by omega,λ h0=>absurd h (hout j hj h0 x (by rw [hx];simp))⟩
    ·rw [if_neg h]
     refine ⟨λ _=>Classical.byContradiction λ hne=> ?_,λ _=>rfl⟩
     obtain ⟨y,hy,hy2⟩:=hin j hj hne
     rw [hx] at hy;simp at hy;subst hy;exact h hy2
   refine ⟨hlen,λ j=>by rw [hg];split<;>omega,hz,?_⟩
   rw [<-rL (cW c) c (cW c) 0 rfl hlen hz,<-hperm,hx]
   simp only [dB,map_cons,map_nil,sum_cons,sum_nil,hg,if_pos]
   decide
 ·have hE:cW c=down c 15 (2*(leaves c).length-2) (List.replicate c.length 0):=by unfold cW;rw [if_neg (by omega)]
  have htop:=GQ c h2 14
  have hz:∀ j,j<c.length->((cW c).getD j 0=0↔c.getD j 0=0):=λ j hj=>by
   rw [hE]
   refine ⟨λ h=>Classical.byContradiction λ hne=> ?_,λ h0=>by rw [zB c j (hout j hj h0),ca]⟩
   obtain ⟨x,hx,hxj⟩:=hin j hj hne
   rw [down] at h
   have h1:=o7 c j 14 (2*l4 ((lvl c 14).take (2*(leaves c).length-2))) (cv (List.replicate c.length 0) ((lvl c 14).take (2*(leaves c).length-2)))
   rw [h] at h1
   rw [fX,fW,htop,take_length,<-hxj,jZ (kO c) (by simp) x hx] at h1
   omega
  refine ⟨hlen,λ j=> ?_,hz,?_⟩
  ·rw [hE]
   have:=CL c j 15 (2*(leaves c).length-2) (List.replicate c.length 0) (by simp)
   rw [ca] at this;omega
  ·rw [<-rL (cW c) c (cW c) 0 rfl hlen hz,<-hperm]
   have h:=zA c 15 (2*(leaves c).length-2) (List.replicate c.length 0) (by simp) (Nat.le_refl _) (zu c (by omega) hn) (by omega) (λ x _=>by rw [ca])
   rw [<-hE,k6 (l:=leaves c) (ls:=List.replicate c.length 0) (d:=0) (λ x _=>ca ..)] at h
   have e:(2*(leaves c).length-2)*2^15/2=((leaves c).length-1)*2^15:=by
    rw [show 2*(leaves c).length-2=2*((leaves c).length-1) by omega,Nat.mul_assoc,Nat.mul_div_cancel_left _ (by decide)]
   rw [e] at h
   have e2:(leaves c).length*2^15=((leaves c).length-1)*2^15+2^15:=by
    conv=>lhs;rw [show (leaves c).length=(leaves c).length-1+1 by omega]
    rw [Nat.add_mul,Nat.one_mul]
   simp only [Nat.sub_zero] at h
   omega
end Go.Kw
