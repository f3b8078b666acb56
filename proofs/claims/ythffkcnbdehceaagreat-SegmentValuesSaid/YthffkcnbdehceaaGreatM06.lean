/-
 M06:corpora as they lie in memory,and which of them are good. No program in sight.
-/
import Derived.Test.YthffkcnbdehceaaGreatM13
import Derived.Lib.BitFns
set_option linter.all false
open Go.Proofs.YthffkcnbdehceaaGreat
open List hiding all
namespace Go.Kw
abbrev Pr:=ByteArray×ByteArray
def aU:Enc Pr:=⟨2,λ x=>[.string x.1,.string x.2],λ _=>Y,λ x u h=>by simp at h;rcases h with rfl|rfl<;>rfl⟩
structure Tk where
 sv:SV
 ns:List ByteArray
def ja:Enc Tk:=⟨1,λ t=>[t.sv.val],λ _=>Y,λ x u h=>by simp at h;subst h;rfl⟩
structure Iv where
 nm:ByteArray
 b:Int
 e:Int
 sv:SV
 ps:List Pr
def aI:Enc Iv:=⟨4,λ x=>[.string x.nm,.int .i64 x.b,.int .i64 x.e,x.sv.val],λ _=>Y,λ x u h=>by simp at h;rcases h with rfl|rfl|rfl|rfl<;>rfl⟩
structure Nd where
 nm:ByteArray
 b:Int
 e:Int
 p:Int
def bI:Enc Nd:=⟨4,λ x=>[.string x.nm,.int .i64 x.b,.int .i64 x.e,.int .i64 x.p],λ _=>Y,λ x u h=>by simp at h;rcases h with rfl|rfl|rfl|rfl<;>rfl⟩
structure Co where
 va:Value
 vt:Value
 vx:Value
 vr:Value
 vn:Value
 vh:Value
 vl:Value
 at_:List (ByteArray×Bool)
 tk:List Tk
 tx:List Iv
 rg:List Iv
 nd:List Nd
 hd:List Int
 rl:List ByteArray
@[reducible] def Co.val(c:Co):Value:=.agg #[c.va,c.vt,c.vx,c.vr,c.vn,c.vh,c.vl]
structure RdC(w:World)(c:Co):Prop where
 a:RdL w c.va cP c.at_
 t:RdL w c.vt ja c.tk
 x:RdL w c.vx aI c.tx
 r:RdL w c.vr aI c.rg
 n:RdL w c.vn bI c.nd
 h:RdL w c.vh (encI .i64) c.hd
 l:RdL w c.vl au c.rl
 tr:∀ t∈c.tk,RdL w t.sv.val au t.ns
 xr:∀ t∈c.tx,RdL w t.sv.val aU t.ps
 rr:∀ t∈c.rg,RdL w t.sv.val aU t.ps
theorem RdC.ext{w w':World}{c:Co}(h:RdC w c)(he:Ext w w'):RdC w' c:=
 ⟨h.a.ext he,h.t.ext he,h.x.ext he,h.r.ext he,h.n.ext he,h.h.ext he,h.l.ext he,λ t ht=>(h.tr t ht).ext he,λ t ht=>(h.xr t ht).ext he,λ t ht=>(h.rr t ht).ext he⟩
def jL(s:ByteArray):Bool:=decide (s.size<=120)&&(dD s&&((ec s.data.toList).all (λ u=>decide (31<u.r/\u.r≠127))&&s.data.toList.all λ c=>decide (32<=c.toNat/\c.toNat≠127)))
def me(s:List UInt8):Nat->Nat×List (List UInt8)
 |0=>(1,[])
 |i+1=>if 0<i/\s[i]? =some 124 then(i+1,(me s i).2++[(s.take i).drop (me s i).1])else me s i
def Bs(s:List UInt8):∀ i,(me s i).1<=max 1 i
 |0=>KD _
 |i+1=>by
  have:=Bs s i;unfold me;split
  ·simp only;omega
  ·omega
def z8(s:ByteArray):Prop:=jL s=true/\s.data.toList[0]? =some 124/\s.data.toList[s.size-1]? =some 124/\(∀ i,1<=i->s.data.toList[i]? =some 124->(me s.data.toList i).1≠i)/\∀ i x y,(me s.data.toList s.size).2[i]? =some x->(me s.data.toList s.size).2[i+1]? =some y->x<y
def okV(a:ByteArray×Bool)(v:ByteArray):Prop:=(a.2=false->jL v=true)/\(a.2=true->z8 v)
theorem okV.val{a:ByteArray×Bool}{v:ByteArray}(h:okV a v):jL v=true:=by
 cases hb:a.2 with
 |false=>exact h.1 hb
 |true=>exact(h.2 hb).1
def okPs(ps:List Pr):Prop:=ps.length<=8/\(∀ p∈ps,bF p.1=true/\jL p.2=true)/\∀ i p q,ps[i]? =some p->ps[i+1]? =some q->SLt p.1 q.1
def sj:okPs []:=⟨by simp,by simp,by simp⟩
def so{p:Pr}(h1:bF p.1=true)(h2:jL p.2=true):okPs [p]:=⟨by simp,by simpa using⟨h1,h2⟩,λ i p q _ hq=>by simp at hq⟩
instance(a b:ByteArray):Decidable (SLt a b):=inferInstanceAs (Decidable (a.data.toList<b.data.toList))
def eG(a b:ByteArray):Int:=if SLt a b then-1 else if SLt b a then 1 else 0
def ed(a b:Int):Int:=if a<b then-1 else if b<a then 1 else 0
def jM:List Pr->List Pr->Int
 |[],[]=>0
 |[],_::_=> -1
 |_::_,[]=>1
 |p::r,q::t=>if eG p.1 q.1≠0 then eG p.1 q.1 else if eG p.2 q.2≠0 then eG p.2 q.2 else jM r t
def eB(x y:Iv):Int:=if ed x.b y.b≠0 then ed x.b y.b else if ed y.e x.e≠0 then ed y.e x.e else if eG x.nm y.nm≠0 then eG x.nm y.nm else jM x.ps y.ps
def vj(a b:Int):ed a b= -ed b a:=by unfold ed;split<;>split<;>omega
def pd(a b:ByteArray):eG a b= -eG b a:=by
 unfold eG;by_cases h:SLt a b
 ·rw[No h,M2 h.OO,No h]
 ·by_cases k:SLt b a
  ·rw[M2 h,No k,No k];rfl
  ·rw[M2 h,M2 k,M2 k,M2 h];rfl
def ES{a b:ByteArray}(h:eG a b=0):a=b:=by
 unfold eG at h;by_cases h1:SLt a b
 ·rw[No h1]at h;omega
 ·by_cases h2:SLt b a
  ·rw[M2 h1,No h2]at h;omega
  ·exact Decidable.byContradiction λ hne=>h2 (SLt.Jr h1 hne)
def lM(a:ByteArray):eG a a=0:=by unfold eG;rw[M2 (SLt.qU a),M2 (SLt.qU a)]
def vk:∀ a b:List Pr,jM a b= -jM b a
 |[],[]=>rfl
 |[],_::_=>rfl
 |_::_,[]=>rfl
 |p::r,q::t=>by
  unfold jM;rw[pd p.1 q.1,pd p.2 q.2,vk r t];by_cases h1:eG q.1 p.1=0
  ·by_cases h2:eG q.2 p.2=0<;>simp[h1,h2]
  ·rw[No (by omega),No h1]
def ET(x y:Iv):eB x y= -eB y x:=by
 unfold eB;rw[vj x.b y.b,vj y.e x.e,pd x.nm y.nm,vk x.ps y.ps];by_cases h1:ed y.b x.b=0
 ·by_cases h2:ed x.e y.e=0
  ·by_cases h3:eG y.nm x.nm=0<;>simp[h1,h2,h3]
  ·simp[h1,h2]
 ·rw[No (by omega),No h1]
def KL{x y:Iv}(h:x.b<y.b):eB x y= -1:=by unfold eB ed;rw[No h];rfl
def noX(x y:Iv):Prop:=x.nm=y.nm->¬ (x.b<y.e/\y.b<x.e/\¬ (x.b<=y.b/\y.e<=x.e)/\¬ (y.b<=x.b/\x.e<=y.e))
theorem noX.symm{x y:Iv}(h:noX x y):noX y x:=λ e k=>h e.symm ⟨k.2.1,k.1,k.2.2.2,k.2.2.1⟩
def noX.ends{x y:Iv}(h:x.e<=y.b):noX x y:=λ _ k=>by omega
structure okTx(n:Int)(l:List Iv):Prop where
 nm:∀ x∈l,bF x.nm=true/\okPs x.ps/\0<=x.b/\x.b<x.e/\x.e<=n
 nd:∀ (i j:Nat) x y,l[i]? =some x->l[j]? =some y->j<i->y.nm≠x.nm
 first:∀ x,l[0]? =some x->x.b=0
 next:∀ (i:Nat) x y,l[i]? =some x->l[i+1]? =some y->y.b=x.e
 last:∀ (i:Nat) x,l[i]? =some x->i+1=l.length->x.e=n
 none_:l=[]↔n=0
def inT(l:List Iv)(b e:Int):Prop:=∃ t∈l,t.b<=b/\b<e/\e<=t.e
structure okRg(tx rg:List Iv):Prop where
 el:∀ x∈rg,bF x.nm=true/\inT tx x.b x.e/\okPs x.ps
 asc:∀ (i:Nat) x y,rg[i]? =some x->rg[i+1]? =some y->eB x y<=0
 nox:∀ x∈rg,∀ y∈rg,noX x y
structure okNd(tx:List Iv)(nd:List Nd):Prop where
 el:∀ x∈nd,bF x.nm=true/\inT tx x.b x.e
 par:∀ (i:Nat) x,nd[i]? =some x->x.p= -1\/(x.p+1=i/\0<i/\∀ y,nd[i-1]? =some y->y.p= -1/\y.b<=x.b/\x.e<=y.e)
 sib:∀ (s i:Nat) x y,nd[s]? =some y->nd[i]? =some x->s<i->y.p=x.p->y.e<=x.b
structure okHd(n:Nat)(tx:List Iv)(hd:List Int)(rl:List ByteArray):Prop where
 len:hd.length=n/\rl.length=n
 bare:∃ i:Nat,(∃ h,hd[i]? =some h/\h≠-1)\/∃ s,rl[i]? =some s/\s≠ByteArray.empty
 el:∀ (i:Nat) h,hd[i]? =some h->h= -1\/∃ t∈tx,t.b<=i/\(i:Int)<t.e/\t.b<=h/\h<t.e
 nm:∀ s∈rl,s=ByteArray.empty\/bF s=true
 rk:∃ rank:Nat->Nat,∀ (i:Nat) h,hd[i]? =some h->0<=h->rank h.toNat<rank i
def mF:List ByteArray:=[ByteArray.mk #[97],ByteArray.mk #[98],ByteArray.mk #[99],ByteArray.mk #[65],ByteArray.mk #[97,98],ByteArray.mk #[]]
def sq:List ByteArray:=[ByteArray.mk #[88],ByteArray.mk #[89]]
def kS:List ByteArray:=[ByteArray.mk #[124],ByteArray.mk #[124,112,124],ByteArray.mk #[124,112,124,113,124],ByteArray.mk #[124,113,124]]
def EU:Nat->List ByteArray
 |0=>mF++[ByteArray.mk #[120]]
 |1=>sq
 |_=>kS
def Hw(i:Nat):(EU i).length<=7:=by
 unfold EU;split<;>decide
structure OkC(k:Nat)(c:Co):Prop where
 at_:atsOk c.at_
 voc:∀ t∈c.tk,∀ (i:Nat) v,t.ns[i]? =some v->v∈EU i
 tk:∀ t∈c.tk,t.ns.length=c.at_.length/\∀ (i:Nat) v a,t.ns[i]? =some v->c.at_[i]? =some a->okV a v
 tx:okTx c.tk.length c.tx
 rg:okRg c.tx c.rg
 nd:okNd c.tx c.nd
 hd:(c.hd=[]/\c.rl=[])\/okHd c.tk.length c.tx c.hd c.rl
 ntk:c.tk.length<=12*k
 ntx:c.tx.length<=k
 nrg:c.rg.length<=8*k
 nnd:c.nd.length<=8*k
def lN(n:Int)(x:Iv):Iv:={x with b:=x.b+n,e:=x.e+n}
def An(n m:Int)(x:Nd):Nd:={x with b:=x.b+n,e:=x.e+n,p:=if 0<=x.p then x.p+m else x.p}
def wV(n:Int)(h:Int):Int:=if 0<=h then h+n else h
def jO(c:Co):List Int:=if 0<c.hd.length then c.hd else List.replicate c.tk.length (-1)
def kT(c:Co):List ByteArray:=if 0<c.hd.length then c.rl else List.replicate c.tk.length ByteArray.empty
structure IsCat(a b c:Co):Prop where
 at_:c.at_=a.at_
 tk:c.tk=a.tk++b.tk
 tx:c.tx=a.tx++b.tx.map (lN a.tk.length)
 rg:c.rg=a.rg++b.rg.map (lN a.tk.length)
 nd:c.nd=a.nd++b.nd.map (An a.tk.length a.nd.length)
 hd:(0<a.hd.length+b.hd.length/\c.hd=jO a++(jO b).map (wV a.tk.length)/\c.rl=kT a++kT b)\/(a.hd.length+b.hd.length=0/\c.hd=[]/\c.rl=[])
def nM{α:Type}{l r:List α}{i:Nat}{x:α}(h:(l++r)[i]? =some x):(i<l.length/\l[i]? =some x)\/(l.length<=i/\r[i-l.length]? =some x):=by
 rcases RG i l.length with h1|h1
 ·rw[RH h1]at h;exact .inl ⟨h1,h⟩
 ·rw[RO h1]at h;exact .inr ⟨h1,h⟩
def cu{α β:Type}{l:List β}{r:List α}{f:α->β}{i:Nat}{x:β}(h:(l++r.map f)[i]? =some x):(i<l.length/\l[i]? =some x)\/(l.length<=i/\∃ y,r[i-l.length]? =some y/\x=f y):=by
 rcases nM h with h|⟨h1,h2⟩
 ·exact .inl h
 ·rw[Rz,SD]at h2;obtain⟨y,hy,rfl⟩:=h2;exact .inr ⟨h1,y,hy,Y⟩
def fN{α β:Type}{l:List β}{r:List α}{f:α->β}{x:β}(h:x∈l++r.map f):x∈l\/∃ y∈r,x=f y:=by
 rcases RE.1 h with h|h
 ·exact .inl h
 ·obtain⟨y,hy,rfl⟩:=Sk.1 h;exact .inr ⟨y,hy,Y⟩
theorem dm{α:Type}{l:List α}{i:Nat}{x:α}(h:l[i]? =some x):x∈l:=Rv h
def KN(n:Int)(x y:Iv):eB (lN n x) (lN n y)=eB x y:=by
 have e:∀ a b:Int,ed (a+n) (b+n)=ed a b:=λ a b=>by
  unfold ed;by_cases h1:a<b
  ·rw[No h1,No (by omega)]
  ·rw[M2 h1,M2 (by omega)];by_cases h2:b<a
   ·rw[No h2,No (by omega)]
   ·rw[M2 h2,M2 (by omega)]
 unfold eB lN;simp only[e]
theorem okTx.cat{n m:Nat}{l r:List Iv}(hl:okTx n l)(hr:okTx m r)(hd:∀ x∈r,∀ y∈l,y.nm≠x.nm):okTx ((n+m:Nat):Int) (l++r.map (lN n)) where
 nm x hx:=by
  rcases fN hx with h|⟨y,hy,rfl⟩
  ·have:=hl.nm x h;exact⟨this.1,this.2.1,this.2.2.1,this.2.2.2.1,by have:=this.2.2.2.2;omega⟩
  ·have:=hr.nm y hy;exact⟨this.1,this.2.1,by unfold lN;simp only;omega,by unfold lN;simp only;omega,by unfold lN;simp only;omega⟩
 nd i j x y hx hy hji:=by
  rcases cu hx with⟨h1,h2⟩|⟨h1,z,hz,rfl⟩
  ·rcases cu hy with⟨h3,h4⟩|⟨h3,z',hz',rfl⟩
   ·exact hl.nd i j x y h2 h4 hji
   ·omega
  ·rcases cu hy with⟨h3,h4⟩|⟨h3,z',hz',rfl⟩
   ·exact hd z (dm hz) y (dm h4)
   ·exact hr.nd _ _ z z' hz hz' (by omega)
 first x hx:=by
  rcases cu hx with⟨h1,h2⟩|⟨h1,z,hz,rfl⟩
  ·exact hl.first x h2
  ·have h0:l=[]:=RM (by omega);have:=hl.none_.1 h0;rw[h0]at hz;have:=hr.first z hz;unfold lN;simp only;omega
 next i x y hx hy:=by
  rcases cu hx with⟨h1,h2⟩|⟨h1,z,hz,rfl⟩
  ·rcases cu hy with⟨h3,h4⟩|⟨h3,z',hz',rfl⟩
   ·exact hl.next i x y h2 h4
   ·have e1:=hl.last i x h2 (by omega);have:i+1-l.length=0:=by omega
    rw[this]at hz';have:=hr.first z' hz';unfold lN;simp only;omega
  ·rcases cu hy with⟨h3,h4⟩|⟨h3,z',hz',rfl⟩
   ·omega
   ·have e:i+1-l.length=i-l.length+1:=by omega
    rw[e]at hz';have:=hr.next _ z z' hz hz';unfold lN;simp only;omega
 last i x hx hi:=by
  simp only[sp,Rq]at hi;rcases cu hx with⟨h1,h2⟩|⟨h1,z,hz,rfl⟩
  ·have h0:r=[]:=RM (by omega);have:=hr.none_.1 h0;have:=hl.last i x h2 (by omega);omega
  ·have:=hr.last _ z hz (by omega);unfold lN;simp only;omega
 none_:=by
  rw[append_eq_nil_iff,map_eq_nil_iff,hl.none_,hr.none_];omega
theorem inT.left{l r:List Iv}{b e:Int}(h:inT l b e):inT (l++r) b e:=let ⟨t,ht,h'⟩:=h;⟨t,Td _ ht,h'⟩
theorem inT.right{l r:List Iv}{n b e:Int}(h:inT r b e):inT (l++r.map (lN n)) (b+n) (e+n):=let ⟨t,ht,h1,h2,h3⟩:=h
 ⟨lN n t,Sn _ (Su ht),by unfold lN;simp only;omega,by omega,by unfold lN;simp only;omega⟩
def inT.bd{n b e:Int}{l:List Iv}(h:inT l b e)(ho:okTx n l):0<=b/\b<e/\e<=n:=by
 obtain⟨t,ht,h1,h2,h3⟩:=h;have:=(ho.nm t ht).2.2;omega
theorem okRg.cat{n m:Nat}{l r tl tr:List Iv}(ht:okTx n tl)(hs:okTx m tr)(hl:okRg tl l)(hr:okRg tr r):okRg (tl++tr.map (lN n)) (l++r.map (lN n)) where
 el x hx:=by
  rcases fN hx with h|⟨y,hy,rfl⟩
  ·have:=hl.el x h;exact⟨this.1,this.2.1.left,this.2.2⟩
  ·have:=hr.el y hy;exact⟨this.1,this.2.1.right,this.2.2⟩
 asc i x y hx hy:=by
  rcases cu hx with⟨h1,h2⟩|⟨h1,z,hz,rfl⟩
  ·rcases cu hy with⟨h3,h4⟩|⟨h3,z',hz',rfl⟩
   ·exact hl.asc i x y h2 h4
   ·have e1:=(hl.el x (dm h2)).2.1.bd ht;have e2:=(hr.el z' (dm hz')).2.1.bd hs;rw[KL (by unfold lN;simp only;omega)];omega
  ·rcases cu hy with⟨h3,h4⟩|⟨h3,z',hz',rfl⟩
   ·omega
   ·have e:i+1-l.length=i-l.length+1:=by omega
    rw[e]at hz';rw[KN];exact hr.asc _ z z' hz hz'
 nox x hx y hy:=by
  rcases fN hx with h|⟨z,hz,rfl⟩
  ·rcases fN hy with h'|⟨z',hz',rfl⟩
   ·exact hl.nox x h y h'
   ·have e1:=(hl.el x h).2.1.bd ht;have e2:=(hr.el z' hz').2.1.bd hs;exact .ends (by unfold lN;simp only;omega)
  ·rcases fN hy with h'|⟨z',hz',rfl⟩
   ·have e1:=(hl.el y h').2.1.bd ht;have e2:=(hr.el z hz).2.1.bd hs;exact noX.symm (.ends (by unfold lN;simp only;omega))
   ·intro e k;exact hr.nox z hz z' hz' e (by unfold lN at k;simp only at k;omega)
theorem okNd.cat{n m:Nat}{l r:List Nd}{tl tr:List Iv}(ht:okTx n tl)(hs:okTx m tr)(hl:okNd tl l)(hr:okNd tr r):okNd (tl++tr.map (lN n)) (l++r.map (An n l.length)) where
 el x hx:=by
  rcases fN hx with h|⟨y,hy,rfl⟩
  ·have:=hl.el x h;exact⟨this.1,this.2.left⟩
  ·have:=hr.el y hy;exact⟨this.1,this.2.right⟩
 par i x hx:=by
  rcases cu hx with⟨h1,h2⟩|⟨h1,z,hz,rfl⟩
  ·rcases hl.par i x h2 with h|⟨h,h0,hp⟩
   ·exact .inl h
   ·refine .inr ⟨h,h0,λ y hy=>hp y ?_⟩;rw[RH (by omega)]at hy;exact hy
  ·rcases hr.par _ z hz with h|⟨h,h0,hp⟩
   ·exact .inl (by unfold An;simp only;rw[M2 (by omega)];exact h)
   ·refine .inr ⟨by unfold An;simp only;rw[No (by omega)];omega,by omega,λ y hy=>?_⟩;rcases cu hy with⟨h3,_⟩|⟨h3,z',hz',rfl⟩
    ·omega
    ·have e:i-1-l.length=i-l.length-1:=by omega
     rw[e]at hz';have:=hp z' hz';unfold An;simp only;rw[M2 (by omega)];omega
 sib s i x y hy hx hsi hp:=by
  rcases cu hx with⟨h1,h2⟩|⟨h1,z,hz,rfl⟩
  ·rcases cu hy with⟨h3,h4⟩|⟨h3,z',hz',rfl⟩
   ·exact hl.sib s i x y h4 h2 hsi hp
   ·omega
  ·rcases cu hy with⟨h3,h4⟩|⟨h3,z',hz',rfl⟩
   ·have e1:=(hl.el y (dm h4)).2.bd ht;have e2:=(hr.el z (dm hz)).2.bd hs;unfold An;simp only;omega
   ·have q:=hr.sib _ _ z z' hz' hz (by omega) (by
     unfold An at hp;simp only at hp;have a1:=hr.par _ z hz;have a2:=hr.par _ z' hz';split at hp<;>split at hp<;>omega)
    unfold An;simp only;omega
structure okHw(n:Nat)(tx:List Iv)(hd:List Int)(rl:List ByteArray):Prop where
 len:hd.length=n/\rl.length=n
 el:∀ (i:Nat) h,hd[i]? =some h->h= -1\/∃ t∈tx,t.b<=i/\(i:Int)<t.e/\t.b<=h/\h<t.e
 nm:∀ s∈rl,s=ByteArray.empty\/bF s=true
 rk:∃ rank:Nat->Nat,∀ (i:Nat) h,hd[i]? =some h->0<=h->rank h.toNat<rank i
def okHw.none(n:Nat)(tx:List Iv):okHw n tx (List.replicate n (-1)) (List.replicate n ByteArray.empty):=by
 have e:∀ (i:Nat) (h:Int),(List.replicate n (-1:Int))[i]? =some h->h= -1:=λ i h hi=>(Tu (dm hi));exact⟨by simp,λ i h hi=>.inl (e i h hi),λ s hs=>.inl (Tu hs),λ _=>0,λ i h hi h0=>by have:=e i h hi;omega⟩
theorem okHw.cat{n m:Nat}{tl tr:List Iv}{hl hr:List Int}{rl rr:List ByteArray}(ht:okTx n tl)(hs:okTx m tr)(hL:okHw n tl hl rl)(hR:okHw m tr hr rr):okHw (n+m) (tl++tr.map (lN n)) (hl++hr.map (wV n)) (rl++rr) where
 len:=by simp[hL.len,hR.len]
 el i h hi:=by
  rcases cu hi with⟨h1,h2⟩|⟨h1,z,hz,rfl⟩
  ·rcases hL.el i h h2 with h|⟨t,ht',h3⟩
   ·exact .inl h
   ·exact .inr ⟨t,Td _ ht',h3⟩
  ·rw[hL.len.1]at h1 hz;rcases hR.el _ z hz with h|⟨t,ht',h3,h4,h5,h6⟩
   ·exact .inl (by unfold wV;rw[M2 (by omega)];exact h)
   ·have h0:=(hs.nm t ht').2.2.1;refine .inr ⟨lN n t,Sn _ (Su ht'),?_⟩;unfold wV lN;rw[No (by omega)];simp only;omega
 nm s hs':=by
  rcases RE.1 hs' with h|h
  ·exact hL.nm s h
  ·exact hR.nm s h
 rk:=by
  obtain⟨ra,hra⟩:=hL.rk;obtain⟨rb,hrb⟩:=hR.rk;refine⟨λ i=>if i<n then ra i else rb (i-n),λ i h hi h0=>?_⟩;rcases cu hi with⟨h1,h2⟩|⟨h1,z,hz,rfl⟩
  ·have:=hra i h h2 h0;have hin:h<(n:Int):=by
    rcases hL.el i h h2 with e|⟨t,ht',h3⟩
    ·omega
    ·have:=(ht.nm t ht').2.2.2.2;omega
   rw[hL.len.1]at h1;show(if h.toNat<n then ra h.toNat else rb (h.toNat-n))<if i<n then ra i else rb (i-n)
   rw[No (by omega),No h1];exact this
  ·rw[hL.len.1]at h1 hz;have hz0:0<=z:=by unfold wV at h0;split at h0<;>omega
   have:=hrb _ z hz hz0;have e:wV n z=z+n:=by unfold wV;rw[No hz0]
   show(if(wV n z).toNat<n then ra (wV n z).toNat else rb ((wV n z).toNat-n))<if i<n then ra i else rb (i-n)
   rw[e,M2 (by omega),M2 (by omega)];have e2:(z+(n:Int)).toNat-n=z.toNat:=by omega
   rw[e2];exact this
def OkC.hw{k:Nat}{c:Co}(h:OkC k c):okHw c.tk.length c.tx (jO c) (kT c):=by
 unfold jO kT;rcases h.hd with⟨h1,h2⟩|h1
 ·rw[h1,M2 (by simp),M2 (by simp)];exact .none _ _
 ·by_cases h0:0<c.hd.length
  ·rw[No h0,No h0];exact⟨h1.len,h1.el,h1.nm,h1.rk⟩
  ·rw[M2 h0,M2 h0];exact .none _ _
theorem OkC.cat{j k:Nat}{a b c:Co}(ha:OkC j a)(hb:OkC k b)(he:a.at_=b.at_)(hd:∀ x∈b.tx,∀ y∈a.tx,y.nm≠x.nm)(hc:IsCat a b c):OkC (j+k) c where
 at_:=hc.at_▸ha.at_
 tk t ht:=by
  rw[hc.tk]at ht;rw[hc.at_];rcases RE.1 ht with h|h
  ·exact ha.tk t h
  ·rw[he];exact hb.tk t h
 voc t ht:=by
  rw[hc.tk]at ht;rcases RE.1 ht with h|h
  ·exact ha.voc t h
  ·exact hb.voc t h
 tx:=by rw[hc.tk,hc.tx,sp];exact ha.tx.cat hb.tx hd
 rg:=by rw[hc.tx,hc.rg];exact okRg.cat ha.tx hb.tx ha.rg hb.rg
 nd:=by rw[hc.tx,hc.nd];exact okNd.cat ha.tx hb.tx ha.nd hb.nd
 hd:=by
  rcases hc.hd with⟨h0,h1,h2⟩|⟨_,h1,h2⟩
  ·right;have hw:=okHw.cat ha.tx hb.tx ha.hw hb.hw;rw[hc.tk,hc.tx,h1,h2,sp];refine⟨hw.len,?_,hw.el,hw.nm,hw.rk⟩;rcases RG 0 a.hd.length with h3|h3
   ·rcases ha.hd with⟨h4,_⟩|h4
    ·rw[h4]at h3;simp at h3
    ·obtain⟨i,⟨h,hi,hne⟩|⟨s,hi,hne⟩⟩:=h4.bare
     ·refine⟨i,.inl ⟨h,?_,hne⟩⟩;unfold jO;rw[No h3,RH (IN.1 hi).1];exact hi
     ·refine⟨i,.inr ⟨s,?_,hne⟩⟩;unfold kT;rw[No h3,RH (IN.1 hi).1];exact hi
   ·have h3':0<b.hd.length:=by omega
    rcases hb.hd with⟨h4,_⟩|h4
    ·rw[h4]at h3';simp at h3'
    ·obtain⟨i,⟨h,hi,hne⟩|⟨s,hi,hne⟩⟩:=h4.bare
     ·refine⟨a.tk.length+i,.inl ⟨wV a.tk.length h,?_,?_⟩⟩
      ·rw[RO (by rw[ha.hw.len.1];omega),ha.hw.len.1,SB,Rz];unfold jO;rw[No h3',hi];rfl
      ·unfold wV;rcases h4.el i h hi with e|⟨t,ht,e⟩
       ·exact absurd e hne
       ·have:=(hb.tx.nm t ht).2.2.1;rw[No (by omega)];omega
     ·refine⟨a.tk.length+i,.inr ⟨s,?_,hne⟩⟩;rw[RO (by rw[ha.hw.len.2];omega),ha.hw.len.2,SB];unfold kT;rw[No h3',hi]
  ·exact .inl ⟨h1,h2⟩
 ntk:=by rw[hc.tk,sp];have:=ha.ntk;have:=hb.ntk;omega
 ntx:=by rw[hc.tx,sp,Rq];have:=ha.ntx;have:=hb.ntx;omega
 nrg:=by rw[hc.rg,sp,Rq];have:=ha.nrg;have:=hb.nrg;omega
 nnd:=by rw[hc.nd,sp,Rq];have:=ha.nnd;have:=hb.nnd;omega
def Bt(l:List Iv):Prop:=∀ (i:Nat) x y,l[i]? =some x->l[i+1]? =some y->eB x y<=0
def Hx:Bt []:=λ i x y h=>by simp at h
def Hy{m:List Iv}{x:Iv}{k:Nat}(h:Bt m)(hk:k<=m.length)(h1:∀ y,0<k->m[k-1]? =some y->eB y x<=0)(h2:∀ y,m[k]? =some y->0<eB y x):Bt (m.take k++x::m.drop k):=by
 have hl:(m.take k).length=k:=by rw[KW];omega
 intro i a b ha hb;rcases nM ha with⟨c1,c2⟩|⟨c1,c2⟩
 ·rw[hl]at c1;rw[SG,No (by omega)]at c2;rcases nM hb with⟨d1,d2⟩|⟨d1,d2⟩
  ·rw[hl]at d1;rw[SG,No (by omega)]at d2;exact h i a b c2 d2
  ·rw[hl]at d1 d2;have e:i+1-k=0:=by omega
   rw[e]at d2;cases d2;have e2:k-1=i:=by omega
   exact h1 a (by omega) (e2▸c2)
 ·rw[hl]at c1 c2;rcases nM hb with⟨d1,d2⟩|⟨d1,d2⟩
  ·rw[hl]at d1;omega
  ·rw[hl]at d1 d2;rcases SJ (i-k)with e|e
   ·rw[e]at c2;cases c2;have e2:i+1-k=1:=by omega
    rw[e2]at d2;simp only[U8,SZ,T7]at d2;have:=h2 b d2;rw[ET];omega
   ·obtain⟨j,hj⟩:∃ j,i-k=j+1:=⟨i-k-1,by omega⟩;have e2:i+1-k=j+2:=by omega
    rw[hj]at c2;rw[e2]at d2;simp only[U8,SZ]at c2 d2;exact h _ a b c2 (by rw[Ti];exact d2)
def Hz{α:Type}(m l:List α)(x:α)(k:Nat)(h:m.Perm l):(m.take k++x::m.drop k).Perm (l++[x]):=by
 have h1:(m.take k++x::m.drop k).Perm (x::m):=by
  refine VQ.trans ?_;rw[RY]
 refine h1.trans ((h.cons x).trans ?_);exact(perm_append_singleton x l).symm
structure ndI(at_:Int)(l:List Nd):Prop where
 el:∀ x∈l,bF x.nm=true/\0<=x.b/\x.b<x.e/\x.e<=at_
 par:∀ (i:Nat) x,l[i]? =some x->x.p= -1\/(x.p+1=i/\0<i/\∀ y,l[i-1]? =some y->y.p= -1/\y.b<=x.b/\x.e<=y.e)
 sib:∀ (s i:Nat) x y,l[s]? =some y->l[i]? =some x->s<i->y.p=x.p->y.e<=x.b
def KO(z:Int):ndI z []:=⟨by simp,by simp,by simp⟩
def fO{α:Type}{l:List α}{i:Nat}{x y:α}(h:(l++[y])[i]? =some x):(i<l.length/\l[i]? =some x)\/(i=l.length/\x=y):=by
 rcases nM h with h|⟨h1,h2⟩
 ·exact .inl h
 ·have:=(IN.1 h2).1;have e:i-l.length=0:=by simp at this;omega
  rw[e]at h2;cases h2;exact .inr ⟨by omega,Y⟩
def ndI.top{at_ b e:Int}{l:List Nd}{nm:ByteArray}(h:ndI at_ l)(hn:bF nm=true)(h0:0<=at_)(h1:at_<=b)(h2:b<e):ndI e (l++[⟨nm,b,e,-1⟩]) where
 el x hx:=by
  rcases RE.1 hx with hx|hx
  ·have:=h.el x hx;exact⟨this.1,by omega,by omega,by omega⟩
  ·rw[RL.1 hx];exact⟨hn,by simp only;omega,h2,Vc _⟩
 par i x hx:=by
  rcases fO hx with⟨c1,c2⟩|⟨c1,rfl⟩
  ·rcases h.par i x c2 with q|⟨q1,q2,q3⟩
   ·exact .inl q
   ·exact .inr ⟨q1,q2,λ y hy=>q3 y (by rw[RH (by omega)]at hy;exact hy)⟩
  ·exact .inl Y
 sib s i x y hy hx hsi hp:=by
  rcases fO hx with⟨c1,c2⟩|⟨c1,rfl⟩
  ·rcases fO hy with⟨d1,d2⟩|⟨d1,rfl⟩
   ·exact h.sib s i x y d2 c2 hsi hp
   ·omega
  ·rcases fO hy with⟨d1,d2⟩|⟨d1,rfl⟩
   ·have:=h.el y (dm d2);simp only;omega
   ·omega
def ndI.R0{at_ b e c d:Int}{l:List Nd}{nm lm:ByteArray}(h:ndI e (l++[⟨nm,b,e,-1⟩]))(hn:bF lm=true)(h1:b<=c)(h2:c<d)(h3:d<=e):ndI e ((l++[⟨nm,b,e,-1⟩])++[⟨lm,c,d,l.length⟩]) where
 el x hx:=by
  rcases RE.1 hx with hx|hx
  ·exact h.el x hx
  ·rw[RL.1 hx];have:=h.el ⟨nm,b,e,-1⟩ (by simp);exact⟨hn,by simp only at this⊢;omega,h2,h3⟩
 par i x hx:=by
  rcases fO hx with⟨c1,c2⟩|⟨c1,rfl⟩
  ·rcases h.par i x c2 with q|⟨q1,q2,q3⟩
   ·exact .inl q
   ·exact .inr ⟨q1,q2,λ y hy=>q3 y (by rw[RH (by omega)]at hy;exact hy)⟩
  ·simp only[sp,KM]at c1;refine .inr ⟨by simp only;omega,by omega,λ y hy=>?_⟩;have e1:i-1=l.length:=by omega
   rw[e1,KV,RO (KD _),Se]at hy;cases hy;exact⟨Y,h1,h3⟩
 sib s i x y hy hx hsi hp:=by
  rcases fO hx with⟨c1,c2⟩|⟨c1,rfl⟩
  ·rcases fO hy with⟨d1,d2⟩|⟨d1,rfl⟩
   ·exact h.sib s i x y d2 c2 hsi hp
   ·omega
  ·rcases fO hy with⟨d1,d2⟩|⟨d1,rfl⟩
   ·simp only[sp,KM]at c1 d1;simp only at hp;rcases h.par s y d2 with q|⟨q1,q2,_⟩<;>omega
   ·omega
theorem ndI.ok{at_ n:Int}{l:List Nd}{t:Iv}(h:ndI at_ l)(h1:at_<=n)(ht:t.b=0)(he:t.e=n):okNd [t] l:=
 ⟨λ x hx=>⟨(h.el x hx).1,t,by simp,by have:=h.el x hx;omega,by have:=h.el x hx;omega,by have:=h.el x hx;omega⟩,h.par,h.sib⟩
structure ordI(i:Nat)(o:List Nat):Prop where
 nd:o.Nodup
 len:o.length=i
 lt:∀ x∈o,x<i
 all:∀ x,x<i->x∈o
def HA:ordI 0 []:=⟨by simp,Y,by simp,by simp⟩
theorem ordI.ins{i:Nat}{o:List Nat}(h:ordI i o)(k:Nat)(hk:k<=i):ordI (i+1) (o.take k++[i]++o.drop k):=by
 have hp:(o.take k++[i]++o.drop k).Perm (i::o):=by
  rw[KV,singleton_append];refine VQ.trans ?_;rw[RY]
 refine⟨hp.nodup_iff.2 (Vz.2 ⟨λ hm=>by have:=h.lt i hm;omega,h.nd⟩),by rw[hp.length_eq,LW,h.len],λ x hx=>?_,λ x hx=>hp.mem_iff.2 (Rx.2 ((RG x i).elim (λ q=>.inr (h.all x q)) λ q=>.inl (by omega)))⟩;rcases Rx.1 (hp.mem_iff.1 hx)with rfl|hx
 ·omega
 ·have:=h.lt x hx;omega
structure hdI(n:Nat)(o:List Nat)(j:Nat)(hd:List Int)(rl:List ByteArray)(some_:Bool):Prop where
 len:hd.length=n/\rl.length=n
 el:∀ (r x:Nat),r<j->o[r]? =some x->hd[x]? =some (-1)\/∃ (q y:Nat),q<r/\o[q]? =some y/\hd[x]? =some (y:Int)
 nm:∀ s∈rl,s=ByteArray.empty\/bF s=true
 bare:some_=true->∃ r x:Nat,r<j/\o[r]? =some x/\((∃ h,hd[x]? =some h/\h≠-1)\/∃ s,rl[x]? =some s/\s≠ByteArray.empty)
def EV{n:Nat}{o:List Nat}:hdI n o 0 (List.replicate n 0) (List.replicate n ByteArray.empty) false:=
 ⟨by simp,λ r x h=>absurd h (by omega),λ s hs=>.inl (Tu hs),λ h=>by cases h⟩
def nN{α:Type}{l:List α}{i j:Nat}{x:α}(h:i<l.length):(l.set i x)[j]? =if i=j then some x else l[j]? :=by
 by_cases e:i=j
 ·subst e;rw[No Y,St h]
 ·rw[M2 e,TG e]
def vm{α:Type}{l:List α}(h:l.Nodup):∀ {i j:Nat} {x:α},l[i]? =some x->l[j]? =some x->i=j:=by
 induction l with
 |nil=>intro i j x hi;simp at hi
 |cons a l ih=>
  intro i j x hi hj;obtain⟨h1,h2⟩:=Vz.1 h;cases i with
  |zero=>
   cases j with
   |zero=>rfl
   |succ j=>simp at hi hj;subst hi;exact absurd (dm hj) h1
  |succ i=>
   cases j with
   |zero=>simp at hi hj;subst hj;exact absurd (dm hi) h1
   |succ j=>simp at hi hj;exact If (· +1) (ih h2 hi hj)
def hdI.step{n:Nat}{o:List Nat}{j x:Nat}{hd:List Int}{rl:List ByteArray}{s1 s2:Bool}(h:hdI n o j hd rl s1)(ho:ordI n o)(hx:o[j]? =some x)(v:Int)(s:ByteArray)(hv:v= -1\/∃ q y:Nat,q<j/\o[q]? =some y/\v=(y:Int))(hs:s=ByteArray.empty\/bF s=true)
  (hb:s2=true->s1=true\/v≠-1\/s≠ByteArray.empty):hdI n o (j+1) (hd.set x v) (rl.set x s) s2:=by
 have hxn:=ho.lt x (dm hx);have hne:∀ r y:Nat,r<j->o[r]? =some y->x≠y:=λ r y hr hy e=>by
  subst e;have:=vm ho.nd hx hy;omega
 refine⟨by simp[h.len],λ r y hr hy=>?_,λ t ht=>?_,λ h2=>?_⟩
 ·rw[nN (by rw[h.len.1];exact hxn)];rcases RG r j with h3|h3
  ·rw[M2 (hne r y h3 hy)];exact h.el r y h3 hy
  ·have e:r=j:=by omega
   subst e;rw[hx]at hy;cases hy;rw[No Y];rcases hv with rfl|⟨q,z,hq,hz,rfl⟩
   ·exact .inl Y
   ·exact .inr ⟨q,z,hq,hz,Y⟩
 ·rcases Tc ht with ht|rfl
  ·exact h.nm t ht
  ·exact hs
 ·rcases hb h2 with h3|h3
  ·obtain⟨r,y,hr,hy,h4⟩:=h.bare h3;refine⟨r,y,by omega,hy,?_⟩;rw[nN (by rw[h.len.1];exact hxn),nN (by rw[h.len.2];exact hxn),M2 (hne r y hr hy),M2 (hne r y hr hy)];exact h4
  ·refine⟨j,x,by omega,hx,?_⟩;rw[nN (by rw[h.len.1];exact hxn),nN (by rw[h.len.2];exact hxn),No Y,No Y];rcases h3 with h3|h3
   ·exact .inl ⟨v,Y,h3⟩
   ·exact .inr ⟨s,Y,h3⟩
theorem hdI.ok{n:Nat}{o:List Nat}{hd:List Int}{rl:List ByteArray}{t:Iv}(h:hdI n o n hd rl true)(ho:ordI n o)(ht:t.b=0)(he:t.e=n):okHd n [t] hd rl where
 len:=h.len
 bare:=by
  obtain⟨r,x,_,_,h4⟩:=h.bare Y;exact⟨x,h4⟩
 el i v hi:=by
  have hin:=(IN.1 hi).1;rw[h.len.1]at hin;obtain⟨r,hr⟩:=Sd (ho.all i hin);have hrn:=(IN.1 hr).1;rw[ho.len]at hrn;rcases h.el r i hrn hr with e|⟨q,y,hq,hy,e⟩
  ·rw[hi]at e;cases e;exact .inl Y
  ·rw[hi]at e;cases e;have:=ho.lt y (dm hy);exact .inr ⟨t,by simp,by omega,by omega,by omega,by omega⟩
 nm:=h.nm
 rk:=by
  refine⟨λ x=>o.idxOf x,λ i v hi h0=>?_⟩;have hin:=(IN.1 hi).1;rw[h.len.1]at hin;obtain⟨r,hr⟩:=Sd (ho.all i hin);have hrn:=(IN.1 hr).1;rw[ho.len]at hrn;have ix:∀ (x k:Nat),o[k]? =some x->o.idxOf x=k:=λ x k hk=>by
   have hm:=dm hk;have hl:=idxOf_lt_length_of_mem hm;have h5:o[o.idxOf x]? =some x:=by rw[py hl,getElem_idxOf hl]
   exact vm ho.nd h5 hk
  show o.idxOf v.toNat<o.idxOf i;rw[ix i r hr];rcases h.el r i hrn hr with e|⟨q,y,hq,hy,e⟩
  ·rw[hi]at e;cases e;omega
  ·rw[hi]at e;cases e;show o.idxOf ((y:Int)).toNat<r;rw[TB,ix y q hy];exact hq
def wW(s:List UInt8):Bool:=s.all λ c=>decide (32<=c.toNat/\c.toNat<127)
def pZ{s:List UInt8}(h:wW s=true):∀ (k i:Nat),s.length-i<=k->∀ u∈cY s i,32<=u.r/\u.r<127
 |0,i,hk,u,hu=>by rw[fx (by omega)]at hu;cases hu
 |k+1,i,hk,u,hu=>by
  rcases RG i s.length with hi|hi
  ·have hg:=Sy.1 h _ (Uu hi);have hg:=Sw hg;have hd:dec (s.drop i)=((s[i]).toNat,1):=by
    unfold dec;have e:gb (s.drop i) 0=(s[i]).toNat:=by rw[nH,T7];unfold gb;rw[KP,py hi];rfl
    rw[e];unfold Lib.decodeN;rw[No (by omega)]
   rw[gX hi,hd]at hu;rcases Rx.1 hu with rfl|hu
   ·exact⟨hg.1,hg.2⟩
   ·exact pZ h k _ (by omega) u hu
  ·rw[fx (by omega)]at hu;cases hu
def kU{s:ByteArray}(h1:s.size<=120)(h:wW s.data.toList=true):jL s=true:=by
 have hu:∀ u∈ec s.data.toList,32<=u.r/\u.r<127:=pZ h _ 0 (KD _);unfold jL;rw[Rr h1,Vl,RC,RC];refine⟨Sy.2 λ u hm=>?_,Sy.2 λ u hm=>?_,Sy.2 λ c hm=>?_⟩
 ·have:=hu u hm;unfold Un.ok;rw[Bool.or_eq_true];left;exact bne_iff_ne.2 (by omega)
 ·have:=hu u hm;exact Rr ⟨by omega,by omega⟩
 ·have:=Sw (Sy.1 h c hm);exact Rr ⟨this.1,by omega⟩
def kf:List (ByteArray×Bool):=[(ByteArray.mk #[119,111,114,100],false),(ByteArray.mk #[116,97,103],false),(ByteArray.mk #[102,101,97,116],true)]
def EW:∀ s∈mF,jL s=true:=λ s hs=>by
 refine kU ?_ ?_
 ·exact(by decide:∀ s∈mF.map (·.size),s<=120) _ (Su hs)
 ·exact(by decide:∀ s∈mF.map (λ s=>wW s.data.toList),s=true) _ (Su (f:=λ s:ByteArray=>wW s.data.toList) hs)
def HB:∀ s∈sq,jL s=true:=λ s hs=>by
 refine kU ?_ ?_
 ·exact(by decide:∀ s∈sq.map (·.size),s<=120) _ (Su hs)
 ·exact(by decide:∀ s∈sq.map (λ s=>wW s.data.toList),s=true) _ (Su (f:=λ s:ByteArray=>wW s.data.toList) hs)
def NB:List (List UInt8)->Bool
 |x::y::r=>decide (x<y)&&NB (y::r)
 |_=>true
def zb:∀ (l:List (List UInt8)),NB l=true->∀ (i:Nat) x y,l[i]? =some x->l[i+1]? =some y->x<y
 |[],_,i,x,y,hx,_=>by simp at hx
 |[a],_,i,x,y,_,hy=>by simp at hy
 |a::b::r,h,0,x,y,hx,hy=>by
  simp at hx hy;subst hx hy;exact Sw (RC _ _▸h).1
 |a::b::r,h,i+1,x,y,hx,hy=>zb (b::r) (RC _ _▸h).2 i x y hx hy
def KQ(s:List UInt8):Bool:=decide (s[0]? =some 124)&&(decide (s[s.length-1]? =some 124)&&(((List.range s.length).all λ i=>decide (1<=i->s[i]? =some 124->(me s i).1≠i))&&NB (me s s.length).2))
def KR{s:ByteArray}(h:jL s=true)(ht:KQ s.data.toList=true):z8 s:=by
 unfold KQ at ht;simp only[RC,Ss,Sy,Ut]at ht;obtain⟨h1,h2,h3,h4⟩:=ht;exact⟨h,h1,h2,λ i hi hs=>h3 i (IN.1 hs).1 hi hs,zb _ h4⟩
def EX:∀ s∈kS,z8 s:=λ s hs=>by
 refine KR (kU ?_ ?_) ?_
 ·exact(by decide:∀ s∈kS.map (·.size),s<=120) _ (Su hs)
 ·exact(by decide:∀ s∈kS.map (λ s=>wW s.data.toList),s=true) _ (Su (f:=λ s:ByteArray=>wW s.data.toList) hs)
 ·exact(by decide:∀ s∈kS.map (λ s=>KQ s.data.toList),s=true) _ (Su (f:=λ s:ByteArray=>KQ s.data.toList) hs)
def HC:atsOk kf:=by
 refine⟨λ i x hx=>?_,by decide,by decide⟩;have hi:=(IN.1 hx).1;have hi:i<3:=hi;rcases(by omega:i=0\/i=1\/i=2)with rfl|rfl|rfl<;>(cases hx;exact⟨by decide,by decide⟩)
def KS(ns:List ByteArray):Prop:=∃ a b c,ns=[a,b,c]/\a∈mF/\b∈sq/\c∈kS
def KT{ns:List ByteArray}(h:KS ns):ns.length=kf.length/\∀ (i:Nat) v a,ns[i]? =some v->kf[i]? =some a->okV a v:=by
 obtain⟨a,b,c,rfl,ha,hb,hc⟩:=h;refine⟨Y,λ i v x hv hx=>?_⟩;have hi:i<3:=(IN.1 hv).1;rcases(by omega:i=0\/i=1\/i=2)with rfl|rfl|rfl
 ·cases hv;cases hx;exact⟨λ _=>EW _ ha,λ h=>by cases h⟩
 ·cases hv;cases hx;exact⟨λ _=>HB _ hb,λ h=>by cases h⟩
 ·cases hv;cases hx;exact⟨(λ h=>by cases h),λ _=>EX _ hc⟩
def Re(n:Int)(x:Iv):Prop:=bF x.nm=true/\okPs x.ps/\0<=x.b/\x.b<x.e/\x.e<=n
def NC{c:Co}{n:Nat}{t:Iv}{at_:Int}(h0:0<n)(h1:n<=12)(ha:c.at_=kf)(hl:c.tk.length=n)(hk:∀ t∈c.tk,KS t.ns)(hx:c.tx=[t])(tb:t.b=0)(te:t.e=n)(tn:bF t.nm=true)(tp:okPs t.ps)
  (hr:∀ x∈c.rg,Re n x) (hs:Bt c.rg) (hX:∀ x∈c.rg,∀ y∈c.rg,noX x y) (hm:c.rg.length<=8) (hn:ndI at_ c.nd) (hat:at_<=n) (hnl:c.nd.length<=8) (hh:(c.hd=[]/\c.rl=[])\/okHd n [t] c.hd c.rl):OkC 1 c where
 at_:=ha▸HC
 tk t ht:=by rw[ha];exact KT (hk t ht)
 voc t ht i v hv:=by
  obtain⟨a,b,e,h9,h1,h2,h3⟩:=hk t ht;rw[h9]at hv;have hi:i<3:=(IN.1 hv).1;rcases(by omega:i=0\/i=1\/i=2)with rfl|rfl|rfl
  ·cases hv;exact Td _ h1
  ·cases hv;exact h2
  ·cases hv;exact h3
 tx:=by
  rw[hx,hl];have g1:∀ {i:Nat} {x:Iv},[t][i]? =some x->i=0/\x=t:=λ{i x} h=>by
   cases i with
   |zero=>cases h;exact⟨Y,Y⟩
   |succ i=>simp at h
  refine⟨λ x hx=>?_,λ i j x y hx hy hji=>?_,λ x h=>(g1 h).2▸tb,λ i x y hx hy=>?_,λ i x h _=>(g1 h).2▸te,?_⟩
  ·rw[RL.1 hx];exact⟨tn,tp,by omega,by omega,by omega⟩
  ·have:=g1 hx;omega
  ·have:=g1 hy;omega
  ·constructor
   ·intro h;cases h
   ·intro h;omega
 rg:=by
  rw[hx];refine⟨λ x hm=>?_,hs,hX⟩;have:=hr x hm;exact⟨this.1,⟨t,by simp,by have:=this.2.2;omega,by have:=this.2.2;omega,by have:=this.2.2;omega⟩,this.2.1⟩
 nd:=hx▸hn.ok (by omega) tb te
 hd:=by rw[hl,hx];exact hh
 ntk:=by omega
 ntx:=by rw[hx];exact KD _
 nrg:=by omega
 nnd:=by omega
def nO:Nat->Nat->List Nat
 |0,v=>[v%256]
 |f+1,v=>if v<128 then[v%256]else(v%256|||128)::nO f (v/128)
def uv(v:Nat):List Nat:=nO 9 v
def zd:∀ (f v:Nat),v<128^(f+1)->nO (f+1) v=nO f v
 |0,v,h=>by simp only[nO];rw[No (by omega)]
 |f+1,v,h=>by
  have h2:v/128<128^(f+1):=by rw[T0]at h;omega
  rw[nO]
  conv=>rhs;rw[nO]
  rw[zd f (v/128) h2]
def CH(v:Nat)(hv:v<2^64)(h:128<=v):uv v=(v%2^8|||128)::uv (v/2^7):=by
 unfold uv;rw[zd 8 (v/2^7) (by omega)];rw[nO,M2 (by omega)]
def ze(v:Nat)(h:v<128):uv v=[v%2^8]:=by unfold uv;rw[nO,No h]
def HD:∀ (f v:Nat),(nO f v).length<=f+1
 |0,v=>by simp[nO]
 |f+1,v=>by
  rw[nO];split
  ·simp
  ·simp;exact HD f _
def aC(v:Nat):(uv v).length<=10:=HD 9 v
def KU:∀ (f v:Nat),1<=(nO f v).length
 |0,v=>by simp[nO]
 |f+1,v=>by rw[nO];split<;>simp
def HE(v:Nat):1<=(uv v).length:=KU 9 v
def HF:∀ (f v:Nat),∀ x∈nO f v,x<256
 |0,v=>by simp[nO];omega
 |f+1,v=>by
  rw[nO];split
  ·simp;omega
  ·intro x hx;rcases Rx.1 hx with rfl|hx
   ·exact Us (n:=8) (by omega) (by omega)
   ·exact HF f _ x hx
def de(v:Nat):∀ x∈uv v,x<256:=HF 9 v
def gh(b:Bool)(m:Nat):Nat:=if b then m else 0
def cM(l:List Bool)(i:Nat):Bool:=l.getD i false
def cD(l:List Bool)(k:Nat):Nat:=
 gh (cM l (8*k)) 128|||(gh (cM l (8*k+1)) 64|||(gh (cM l (8*k+2)) 32|||(gh (cM l (8*k+3)) 16|||
  (gh (cM l (8*k+4)) 8|||(gh (cM l (8*k+5)) 4|||(gh (cM l (8*k+6)) 2|||gh (cM l (8*k+7)) 1))))))
def aE(l:List Bool):List Nat:=(List.range ((l.length+7)/8)).map (cD l)
def aK(l:List Bool):(aE l).length=(l.length+7)/8:=by simp[aE]
def sr(l:List Bool)(x:Bool)(i:Nat):cM (l++[x]) i=if i=l.length then x else cM l i:=by
 unfold cM;simp only[KP];rcases U5 i l.length with h|h|h
 ·rw[RH h,M2 (by omega)]
 ·subst h;simp
 ·rw[M2 (by omega),RN (by simp;omega),RN (by omega)]
def ee(l:List Bool)(i:Nat)(h:l.length<=i):cM l i=false:=by
 unfold cM;rw[KP,RN h];rfl
def fP(l:List Bool)(x:Bool)(k:Nat):cD (l++[x]) k=if k=l.length/8 then cD l k|||gh x (128/2^(l.length%8))else cD l k:=by
 by_cases hk:k=l.length/8
 ·rw[No hk];have hr:l.length%8<8:=TZ _ (by decide);have hn:l.length=8*k+l.length%8:=by omega
  have out:∀ j,l.length%8<=j->cM l (8*k+j)=false:=λ j hj=>ee l _ (by omega);unfold cD;simp only[sr];have z0:=out 0;have z1:=out 1;have z2:=out 2;have z3:=out 3;have z4:=out 4;have z5:=out 5;have z6:=out 6;have z7:=out 7;rw[T7]at z0;generalize l.length%8=r at*;have hcase:r=0\/r=1\/r=2\/r=3\/r=4\/r=5\/r=6\/r=7:=by omega
  rcases hcase with rfl|rfl|rfl|rfl|rfl|rfl|rfl|rfl<;>
   simp[hn,z0,z1,z2,z3,z4,z5,z6,z7,gh,Nat.or_assoc]
 ·rw[M2 hk];have e:∀ j,j<8->cM (l++[x]) (8*k+j)=cM l (8*k+j):=λ j hj=>by rw[sr,M2 (by omega)]
  unfold cD;rw[show cM (l++[x]) (8*k)=cM l (8*k)from e 0 (by omega),e 1 (by omega),e 2 (by omega),e 3 (by omega),e 4 (by omega),e 5 (by omega),e 6 (by omega),e 7 (by omega)]
def su(l:List Bool)(k:Nat)(h:l.length<=8*k):cD l k=0:=by
 unfold cD;simp[ee l (8*k) (by omega),ee l (8*k+1) (by omega),ee l (8*k+2) (by omega),ee l (8*k+3) (by omega),ee l (8*k+4) (by omega),ee l (8*k+5) (by omega),
  ee l (8*k+6) (by omega),ee l (8*k+7) (by omega),gh]
def lO(l:List Bool)(k:Nat):cD l k<256:=by
 have h:∀ (b:Bool) (m:Nat),m<256->gh b m<2^8:=λ b m hm=>by cases b<;>simp[gh,hm]
 unfold cD;have:=λ a b (h1:a<2^8) (h2:b<2^8)=>Us h1 h2;exact this _ _ (h _ _ (by decide)) (this _ _ (h _ _ (by decide)) (this _ _ (h _ _ (by decide)) (this _ _ (h _ _ (by decide)) (this _ _ (h _ _ (by decide)) (this _ _ (h _ _ (by decide)) (this _ _ (h _ _ (by decide)) (h _ _ (by decide))))))))
def fQ(l:List Bool):∀ x∈aE l,x<256:=λ x hx=>by
 obtain⟨k,_,rfl⟩:=Sk.1 hx;exact lO l k
def gZ(l:List Bool):List Nat:=if l.length%8=0 then aE l++[0]else aE l
def nP(l:List Bool):gZ l=(List.range (l.length/8+1)).map (cD l):=by
 unfold gZ aE;split
 ·rename_i h
  rw[show(l.length+7)/8=l.length/8 by omega,To,Si];simp only[Sg,U3];rw[su l _ (by omega)]
 ·rw[show(l.length+7)/8=l.length/8+1 by omega]
def sx(l:List Bool)(x:Bool):aE (l++[x])=(List.range (l.length/8+1)).map (cD (l++[x])):=by
 unfold aE;rw[sp,KM,show(l.length+1+7)/8=l.length/8+1 by omega]
def zf(l:List Bool):aE (l++[false])=gZ l:=by
 rw[sx,nP];apply TD;intro k _;rw[fP];split<;>simp[gh]
def jP(l:List Bool):(gZ l).length=l.length/8+1:=by rw[nP];simp
def EY(l:List Bool):(gZ l)[l.length/8]? =some (cD l (l.length/8)):=by rw[nP];simp
def Bu(l:List Bool):aE (l++[true])=(gZ l).set (l.length/8) (cD l (l.length/8)|||128/2^(l.length%8)):=by
 rw[sx,nP,To,Si,Si,Sf _ _ (by simp)];simp only[Sg,U3,Rq,Ux,Se,set_cons_zero];congr 1
 ·apply TD;intro k hk;rw[fP,M2 (by have:=Ut.1 hk;omega)]
 ·rw[fP,No Y];simp[gh]
def aT(x:Nat):Nat->List Bool
 |0=>[]
 |m+1=>decide (x/2^m%2^1=1)::aT x m
def aH(x:Nat):∀ m,(aT x m).length=m
 |0=>rfl
 |m+1=>by simp[aT,aH x m]
def aj{α:Type}{l:List α}{k:Nat}{x:α}(h:l[k]? =some x):l.take (k+1)=l.take k++[x]:=by
 rw[VG,h];rfl
def aL{α:Type}{l:List α}{k:Nat}{x:α}(h:l[k]? =some x):k<l.length:=(IN.1 h).1
def a7{α:Type}{l:List α}{k:Nat}{x:α}(h:l[k]? =some x):x∈l:=Rv h
def bitLenAux_le:∀ (f v n:Nat),v<2^n->Lib.bitLenAux f v<=n
 |0,_,_,_=>KB _
 |f+1,v,n,h=>by
  unfold Lib.bitLenAux;split
  ·exact KB _
  ·cases n with
   |zero=>simp at h;omega
   |succ n=>
    have:=bitLenAux_le f (v/2) n (by rw[T0]at h;omega);omega
def bitLen_le{v n:Nat}(h:v<2^n):Lib.bitLen v<=n:=bitLenAux_le 64 v n h
def iH:∀ (f v:Nat),Lib.bitLenAux f v<=f
 |0,_=>KD _
 |f+1,v=>by unfold Lib.bitLenAux;split;(omega);(have:=iH f (v/2);omega)
def bitLen_le64(v:Nat):Lib.bitLen v<=64:=iH 64 v
theorem okTx.le{n:Int}{l:List Iv}(h:okTx n l):∀ (d i:Nat) x y,l[i]? =some x->l[i+d+1]? =some y->x.e<=y.b
 |0,i,x,y,hx,hy=>by have:=h.next i x y hx hy;omega
 |d+1,i,x,y,hx,hy=>by
  have hl:=(IN.1 hy).1;obtain⟨z,hz⟩:∃ z,l[i+d+1]? =some z:=⟨_,py (by omega)⟩;have h1:=okTx.le h d i x z hx hz;have h2:=h.next (i+d+1) z y hz hy;have h3:=(h.nm z (a7 hz)).2.2;omega
def okTx.uniq{n:Int}{l:List Iv}(h:okTx n l){i j:Nat}{x y:Iv}{p:Int}(hx:l[i]? =some x)(hy:l[j]? =some y)(h1:x.b<=p/\p<x.e)(h2:y.b<=p/\p<y.e):i=j:=by
 rcases U5 i j with q|q|q
 ·have:=h.le (j-i-1) i x y hx (by rw[show i+(j-i-1)+1=j by omega];exact hy);omega
 ·exact q
 ·have:=h.le (i-j-1) j y x hy (by rw[show j+(i-j-1)+1=i by omega];exact hx);omega
theorem okTx.same{n:Int}{l:List Iv}(h:okTx n l){x y:Iv}{p:Int}(hx:x∈l)(hy:y∈l)(h1:x.b<=p/\p<x.e)(h2:y.b<=p/\p<y.e):x=y:=by
 obtain⟨i,hi⟩:=Sd hx;obtain⟨j,hj⟩:=Sd hy;have:=h.uniq hi hj h1 h2;subst this;rw[hi]at hj;cases hj;rfl
def okTx.cover{n:Int}{l:List Iv}(h:okTx n l){p:Int}(h0:0<=p)(h1:p<n):∃ t∈l,t.b<=p/\p<t.e:=by
 have key:∀ (k:Nat),k<l.length->(∃ t∈l,t.b<=p/\p<t.e)\/∀ x,l[k]? =some x->x.e<=p:=by
  intro k;induction k with
  |zero=>
   intro hk;obtain⟨x,hx⟩:∃ x,l[0]? =some x:=⟨_,py hk⟩;have e:=h.first x hx;rcases(by omega:p<x.e\/x.e<=p)with q|q
   ·exact .inl ⟨x,a7 hx,by omega,q⟩
   ·exact .inr λ y hy=>by rw[hx]at hy;cases hy;exact q
  |succ k ih=>
   intro hk;rcases ih (by omega)with q|q
   ·exact .inl q
   ·obtain⟨x,hx⟩:∃ x,l[k]? =some x:=⟨_,py (by omega)⟩;obtain⟨y,hy⟩:∃ y,l[k+1]? =some y:=⟨_,py hk⟩;have e:=h.next k x y hx hy;have e2:=q x hx;rcases(by omega:p<y.e\/y.e<=p)with r|r
    ·exact .inl ⟨y,a7 hy,by omega,r⟩
    ·exact .inr λ z hz=>by rw[hy]at hz;cases hz;exact r
 have hl:0<l.length:=by
  rcases SJ l.length with q|q
  ·have:=h.none_.1 (RM q);omega
  ·exact q
 rcases key (l.length-1) (by omega)with q|q
 ·exact q
 ·obtain⟨x,hx⟩:∃ x,l[l.length-1]? =some x:=⟨_,py (by omega)⟩;have e1:=h.last _ x hx (by omega);have e2:=q x hx;omega
def okTx.lens{n:Nat}{l:List Iv}(h:okTx n l):(!(decide (l.length=0)==decide (n=0)))=false:=by
 have h1:=h.none_;by_cases q:n=0
 ·have:l=[]:=h1.2 (by omega);subst this;simp[q]
 ·have:l.length≠0:=λ e=>q (by have:=h1.1 (RM e);omega);simp[q,this]
theorem atsOk.no{l:List (ByteArray×Bool)}(h:atsOk l){k j:Nat}{x y:ByteArray×Bool}(hx:l[k]? =some x)(hy:((l.take k).drop 0)[j]? =some y):y.1≠x.1:=λ e=>by
 have h1:=(h.1 k x hx).2;rw[any_eq_false]at h1;exact h1 y (by rw[Tm]at hy;exact a7 hy) (by simpa using e)
def ND{l:List (ByteArray×Bool)}(h:atsOk l){k j:Nat}{x y:ByteArray×Bool}(hx:l[k]? =some x)(hy:((l.take k).drop 0)[j]? =some y):y.1≠x.1:=h.no hx hy
def sy{α:Type}{l:List α}{k j:Nat}{y:α}(h:((l.take k).drop 0)[j]? =some y):j<k/\l[j]? =some y:=by
 rw[Tm,SG]at h;split at h
 ·exact⟨by assumption,h⟩
 ·cases h
def KX{n:Int}{l:List Iv}(h:okTx n l){t x y:Iv}{i j:Nat}{p q:Int}(ht:t∈l)(hx:l[i]? =some x)(hy:l[j]? =some y)(h1:t.b<=p/\p<t.e)(h2:t.b<=q/\q<t.e)(h3:x.b<=p/\p<x.e)(h4:y.b<=q/\q<y.e):i=j:=by
 obtain⟨m,hm⟩:=Sd ht;rw[<-h.uniq hm hx h1 h3,<-h.uniq hm hy h2 h4]
structure HdF(n:Nat)(hd:List Int):Prop where
 rg:∀ (i:Nat) h,hd[i]? =some h->h= -1\/(0<=h/\h<(hd.length:Int))
 rk:∃ rank:Nat->Nat,∀ (i:Nat) h,hd[i]? =some h->0<=h->rank h.toNat<rank i
def OkC.Rj{n:Nat}{c:Co}(h:OkC n c):HdF c.tk.length c.hd:=by
 rcases h.hd with⟨e,_⟩|q
 ·rw[e];exact⟨λ i h hh=>by simp at hh,⟨id,λ i h hh=>by simp at hh⟩⟩
 ·refine⟨λ i x hx=>(q.el i x hx).elim .inl λ⟨t,ht,h1,h2,h3,h4⟩=>.inr ?_,q.rk⟩;have:=(h.tx.nm t ht).2.2;rw[q.len.1];omega
def OkC.mu{n:Nat}{c:Co}(h:OkC n c):c.hd.length=c.rl.length/\(0<c.hd.length->okHd c.tk.length c.tx c.hd c.rl):=by
 rcases h.hd with⟨e,e2⟩|q
 ·rw[e,e2];exact⟨Y,λ h=>by simp at h⟩
 ·exact⟨by rw[q.len.1,q.len.2],λ _=>q⟩
def Bv{l:List Iv}{k m:Nat}{x y:Iv}(hk:k<=m)(hx:l[m]? =some x)(hy:l[k]? =some y)(h:¬ y.nm=x.nm):k+1<=m:=by
 rcases RG k m with q|q
 ·exact q
 ·have e:k=m:=by omega
  subst e;rw[hx]at hy;cases hy;exact absurd Y h
def jb{α:Type}{l:List α}{k:Nat}{x:α}{Q:Nat->α->Prop}(hno:∀ (j:Nat) t,j<k->l[j]? =some t->Q j t)(hx:l[k]? =some x)(h:Q k x):∀ (j:Nat) t,j<k+1->l[j]? =some t->Q j t:=λ j t hj ht=>by
 rcases RG j k with q|q
 ·exact hno j t q ht
 ·have e:j=k:=by omega
  subst e;rw[hx]at ht;cases ht;exact h
def KY{nd:List Nd}{en:List Int}{k:Nat}{x:Nd}(hen:∀ (q:Nat) z,en[q]? =some z->z=0\/∃ (s:Nat) (y:Nd),s<k/\nd[s]? =some y/\y.p+1=(q:Int)/\y.e=z)(hx:nd[k]? =some x)(hp: -1<=x.p):∀ (q:Nat) z,(en.set (x.p+1).toNat x.e)[q]? =some z->z=0\/∃ (s:Nat) (y:Nd),s<k+1/\nd[s]? =some y/\y.p+1=(q:Int)/\y.e=z:=λ q z h=>by
 rw[T8]at h;split at h
 ·split at h
  ·cases h;exact .inr ⟨k,x,by omega,hx,by omega,Y⟩
  ·cases h
 ·exact(hen q z h).imp_right λ⟨s,y,h1,h2⟩=>⟨s,y,by omega,h2⟩
def KZ{dp:List Nat}{k d:Nat}(hdp:∀ (q:Nat) d,dp[q]? =some d->d<=q)(hd:d<=k):∀ (q:Nat) e,(dp.set (k+1) (d+1))[q]? =some e->e<=q:=λ q e h=>by
 rw[T8]at h;split at h
 ·split at h
  ·cases h;omega
  ·cases h
 ·exact hdp q e h
def HG{dp:List Nat}{k d:Nat}(hdp:∀ (q:Nat) d,dp[q]? =some d->d<=q+1/\(k<=q->d=0))(hd:d<=k):(∀ (q:Nat) e,(dp.set k d)[q]? =some e->q≠k->e<=q+1/\(k<=q->e=0))/\∀ e,(dp.set k d)[k]? =some e->e<=k:=by
 refine⟨λ q e h hq=>?_,λ e h=>?_⟩
 ·rw[TG (Ne.symm hq)]at h;exact hdp q e h
 ·rw[T8]at h;split at h
  ·split at h
   ·cases h;exact hd
   ·cases h
  ·omega
def zg{dp:List Nat}{k d:Nat}(hdp:(∀ (q:Nat) d,dp[q]? =some d->q≠k->d<=q+1/\(k<=q->d=0))/\∀ d,dp[k]? =some d->d<=k)(hd:d<=k):∀ (q:Nat) e,(dp.set k (d+1))[q]? =some e->e<=q+1/\(k+1<=q->e=0):=λ q e h=>by
 by_cases hq:k=q
 ·subst hq;rw[T8]at h;split at h
  ·split at h
   ·cases h;exact⟨by omega,λ h=>by omega⟩
   ·cases h
  ·omega
 ·rw[TG hq]at h;have:=hdp.1 q e h (Ne.symm hq);exact⟨this.1,λ h=>this.2 (by omega)⟩
def Pg{hd:List Int}{rl:List ByteArray}{k:Nat}(he:hd.length=rl.length)(hno:∀ (j:Nat) t,j<k->hd[j]? =some t->t= -1/\rl[j]? =some (ByteArray.mk #[]))(hk:hd.length<=k)(hb:∃ i:Nat,(∃ h,hd[i]? =some h/\h≠-1)\/∃ s,rl[i]? =some s/\s≠ByteArray.empty):False:=by
 obtain⟨i,⟨h,h1,h2⟩|⟨s,h1,h2⟩⟩:=hb
 ·have:=(IN.1 h1).1;exact h2 (hno i h (by omega) h1).1
 ·have hl:=(IN.1 h1).1;obtain⟨t,ht⟩:∃ t,hd[i]? =some t:=⟨_,py (by omega)⟩;have:=(hno i t (by omega) ht).2;rw[h1]at this;cases this;exact h2 Y
def L2(se:List Nat)(z:Int):∃ s,(0<=z/\z<(se.length:Int))->se[z.toNat]? =some s:=by
 by_cases h:z.toNat<se.length
 ·exact⟨se[z.toNat],λ _=>py h⟩
 ·exact⟨0,λ q=>absurd q (by omega)⟩
def NF{se:List Nat}{z:Int}{n k s:Nat}{rank:Nat->Nat}(_hz: -1<=z/\z<(n:Int))(hl:se.length=n)(hs:(0<=z/\z<(se.length:Int))->se[z.toNat]? =some s)(hsv:∀ (j:Nat) v,se[j]? =some v->v<=k+1/\(v=k+1->0<=z->rank z.toNat<rank j)):((z<0\/(n:Int)<=z)\/s≠k+1)\/False:=by
 rcases(by omega:z<0\/0<=z)with q|q
 ·exact .inl (.inl (.inl q))
 ·refine .inl (.inr λ e=>?_);have:=(hsv _ s (hs ⟨q,by omega⟩)).2 e q;omega
def L4{hd:List Int}{se:List Nat}{z x:Int}{k:Nat}{rank:Nat->Nat}(hsv:∀ (j:Nat) v,se[j]? =some v->v<=k+1/\(v=k+1->0<=z->rank z.toNat<rank j))(hrk:∀ (i:Nat) h,hd[i]? =some h->0<=h->rank h.toNat<rank i)(hx:hd[z.toNat]? =some x)(hz:0<=z):∀ (j:Nat) v,(se.set z.toNat (k+1))[j]? =some v->v<=k+1/\(v=k+1->0<=x->rank x.toNat<rank j):=λ j v h=>by
 rw[T8]at h;split at h
 ·rename_i e
  split at h
  ·cases h;refine⟨KD _,λ _ h0=>?_⟩;have:=hrk _ x hx h0;rw[e]at this;exact this
  ·cases h
 ·have h2:=hsv j v h;exact⟨h2.1,λ e h0=>by have:=h2.2 e hz;have:=hrk _ x hx h0;omega⟩
section
variable {α:Type}
def sw(l:List α)(i j:Nat):List α:=
 match l[i]?,l[j]? with
 |some x,some y=>(l.set i y).set j x
 |_,_=>l
def Ph{l:List α}{i j:Nat}{x y:α}(hi:l[i]? =some x)(hj:l[j]? =some y):sw l i j=(l.set i y).set j x:=by simp[sw,hi,hj]
@[simp] theorem OT(l:List α)(i j:Nat):(sw l i j).length=l.length:=by unfold sw;split<;>simp
def wX{P Q:List α}{x y:α}{i:Nat}(h:i=P.length):(P++x::Q).set i y=P++y::Q:=by subst h;simp
def get_at{P Q:List α}{x:α}{i:Nat}(h:i=P.length):(P++x::Q)[i]? =some x:=by subst h;simp
def NG(X:List α)(n:Nat)(h:n<X.length):∃ x X',X.drop n=x::X'/\X.drop (n+1)=X'/\X.take (n+1)=X.take n++[x]:=
 ⟨X[n],X.drop (n+1),(getElem_cons_drop h).symm,Y,(take_append_getElem h).symm⟩
def HH(l:List α)(a b:Nat):Nat->List α
 |0=>l
 |n+1=>sw (HH l a b n) (a+n) (b+n)
@[simp] theorem L6(l:List α)(a b n:Nat):(HH l a b n).length=l.length:=by induction n<;>simp_all [HH]
def QJ(l:List α)(a:Nat):Nat->List α
 |0=>l
 |n+1=>sw (QJ l a n) (a+n) (a+n+1)
@[simp] theorem NH(l:List α)(a n:Nat):(QJ l a n).length=l.length:=by induction n<;>simp_all [QJ]
def QK(l:List α)(m:Nat):Nat->List α
 |0=>l
 |n+1=>sw (QK l m n) (m-n) (m-n-1)
@[simp] theorem NI(l:List α)(a n:Nat):(QK l a n).length=l.length:=by induction n<;>simp_all [QK]
def Srt(key:α->Nat)(l:List α):Prop:=l.Pairwise λ a b=>key a<=key b
def Stb(key:α->Nat)(l m:List α):Prop:=∀ k,l.filter (λ x=>key x==k)=m.filter (λ x=>key x==k)
variable {key:α->Nat}
theorem Stb.refl(l:List α):Stb key l l:=λ _=>Y
theorem Stb.symm{l m:List α}(h:Stb key l m):Stb key m l:=λ k=>(h k).symm
def Stb.trans{l m n:List α}(h:Stb key l m)(g:Stb key m n):Stb key l n:=λ k=>(h k).trans (g k)
theorem Stb.append{l l' m m':List α}(h:Stb key l l')(g:Stb key m m'):Stb key (l++m) (l'++m'):=λ k=>by simp only[Te,h k,g k]
def Stb.comm{l m:List α}(h:∀ x∈l,∀ y∈m,key x≠key y):Stb key (l++m) (m++l):=λ k=>by
 simp only[Te];rcases hl:l.filter (λ x=>key x==k)with _|⟨x,r⟩
 ·simp
 ·have hx:x∈l.filter (λ x=>key x==k):=by rw[hl];simp
  rw[Tp]at hx;have:m.filter (λ x=>key x==k)=[]:=by
   rw[SR];intro y hy hk;exact h x hx.1 y hy (by have:=hx.2;simp at this hk;omega)
  simp[this]
def Stb.mem{l m:List α}(h:Stb key l m){x:α}:x∈l↔x∈m:=by
 have e:∀ q:List α,x∈q↔x∈q.filter (λ y=>key y==key x):=λ q=>by simp[Tp]
 rw[e l,e m,h (key x)]
theorem Stb.perm:∀ {l m:List α},Stb key l m->l.Perm m
 |[],m,h=>by
  cases m with
  |nil=>exact .refl _
  |cons y r=>exact absurd (h.mem.2 (SI)) (by simp)
 |x::l,m,h=>by
  obtain⟨p,q,rfl,hp⟩:∃ p q,m=p++x::q/\∀ y∈p,key y≠key x:=by
   have hx:=h (key x);rw[T3 (by simp)]at hx;have:∀ m:List α,∀ r,x::r=m.filter (λ y=>key y==key x)->∃ p q,m=p++x::q/\∀ y∈p,key y≠key x:=by
    intro m;induction m with
    |nil=>intro r h;simp at h
    |cons y m ih=>
     intro r hr;by_cases hy:key y=key x
     ·rw[T3 (by simp[hy])]at hr;exact⟨[],m,by simp[List.cons.inj hr|>.1],by simp⟩
     ·rw[TA (by simp[hy])]at hr;obtain⟨p,q,rfl,hp⟩:=ih r hr;exact⟨y::p,q,Y,λ z hz=>(Rx.1 hz).elim (λ e=>e▸hy) (hp z)⟩
   exact this m _ hx
  have h2:Stb key l (p++q):=λ k=>by
   have:=h k;simp only[Te,V3]at this⊢;by_cases hk:key x=k
   ·have hn:p.filter (λ y=>key y==k)=[]:=by
     rw[SR];intro y hy;simpa[<-hk]using hp y hy
    simp[hk,hn]at this⊢;exact this
   ·simp[hk]at this⊢;exact this
  exact(List.Perm.cons x h2.perm).trans VQ.symm
def Stb.length{l m:List α}(h:Stb key l m):l.length=m.length:=h.perm.length_eq
theorem Srt.append{l m:List α}:Srt key (l++m)↔Srt key l/\Srt key m/\∀ x∈l,∀ y∈m,key x<=key y:=by unfold Srt;rw[Tf]
theorem Srt.nil:Srt key ([]:List α):=List.Pairwise.nil
def Srt.one(x:α):Srt key [x]:=by simp[Srt]
def tY(key:α->Nat)(x:α):List α->List α
 |[]=>[x]
 |y::r=>if key x<=key y then x::y::r else y::tY key x r
def bD(key:α->Nat):List α->List α
 |[]=>[]
 |x::r=>tY key x (bD key r)
def sA(x:α):∀ l:List α,Stb key (x::l) (tY key x l)
 |[]=>Stb.refl _
 |y::r=>by
  rw[tY];split
  ·exact Stb.refl _
  ·have h1:Stb key (x::y::r) (y::x::r):=Stb.append (l:=[x,y]) (l':=[y,x]) (Stb.comm (l:=[x]) (m:=[y]) (by simp;omega)) (Stb.refl r);exact h1.trans (Stb.append (Stb.refl [y]) (sA x r))
def zh(x:α):∀ l:List α,Srt key l->Srt key (tY key x l)
 |[],_=>Srt.one x
 |y::r,h=>by
  have h1:=Sb.1 h;rw[tY];split
  ·rename_i hxy
   exact Sb.2 ⟨λ z hz=>(Rx.1 hz).elim (λ e=>e▸hxy) (λ hz=>RV hxy (h1.1 z hz)),h⟩
  ·refine Sb.2 ⟨λ z hz=>?_,zh x r h1.2⟩;rcases Rx.1 ((sA x r).mem.2 hz)with rfl|hz
   ·omega
   ·exact h1.1 z hz
def bg:∀ l:List α,Stb key l (bD key l)
 |[]=>Stb.refl _
 |x::r=>(Stb.append (Stb.refl [x]) (bg r)).trans (sA x _)
def bW:∀ l:List α,Srt key (bD key l)
 |[]=>Srt.nil
 |x::r=>zh x _ (bW r)
def Srt.unique:∀ {l m:List α},Srt key l->Srt key m->Stb key l m->l=m
 |[],m,_,_,h=>by
  have:=h.length;simp at this;exact(RM this.symm).symm
 |x::l,[],_,_,h=>by have:=h.length;simp at this
 |x::l,y::m,hl,hm,h=>by
  have h1:=Sb.1 hl;have h2:=Sb.1 hm;have hk:key x=key y:=by
   have a1:key x<=key y:=by
    rcases Rx.1 (h.mem.2 (SI:y∈y::m))with e|e
    ·rw[e];exact KD _
    ·exact h1.1 y e
   have a2:key y<=key x:=by
    rcases Rx.1 (h.mem.1 (SI:x∈x::l))with e|e
    ·rw[e];exact KD _
    ·exact h2.1 x e
   omega
  have hxy:x=y:=by
   have:=h (key x);rw[T3 (by simp),T3 (by simp[hk])]at this;exact(List.cons.inj this).1
  subst hxy;congr 1;refine Srt.unique h1.2 h2.2 λ k=>?_;have:=h k;simp only[V3]at this;split at this
  ·exact(List.cons.inj this).2
  ·exact this
def jc{l m:List α}(h:Srt key m)(g:Stb key l m):m=bD key l:=h.unique (bW l) (g.symm.trans (bg l))
@[simp] theorem jQ(l:List α):(bD key l).length=l.length:=(bg l).length.symm
def kl(key:α->Nat)(l:List α)(i j:Nat):Bool:=
 match l[i]?,l[j]? with
 |some x,some y=>decide (key x<key y)
 |_,_=>false
def mf(key:α->Nat)(a:Nat):Nat->List α->List α
 |0,l=>l
 |j+1,l=>if a<j+1/\kl key l (j+1) j=true then mf key a j (sw l (j+1) j)else l
def dU(key:α->Nat)(a:Nat)(l:List α):Nat->List α
 |0=>l
 |n+1=>mf key a (a+(n+1)) (dU key a l n)
def jd{a j:Nat}{l:List α}{x y:α}(h:¬ (a<j/\key x<key y))(hx:l[j]? =some x)(hy:l[j-1]? =some y):mf key a j l=l:=by
 cases j with
 |zero=>rfl
 |succ j=>
  rw[mf];rw[Sx]at hy;have:kl key l (j+1) j=decide (key x<key y):=by unfold kl;rw[hx,hy]
  rw[this,M2];simpa using h
def wY{a j:Nat}{l:List α}{x y:α}(h:a<j/\key x<key y)(hx:l[j]? =some x)(hy:l[j-1]? =some y):mf key a j l=mf key a (j-1) ((l.set j y).set (j-1) x):=by
 cases j with
 |zero=>omega
 |succ j=>
  rw[mf];rw[Sx]at hy⊢;have:kl key l (j+1) j=decide (key x<key y):=by unfold kl;rw[hx,hy]
  rw[this,No (by simpa using h),Ph hx hy]
@[simp] theorem qc(a:Nat):∀ (j:Nat) (l:List α),(mf key a j l).length=l.length
 |0,l=>rfl
 |j+1,l=>by rw[mf];split<;>simp[qc a j]
@[simp] theorem kV(a:Nat)(l:List α):∀ n,(dU key a l n).length=l.length
 |0=>rfl
 |n+1=>by rw[dU,qc,kV a l n]
def CI(A:List α)(x:α){a:Nat}(ha:a=A.length):∀ (n:Nat) (S B:List α),S.length=n->∀ j,j=a+n->Srt key S->
  ∃ S',mf key a j (A++S++x::B)=A++S'++B/\Srt key S'/\Stb key (S++[x]) S'
 |0,S,B,hn,j,hj,_=>by
  have:S=[]:=RM hn;subst this;refine⟨[x],?_,Srt.one x,Stb.refl _⟩;have h0:mf key a j (A++[]++x::B)=A++[]++x::B:=by
   cases j with
   |zero=>rfl
   |succ j=>rw[mf,M2 (by omega)]
  rw[h0];simp
 |n+1,S,B,hn,j,hj,hS=>by
  obtain⟨S0,y,rfl⟩:∃ S0 y,S=S0++[y]:=⟨S.dropLast,S.getLast (by intro h;rw[h]at hn;simp at hn),(dropLast_concat_getLast _).symm⟩;simp at hn;have hS2:=Srt.append.1 hS;have ex:(A++(S0++[y])++x::B)[j]? =some x:=get_at (P:=A++(S0++[y])) (by simp;omega);have ey:(A++(S0++[y])++x::B)[j-1]? =some y:=by
   rw[show A++(S0++[y])++x::B=(A++S0)++y::(x::B) by simp];exact get_at (by simp;omega)
  by_cases hc:key x<key y
  ·have hsw:((A++(S0++[y])++x::B).set j y).set (j-1) x=A++S0++x::(y::B):=by
    rw[wX (P:=A++(S0++[y])) (by simp;omega),show A++(S0++[y])++y::B=(A++S0)++y::(y::B) by simp,wX (by simp;omega)]
   obtain⟨S',h1,h2,h3⟩:=CI A x ha n S0 (y::B) hn (j-1) (by omega) hS2.1;refine⟨S'++[y],?_,?_,?_⟩
   ·rw[wY ⟨by omega,hc⟩ ex ey,hsw,h1];simp
   ·refine Srt.append.2 ⟨h2,Srt.one y,λ z hz q hq=>?_⟩;simp at hq;subst hq;rcases RE.1 (h3.mem.2 hz)with hz|hz
    ·exact hS2.2.2 z hz q (by simp)
    ·simp at hz;subst hz;omega
   ·have e1:Stb key (S0++[y]++[x]) (S0++[x]++[y]):=by
     rw[KV,KV];exact(Stb.refl S0).append (Stb.comm (by simp;omega))
    exact e1.trans (h3.append (Stb.refl [y]))
  ·refine⟨S0++[y]++[x],?_,?_,Stb.refl _⟩
   ·rw[jd (by omega) ex ey];simp
   ·refine Srt.append.2 ⟨hS,Srt.one x,λ z hz q hq=>?_⟩;simp at hq;subst hq;rcases RE.1 hz with hz|hz
    ·exact RV (hS2.2.2 z hz y (by simp)) (by omega)
    ·simp at hz;subst hz;omega
def CJ(A S B:List α){a:Nat}(ha:a=A.length):∀ n,n+1<=S.length->∃ S',dU key a (A++S++B) n=A++S'++(S.drop (n+1)++B)/\Srt key S'/\Stb key (S.take (n+1)) S'
 |0,h=>by
  cases S with
  |nil=>simp at h
  |cons x S=>exact⟨[x],by simp[dU],Srt.one x,Stb.refl _⟩
 |n+1,h=>by
  obtain⟨S',h1,h2,h3⟩:=CJ A S B ha n (by omega);obtain⟨y,L',hX,hX1,hX2⟩:=NG S (n+1) (by omega);have hl:S'.length=n+1:=by rw[<-h3.length];simp;omega
  obtain⟨S2,g1,g2,g3⟩:=CI (key:=key) A y ha (n+1) S' (L'++B) hl (a+(n+1)) Y h2;refine⟨S2,?_,g2,?_⟩
  ·rw[dU,h1,hX,hX1,TE,g1]
  ·rw[hX2];exact(h3.append (Stb.refl _)).trans g3
def HI(A S B:List α){a n:Nat}(ha:a=A.length)(hn:n=S.length-1):∃ S',dU key a (A++S++B) n=A++S'++B/\Srt key S'/\Stb key S S':=by
 rcases SJ S.length with h0|hp
 ·have:S=[]:=RM h0;subst this;simp at hn;subst hn;exact⟨[],Y,Srt.nil,Stb.refl _⟩
 ·obtain⟨S',h1,h2,h3⟩:=CJ (key:=key) A S B ha n (by omega);rw[show n+1=S.length by omega,SF (KD _),Tj]at h1;rw[show n+1=S.length by omega,Ru (KD _)]at h3;exact⟨S',h1,h2,h3⟩
end
section
variable {α:Type} {key:α->Nat}
def Srt.take{l:List α}(h:Srt key l)(q:Nat):Srt key (l.take q):=V8 (VJ q l) h
theorem Srt.left{l m:List α}(h:Srt key (l++m)):Srt key l:=(Srt.append.1 h).1
end
theorem all_take{α:Type}{P:α->Prop}{l:List α}{k:Nat}{x:α}(h:∀ z∈l.take k,P z)(hx:l[k]? =some x)(hp:P x):∀ z∈l.take (k+1),P z:=λ z hz=>by
 have hk:=(IN.1 hx);rw[<-take_append_getElem hk.1,RE]at hz;rcases hz with hz|hz
 ·exact h z hz
 ·simp at hz;rw[hz,hk.2];exact hp
def kr(x:Nat):Nat:=if 0<x then 2^(15-x)else 0
def iW:List Nat->Nat
 |[]=>0
 |x::r=>kr x+iW r
def fR:∀ (l m:List Nat),iW (l++m)=iW l+iW m
 |[],m=>by simp[iW]
 |x::l,m=>by simp[iW,fR l m];omega
def dM(l:List Nat):Bool:=l.all (λ x=>decide (x<=15))&&decide (iW l<=2^15)
def sB{l:List Nat}{x:Nat}(h:x∈l)(hx:15<x):dM l=false:=by
 have:l.all (λ x=>decide (x<=15))=false:=by
  rw[all_eq_false];exact⟨x,h,by simp;omega⟩
 simp[dM,this]
def vq{l:List Nat}(h:∀ x∈l,x<=15):dM l=decide (iW l<=2^15):=by
 have:l.all (λ x=>decide (x<=15))=true:=by
  rw[Sy];intro x hx;simpa using h x hx
 simp[dM,this]
structure It where
 w:Nat
 sym:Int
 lf:Nat
 rt:Nat
def aO:Nat->List Nat->List It
 |_,[]=>[]
 |i,n::r=>if 0<n then⟨n,i,0,0⟩::aO (i+1) r else aO (i+1) r
def fS:∀ (l:List Nat) (i x:Nat),aO i (l++[x])=aO i l++(if 0<x then[⟨x,((i+l.length:Nat):Int),0,0⟩]else[])
 |[],i,x=>by simp[aO]
 |n::r,i,x=>by
  have:=fS r (i+1) x;rw[show i+1+r.length=i+(n::r).length by simp;omega]at this;rw[TE,aO,aO,this];split<;>simp
def eC:∀ (l:List Nat) (i:Nat),(aO i l).length<=l.length
 |[],i=>by simp[aO]
 |n::r,i=>by
  have:=eC r (i+1);rw[aO];split<;>simp<;>omega
def jS:∀ (l:List Nat) (i:Nat),∀ x∈aO i l,x.w∈l/\∃ j,x.sym=((i+j:Nat):Int)/\l[j]? =some x.w
 |[],i=>by simp[aO]
 |n::r,i=>λ x hx=>by
  have ih:∀ x∈aO (i+1) r,x.w∈n::r/\∃ j,x.sym=((i+j:Nat):Int)/\(n::r)[j]? =some x.w:=λ x hx=>by
   obtain⟨h1,j,h2,h3⟩:=jS r (i+1) x hx;exact⟨Sl _ h1,j+1,by rw[h2];congr 1;omega,by simpa using h3⟩
  rw[aO]at hx;split at hx
  ·rcases Rx.1 hx with rfl|hx
   ·exact⟨by simp,0,by simp,by simp⟩
   ·exact ih x hx
  ·exact ih x hx
def leaves(c:List Nat):List It:=bD It.w (aO 0 c)
def bz:Nat->List Nat->List Nat
 |_,[]=>[]
 |i,n::r=>if 0<n then i::bz (i+1) r else bz (i+1) r
def kW:∀ (l:List Nat) (i x:Nat),bz i (l++[x])=bz i l++(if 0<x then[i+l.length]else[])
 |[],i,x=>by simp[bz]
 |n::r,i,x=>by
  have:=kW r (i+1) x;rw[show i+1+r.length=i+(n::r).length by simp;omega]at this;rw[TE,bz,bz,this];split<;>simp
def fI:∀ (l:List Nat) (i:Nat),(bz i l).length<=l.length
 |[],i=>by simp[bz]
 |n::r,i=>by
  have:=fI r (i+1);rw[bz];split<;>simp<;>omega
def jU:∀ (l:List Nat) (i:Nat),∀ x∈bz i l,i<=x/\x<i+l.length/\0<l.getD (x-i) 0
 |[],i=>by simp[bz]
 |n::r,i=>λ x hx=>by
  have ih:∀ x∈bz (i+1) r,i<=x/\x<i+(n::r).length/\0<(n::r).getD (x-i) 0:=λ x hx=>by
   obtain⟨h1,h2,h3⟩:=jU r (i+1) x hx;refine⟨by omega,by simp;omega,?_⟩;rw[show x-i=(x-(i+1))+1 by omega];simpa using h3
  rw[bz]at hx;split at hx
  ·rename_i hn
   rcases Rx.1 hx with rfl|hx
   ·exact⟨KD _,by simp,by simpa using hn⟩
   ·exact ih x hx
  ·exact ih x hx
def ak(l:List Nat)(i:Nat):Nat:=l.getD i 0
def b8(l:List Nat):List Nat:=bD (ak l) (bz 0 l)
theorem Srt.get{α:Type}{key:α->Nat}{l:List α}(h:Srt key l){i j:Nat}{x y:α}(hij:i<j)(hx:l[i]? =some x)(hy:l[j]? =some y):key x<=key y:=by
 obtain⟨h1,rfl⟩:=IN.1 hx;obtain⟨h2,rfl⟩:=IN.1 hy;exact SQ.1 h i j h1 h2 hij
def gi(l:List Nat)(s:Nat×Nat×Nat×List Nat)(i:Nat):Nat×Nat×Nat×List Nat:=
 let c:=if 0<s.1 then(s.2.1+1)%2^64*2^(ak l i-s.2.2.1)%2^64 else s.2.1
 (s.1+1,c,ak l i,s.2.2.2.set i c)
def eI(l:List Nat)(ord:List Nat):Nat×Nat×Nat×List Nat:=ord.foldl (gi l) (0,0,0,List.replicate l.length 0)
def ef(l ord:List Nat)(i:Nat):eI l (ord++[i])=gi l (eI l ord) i:=by simp[eI]
def cN(l:List Nat):List Nat:=(eI l (b8 l)).2.2.2
def qd(l:List Nat):∀ ord,(eI l ord).2.2.2.length=l.length:=λ ord=>by
 have:∀ (ord:List Nat) s,(ord.foldl (gi l) s).2.2.2.length=s.2.2.2.length:=by
  intro ord;induction ord with
  |nil=>intro s;rfl
  |cons i r ih=>intro s;rw[TQ,ih];simp[gi]
 rw[eI,this];simp
def iX(l:List Nat):(cN l).length=l.length:=qd l _
def je(l:List Nat):∀ x∈b8 l,x<l.length/\0<ak l x:=λ x hx=>by
 have:=jU l 0 x ((bg _).mem.2 hx);exact⟨by omega,by have:=this.2.2;simpa[ak]using this⟩
def gz(l:List Nat):(b8 l).length<=l.length:=by
 have:=fI l 0;rw[b8,jQ];exact this
def br:Nat->List It->List It
 |i,x::y::r=>⟨x.w+y.w,-1,i,i+1⟩::br (i+2) r
 |_,_=>[]
def sC:∀ (q i:Nat) (b:List It) (x y:It),b[2*q]? =some x->b[2*q+1]? =some y->
  br i (b.take (2*(q+1)))=br i (b.take (2*q))++[⟨x.w+y.w,-1,i+2*q,i+2*q+1⟩]
 |0,i,b,x,y,hx,hy=>by
  match b with
  |[]=>simp at hx
  |[_]=>simp at hy
  |u::v::r=>
   simp at hx hy;subst hx;subst hy;simp[br]
 |q+1,i,b,x,y,hx,hy=>by
  match b with
  |[]=>simp at hx
  |[_]=>simp at hy
  |u::v::r=>
   have e1:2*(q+1)=2*q+1+1:=by omega
   have e2:2*(q+1+1)=2*(q+1)+1+1:=by omega
   rw[e1]at hx hy;have hx':r[2*q]? =some x:=by simpa using hx
   have hy':r[2*q+1]? =some y:=by simpa using hy
   have ih:=sC q (i+2) r x y hx' hy';rw[e2,e1,T5,T5,T5,T5,br,br,TE];rw[show 2*q+1+1=2*(q+1) by omega,ih];simp;omega
def vu:∀ (q i:Nat) (b:List It),b.length<=2*q+1->br i (b.take (2*q))=br i b
 |0,i,b,h=>by
  match b with
  |[]=>rfl
  |[x]=>rfl
  |_::_::_=>simp at h
 |q+1,i,b,h=>by
  match b with
  |[]=>rfl
  |[x]=>rfl
  |u::v::r=>
   have e1:2*(q+1)=2*q+1+1:=by omega
   rw[e1,T5,T5,br,br,vu q (i+2) r (by simp at h;omega)]
def eW:∀ (i:Nat) (b:List It),(br i b).length=b.length/2
 |i,[]=>by simp[br]
 |i,[x]=>by simp[br]
 |i,x::y::r=>by rw[br,LW,eW (i+2) r,LW,LW];omega
def pf:∀ (i:Nat) (b:List It) (W:Nat),(∀ x∈b,x.w<=W)->∀ x∈br i b,x.w<=2*W/\x.sym= -1
 |i,[],W,_=>by simp[br]
 |i,[x],W,_=>by simp[br]
 |i,x::y::r,W,h=>λ z hz=>by
  rw[br]at hz;rcases Rx.1 hz with rfl|hz
  ·have h1:=h x (by simp);have h2:=h y (by simp);exact⟨by show x.w+y.w<=2*W;omega,Y⟩
  ·exact pf (i+2) r W (λ q hq=>h q (by simp[hq])) z hz
def jf:∀ (i:Nat) (b:List It),∀ x∈br i b,x.sym= -1
 |i,[]=>by simp[br]
 |i,[x]=>by simp[br]
 |i,x::y::r=>λ z hz=>by
  rw[br]at hz;rcases Rx.1 hz with rfl|hz
  ·rfl
  ·exact jf (i+2) r z hz
def jg(l b:List It):List It:=bD It.w (l++br 0 b)
def nQ(l b:List It):(jg l b).length=l.length+b.length/2:=by simp[jg,eW]
def lvl(c:List Nat):Nat->List It
 |0=>leaves c
 |k+1=>jg (leaves c) (lvl c k)
def zj(c:List Nat)(k:Nat):List (List It):=(List.range k).map (lvl c)
def EZ(c:List Nat)(k:Nat):zj c (k+1)=zj c k++[lvl c k]:=by simp[zj,To]
def zk(c:List Nat){i k:Nat}(h:i<k):(zj c k)[i]? =some (lvl c i):=by simp[zj,h]
def dK(c:List Nat):(leaves c).length<=c.length:=by rw[leaves,jQ];exact eC c 0
def cv(c:List Nat):∀ x∈leaves c,x.w∈c/\∃ j:Nat,x.sym=(j:Int)/\c[j]? =some x.w:=λ x hx=>by
 have:=jS c 0 x ((bg _).mem.2 hx);simpa using this
def ia(c:List Nat):∀ k,(leaves c).length<=(lvl c k).length/\(lvl c k).length<=2*(leaves c).length
 |0=>by simp[lvl];omega
 |k+1=>by
  have:=ia c k;rw[lvl,nQ];omega
def zl(c:List Nat)(h1:1<=(leaves c).length):∀ k,2*(leaves c).length<=(lvl c k).length+1+((leaves c).length-1)/2^k
 |0=>by simp[lvl];omega
 |k+1=>by
  have ih:=zl c h1 k;rw[lvl,nQ];have e:((leaves c).length-1)/2^(k+1)=((leaves c).length-1)/2^k/2:=by rw[T0,Nat.div_div_eq_div_mul]
  rw[e];omega
def Mm(c:List Nat)(W:Nat)(h:∀ x∈c,x<=W):∀ k,∀ x∈lvl c k,x.w<=W*2^k
 |0=>λ x hx=>by have:=h _ (cv c x hx).1;simpa using this
 |k+1=>λ x hx=>by
  have ih:=Mm c W h k;rw[lvl]at hx;have hp:W*2^(k+1)=2*(W*2^k):=by rw[T0,<-Ty,Um]
  have h1:W<=W*2^k:=TU _ (SH k);rcases RE.1 ((bg _).mem.2 hx)with hx|hx
  ·have:=h _ (cv c x hx).1;omega
  ·have:=(pf 0 _ _ ih x hx).1;omega
def L7(c:List Nat):∀ k,∀ x∈lvl c k,x.sym= -1\/∃ j,x.sym=((j:Nat):Int)/\j<c.length
 |0=>λ x hx=>by
  obtain⟨_,j,h1,h2⟩:=cv c x hx;exact .inr ⟨j,h1,(IN.1 h2).1⟩
 |k+1=>λ x hx=>by
  rw[lvl]at hx;rcases RE.1 ((bg _).mem.2 hx)with hx|hx
  ·obtain⟨_,j,h1,h2⟩:=cv c x hx;exact .inr ⟨j,h1,(IN.1 h2).1⟩
  ·exact .inl (jf 0 _ x hx)
def bump(ls:List Nat)(x:It):List Nat:=if 0<=x.sym then ls.set x.sym.toNat (ls.getD x.sym.toNat 0+1)else ls
def bX(ls:List Nat)(xs:List It):List Nat:=xs.foldl bump ls
def jV(ls:List Nat)(xs:List It)(x:It):bX ls (xs++[x])=bump (bX ls xs) x:=by simp[bX]
def kX(ls:List Nat)(x:It):(bump ls x).length=ls.length:=by unfold bump;split<;>simp
def cc(xs:List It):∀ ls,(bX ls xs).length=ls.length:=by
 induction xs with
 |nil=>intro ls;rfl
 |cons x r ih=>intro ls;rw[bX,TQ];exact(ih _).trans (kX ls x)
def jh(xs:List It):Nat:=xs.countP λ x=>decide (x.sym<0)
def zm(xs:List It)(x:It):jh (xs++[x])=jh xs+if x.sym<0 then 1 else 0:=by
 simp[jh,V6,VO]
def Bw(xs:List It)(t:Nat):jh (xs.take t)<=jh xs:=(VJ t xs).countP_le
def mG(c:List Nat):∀ x∈leaves c,0<=x.sym:=λ x hx=>by
 obtain⟨_,j,h,_⟩:=cv c x hx;omega
def mH(c:List Nat):jh (leaves c)=0:=by
 rw[jh,UT];intro x hx;have:=mG c x hx;simp;omega
def HJ(c:List Nat)(b:List It):jh (jg (leaves c) b)=b.length/2:=by
 have hp:jh (jg (leaves c) b)=jh (leaves c++br 0 b):=((bg (key:=It.w) (leaves c++br 0 b)).perm.countP_eq _).symm;have h0:=mH c;have h1:jh (br 0 b)=(br 0 b).length:=by
  rw[jh,countP_eq_length];intro x hx;have:=jf 0 b x hx;simp;omega
 rw[hp];simp only[jh]at h0 h1⊢;rw[V6,h0,h1,eW];omega
def down(c:List Nat):Nat->Nat->List Nat->List Nat
 |0,_,ls=>ls
 |k+1,t,ls=>down c k (2*jh ((lvl c k).take t)) (bX ls ((lvl c k).take t))
def cd(c:List Nat):List Nat:=
 if(leaves c).length<2 then(leaves c).foldl (λ ls x=>ls.set x.sym.toNat 1) (List.replicate c.length 0)else down c 15 (2*(leaves c).length-2) (List.replicate c.length 0)
def ph(c:List Nat)(k t:Nat):2*jh ((lvl c (k+1)).take t)<=(lvl c k).length:=by
 have h1:=Bw (lvl c (k+1)) t;have h2:jh (lvl c (k+1))=(lvl c k).length/2:=HJ c _;omega
def sD(c:List Nat)(h1:1<=(leaves c).length)(hn:(leaves c).length<=1024):2*(leaves c).length-2<=(lvl c 14).length:=by
 have:=zl c h1 14;rw[UY (by omega:(leaves c).length-1<2^14)]at this;omega
def CK{ls:List Nat}{B:Nat}(h:∀ x∈ls,x<=B)(y:It):∀ x∈bump ls y,x<=B+1:=λ x hx=>by
 unfold bump at hx;split at hx
 ·rcases Tc hx with hx|rfl
  ·have:=h x hx;omega
  ·rw[KP];cases hg:ls[y.sym.toNat]? with
   |none=>simp
   |some v=>have:=h v (Rv hg);simp;exact this
 ·have:=h x hx;omega
def qe(c:List Nat):∀ k t ls,(down c k t ls).length=ls.length
 |0,t,ls=>rfl
 |k+1,t,ls=>by rw[down,qe c k,cc]
def jW(c:List Nat):(cd c).length=c.length:=by
 unfold cd;split
 ·have:∀ (xs:List It) (ls:List Nat),(xs.foldl (λ ls x=>ls.set x.sym.toNat 1) ls).length=ls.length:=by
   intro xs;induction xs with
   |nil=>intro ls;rfl
   |cons x r ih=>intro ls;rw[TQ,ih];simp
  rw[this];simp
 ·rw[qe];simp
section
variable {α:Type} {key:α->Nat}
def Srt.filter{l:List α}(h:Srt key l)(p:α->Bool):Srt key (l.filter p):=V8 filter_sublist h
def gA(l:List α)(p:α->Bool):(bD key l).filter p=bD key (l.filter p):=
 jc ((bW l).filter p) λ k=>by
  have h:=bg (key:=key) l k;have h1:(l.filter p).filter (λ x=>key x==k)=(l.filter λ x=>key x==k).filter p:=by simp only[filter_filter,Bool.and_comm]
  have h2:((bD key l).filter p).filter (λ x=>key x==k)=((bD key l).filter λ x=>key x==k).filter p:=by simp only[filter_filter,Bool.and_comm]
  rw[h1,h2,h]
def ji{l:List α}(h:Srt key l):bD key l=l:=(jc h (Stb.refl l)).symm
def Srt.take_drop{l:List α}(h:Srt key l)(t:Nat):∀ x∈l.take t,∀ y∈l.drop t,key x<=key y:=by
 rw[<-RY t l,Srt.append]at h;exact h.2.2
def fy(l:List α)(p:α->Bool)(t:Nat):l.countP p=(l.take t).countP p+(l.drop t).countP p:=by
 conv=>lhs;rw[<-RY t l]
 rw[V6]
def cO(p:α->Bool):∀ (l:List α) (t:Nat),(l.take t).filter p=(l.filter p).take ((l.take t).countP p)
 |[],t=>by simp
 |x::r,0=>by simp
 |x::r,t+1=>by
  rw[T5];cases hp:p x with
  |true=>rw[T3 hp,T3 hp,VB hp,T5,cO p r t]
  |false=>rw[TA (by simp[hp]),TA (by simp[hp]),VC (by simp[hp]),cO p r t]
end
def eY(x:It):Bool:=decide (0<=x.sym)
def nR(x:It):Bool:=decide (x.sym<0)
def qf(xs:List It):Nat:=xs.countP eY
def CL(xs:List It):qf xs+jh xs=xs.length:=by
 induction xs with
 |nil=>rfl
 |cons x r ih=>
  simp only[qf,jh,eY,VO,LW]at ih⊢;by_cases h:0<=x.sym
  ·simp[h,show¬ x.sym<0 by omega];omega
  ·simp[h,show x.sym<0 by omega];omega
def nS(i:Nat)(b:List It):(br i b).filter nR=br i b/\(br i b).filter eY=[]:=by
 refine⟨Tt.2 λ x hx=>?_,SR.2 λ x hx=>?_⟩<;>(have:=jf i b x hx;simp[nR,eY,this])
def iY(c:List Nat):(leaves c).filter eY=leaves c/\(leaves c).filter nR=[]:=by
 refine⟨Tt.2 λ x hx=>?_,SR.2 λ x hx=>?_⟩<;>(have:=mG c x hx;simp[nR,eY];omega)
def jj:∀ (q i:Nat) (b:List It) (z:It),(br i b)[q]? =some z->∃ x y,b[2*q]? =some x/\b[2*q+1]? =some y/\z.w=x.w+y.w
 |_,_,[],z,h=>by simp[br]at h
 |_,_,[x],z,h=>by simp[br]at h
 |0,i,x::y::r,z,h=>by simp[br]at h;subst h;exact⟨x,y,Y,Y,Y⟩
 |q+1,i,x::y::r,z,h=>by
  rw[br]at h;obtain⟨u,v,h1,h2,h3⟩:=jj q (i+2) r z (by simpa using h);refine⟨u,v,?_,?_,h3⟩
  ·rw[show 2*(q+1)=2*q+1+1 by omega];simpa using h1
  ·rw[show 2*(q+1)+1=2*q+1+1+1 by omega];simpa using h2
def pj(i:Nat)(b:List It)(h:Srt It.w b):Srt It.w (br i b):=by
 refine SQ.2 λ p q hp hq hpq=>?_;obtain⟨x,y,h1,h2,h3⟩:=jj p i b _ (py hp);obtain⟨u,v,g1,g2,g3⟩:=jj q i b _ (py hq);rw[h3,g3];have a1:x.w<=u.w:=h.get (by omega) h1 g1;have a2:y.w<=v.w:=h.get (by omega) h2 g2;omega
def jX(c:List Nat):∀ k,Srt It.w (lvl c k)
 |0=>bW _
 |_+1=>bW _
def ib(c:List Nat):∀ k,(lvl c k).filter eY=leaves c
 |0=>(iY c).1
 |k+1=>by
  rw[lvl,jg,gA,Te,(iY c).1,(nS 0 _).2,SO];exact ji (bW _)
def HK(c:List Nat)(k:Nat):(lvl c (k+1)).filter nR=br 0 (lvl c k):=by
 rw[lvl,jg,gA,Te,(iY c).2,(nS 0 _).1,Tj];exact ji (pj 0 _ (jX c k))
def gB(c:List Nat)(k t:Nat):((lvl c k).take t).filter eY=(leaves c).take (qf ((lvl c k).take t)):=by
 rw[cO,ib];rfl
def Bx(c:List Nat)(k t:Nat):((lvl c (k+1)).take t).filter nR=(br 0 (lvl c k)).take (jh ((lvl c (k+1)).take t)):=by
 rw[cO,HK];rfl
def zn(c:List Nat)(k t p:Nat)(hp:jh ((lvl c (k+1)).take t)=p+1):∃ z x y,z∈(lvl c (k+1)).take t/\(lvl c k)[2*p]? =some x/\(lvl c k)[2*p+1]? =some y/\z.w=x.w+y.w:=by
 have h:=Bx c k t;rw[hp]at h;have hl:(((lvl c (k+1)).take t).filter nR).length=p+1:=by rw[<-countP_eq_length_filter];exact hp
 obtain⟨z,hz⟩:∃ z,(((lvl c (k+1)).take t).filter nR)[p]? =some z:=⟨_,py (by omega)⟩;have hz2:=hz;rw[h,UL (by omega)]at hz2;obtain⟨x,y,h1,h2,h3⟩:=jj p 0 _ z hz2;exact⟨z,x,y,(Tp.1 (Rv hz)).1,h1,h2,h3⟩
def lP(c:List Nat):∀ k,∀ x∈lvl c k,0<x.w
 |0=>λ x hx=>by
  have hm:x∈aO 0 c:=(bg _).mem.2 hx;have:∀ (l:List Nat) (i:Nat),∀ x∈aO i l,0<x.w:=by
   intro l;induction l with
   |nil=>intro i x hx;simp[aO]at hx
   |cons n r ih=>
    intro i x hx;rw[aO]at hx;split at hx
    ·rcases Rx.1 hx with rfl|hx
     ·assumption
     ·exact ih _ x hx
    ·exact ih _ x hx
  exact this _ _ x hm
 |k+1=>λ x hx=>by
  rcases RE.1 ((bg _).mem.2 hx)with hx|hx
  ·exact lP c 0 x hx
  ·obtain⟨q,hq⟩:=U1.1 hx;obtain⟨u,v,h1,_,h3⟩:=jj q 0 _ x hq;have:=lP c k u (Rv h1);omega
def HL(c:List Nat)(k t:Nat):qf ((lvl c k).take (2*jh ((lvl c (k+1)).take t)))<=qf ((lvl c (k+1)).take t):=by
 cases hp:jh ((lvl c (k+1)).take t)with
 |zero=>simp[qf]
 |succ p=>
  obtain⟨z,x,y,hz,hx,hy,hw⟩:=zn c k t p hp;have hx0:=lP c k x (Rv hx);let q:It->Bool:=λ u=>eY u&&decide (u.w<z.w);have h1:qf ((lvl c k).take (2*(p+1)))<=((lvl c k).take (2*(p+1))).countP q:=by
   refine countP_mono_left λ u hu hl=>?_;obtain⟨i,hi⟩:=U1.1 hu;rw[SG]at hi;split at hi
   ·have:u.w<=y.w:=by
     rcases RG i (2*p+1)with h|h
     ·exact(jX c k).get h hi hy
     ·have:i=2*p+1:=by omega
      subst this;rw[hi]at hy;cases hy;exact KD _
    have:u.w<z.w:=by omega
    simp[q,hl,this]
   ·cases hi
  have h2:((lvl c k).take (2*(p+1))).countP q<=(lvl c k).countP q:=(VJ _ _).countP_le;have h3:∀ k,(lvl c k).countP q=(leaves c).countP λ u=>decide (u.w<z.w):=λ k=>by
   rw[<-ib c k,countP_filter];exact countP_congr λ u _=>by simp[q,and_comm]
  have h4:(lvl c (k+1)).countP q=((lvl c (k+1)).take t).countP q:=by
   rw[fy _ _ t];have:((lvl c (k+1)).drop t).countP q=0:=by
    rw[UT];intro u hu;have:=(jX c (k+1)).take_drop t z hz u hu;simp[q];intro _;omega
   omega
  have h5:((lvl c (k+1)).take t).countP q<=qf ((lvl c (k+1)).take t):=countP_mono_left λ u _ hu=>by simp[q]at hu;exact hu.1
  have:=h3 k;have:=h3 (k+1);omega
def mI(c:List Nat)(k:Nat):qf (lvl c k)=(leaves c).length:=by
 rw[qf,countP_eq_length_filter,ib]
def CM(c:List Nat)(hn:2<=(leaves c).length):∀ k,qf ((lvl c k).drop (2*(leaves c).length-2))=0
 |0=>by
  rw[SF (by simp[lvl];omega)];rfl
 |k+1=>by
  rw[qf,UT];intro x hx hl;have hcnt:=mI c (k+1);have hsum:=fy (lvl c (k+1)) eY (2*(leaves c).length-2);have hpos:0<((lvl c (k+1)).drop (2*(leaves c).length-2)).countP eY:=countP_pos_iff.2 ⟨x,hx,hl⟩;have hlen:((lvl c (k+1)).take (2*(leaves c).length-2)).length=2*(leaves c).length-2:=by
   rw[KW];have:0<((lvl c (k+1)).drop (2*(leaves c).length-2)).length:=length_pos_of_mem hx;rw[Ry]at this;omega
  have hnp:=CL ((lvl c (k+1)).take (2*(leaves c).length-2));have hge:(leaves c).length-1<=jh ((lvl c (k+1)).take (2*(leaves c).length-2)):=by
   simp only[qf]at hcnt hnp;omega
  obtain⟨p,hp⟩:∃ p,jh ((lvl c (k+1)).take (2*(leaves c).length-2))=p+1:=⟨_-1,(Nat.sub_add_cancel (by omega)).symm⟩;obtain⟨z,u,y,hz,hu,hy,hw⟩:=zn c k _ p hp;have hzx:=(jX c (k+1)).take_drop _ z hz x hx;have hu0:=lP c k u (Rv hu);have hxl:x∈leaves c:=by rw[<-ib c (k+1)];exact Tp.2 ⟨Sv hx,hl⟩
  have hxk:x∈lvl c k:=by rw[<-ib c k]at hxl;exact(Tp.1 hxl).1
  have ih:=CM c hn k;rw[qf,UT]at ih;rw[<-RY (2*(leaves c).length-2) (lvl c k),RE]at hxk;rcases hxk with hxk|hxk
  ·obtain⟨i,hi⟩:=U1.1 hxk;rw[SG]at hi;split at hi
   ·have:x.w<=y.w:=by
     rcases RG i (2*p+1)with h|h
     ·exact(jX c k).get h hi hy
     ·have:i=2*p+1:=by omega
      subst this;rw[hi]at hy;cases hy;exact KD _
    omega
   ·cases hi
  ·exact ih x hxk hl
def HM(c:List Nat)(hn:2<=(leaves c).length)(k:Nat):qf ((lvl c k).take (2*(leaves c).length-2))=(leaves c).length:=by
 have h1:=CM c hn k;have h2:=mI c k;have h3:=fy (lvl c k) eY (2*(leaves c).length-2);simp only[qf]at h1 h2⊢;omega
def dP(l:List It)(ls:List Nat):Nat:=(l.map λ x=>2^(15-ls.getD x.sym.toNat 0)).sum
def gD(ls:List Nat)(xs:List It):bX ls xs=bX ls (xs.filter eY):=by
 unfold bX;induction xs generalizing ls with
 |nil=>rfl
 |cons x r ih=>
  by_cases h:0<=x.sym
  ·rw[T3 (by simp[eY,h]),TQ,TQ,ih]
  ·rw[TA (by simp[eY,h]),TQ,show bump ls x=ls by simp[bump,h],ih]
def eP{ls:List Nat}{i v:Nat}(h:i<ls.length):(ls.set i v).getD i 0=v:=by simp[KP,h]
def dE{ls:List Nat}{i j v:Nat}(h:i≠j):(ls.set i v).getD j 0=ls.getD j 0:=by simp[KP,TG h]
def Ok(n:Nat)(l:List It):Prop:=(∀ x∈l,0<=x.sym/\x.sym.toNat<n)/\l.Pairwise λ x y=>x.sym.toNat≠y.sym.toNat
theorem Ok.left{n:Nat}{l m:List It}(h:Ok n (l++m)):Ok n l:=⟨λ x hx=>h.1 x (Td _ hx),(Tf.1 h.2).1⟩
theorem Ok.right{n:Nat}{l m:List It}(h:Ok n (l++m)):Ok n m:=⟨λ x hx=>h.1 x (Sn _ hx),(Tf.1 h.2).2.1⟩
def kY{n:Nat}:∀ {l:List It} {ls:List Nat},Ok n l->ls.length=n->∀ x∈l,(bX ls l).getD x.sym.toNat 0=ls.getD x.sym.toNat 0+1
 |y::r,ls,h,hl,x,hx=>by
  have hb:bX ls (y::r)=bX (bump ls y) r:=rfl;have hy:=h.1 y (by simp);have hlb:(bump ls y).length=n:=by rw[kX,hl]
  rw[hb];have hr:Ok n r:=Ok.right (l:=[y]) h;rcases Rx.1 hx with rfl|hx
  ·have hout:∀ (r:List It) (ls:List Nat),(∀ z∈r,x.sym.toNat≠z.sym.toNat)->(bX ls r).getD x.sym.toNat 0=ls.getD x.sym.toNat 0:=by
    intro r;induction r with
    |nil=>intro ls _;rfl
    |cons z r ih=>
     intro ls hz;have:bX ls (z::r)=bX (bump ls z) r:=rfl;rw[this,ih _ λ q hq=>hz q (by simp[hq])];unfold bump;split
     ·exact dE λ e=>hz z (by simp) e.symm
     ·rfl
   rw[hout r _ (Sb.1 h.2).1];unfold bump;rw[No hy.1,eP (by omega)]
  ·rw[kY hr hlb x hx];have hne:=(Sb.1 h.2).1 x hx;unfold bump;rw[No hy.1,dE hne]
def lQ{j:Nat}:∀ (l:List It) (ls:List Nat),(∀ x∈l,x.sym.toNat≠j)->(bX ls l).getD j 0=ls.getD j 0
 |[],ls,_=>rfl
 |x::r,ls,h=>by
  have:bX ls (x::r)=bX (bump ls x) r:=rfl;rw[this,lQ r _ λ z hz=>h z (by simp[hz])];unfold bump;split
  ·exact dE (h x (by simp))
  ·rfl
def nT(l m:List It)(ls:List Nat):dP (l++m) ls=dP l ls+dP m ls:=by simp[dP]
def kZ{l:List It}{ls:List Nat}{d:Nat}(h:∀ x∈l,ls.getD x.sym.toNat 0=d):dP l ls=l.length*2^(15-d):=by
 unfold dP;induction l with
 |nil=>simp
 |cons x r ih=>
  rw[Sg,UI,ih λ y hy=>h y (by simp[hy]),h x (by simp),LW,Sp,Ts,V4]
def zo{l:List It}{ls ls':List Nat}(h:∀ x∈l,ls.getD x.sym.toNat 0=ls'.getD x.sym.toNat 0):dP l ls=dP l ls':=by
 unfold dP;exact If List.sum (TD λ x hx=>by rw[h x hx])
def zp{n:Nat}{A B:List It}{ls:List Nat}{k:Nat}(hO:Ok n (A++B))(hl:ls.length=n)(hk:k<=14)(hA:∀ x∈A,ls.getD x.sym.toNat 0=14-k):
  dP (A++B) (bX ls A)+A.length*2^k=dP (A++B) ls:=by
 rw[nT,nT];have hB:dP B (bX ls A)=dP B ls:=zo λ x hx=>lQ A ls λ y hy=>(Tf.1 hO.2).2.2 y hy x hx;have hA1:dP A (bX ls A)=A.length*2^k:=by
  rw[kZ (d:=15-k) λ x hx=>by rw[kY hO.left hl x hx,hA x hx];omega];rw[show 15-(15-k)=k by omega]
 have hA2:dP A ls=A.length*2^(k+1):=by
  rw[kZ (d:=14-k) hA,show 15-(14-k)=k+1 by omega]
 rw[hB,hA1,hA2,T0];have:A.length*(2^k*2)=A.length*2^k+A.length*2^k:=by rw[Um (2^k) 2,Nat.two_mul,Nat.mul_add]
 omega
def mJ:∀ (l:List Nat) (i:Nat),(aO i l).Pairwise λ x y=>x.sym.toNat<y.sym.toNat
 |[],i=>by simp[aO]
 |n::r,i=>by
  rw[aO];split
  ·refine Sb.2 ⟨λ y hy=>?_,mJ r (i+1)⟩;obtain⟨_,j,h,_⟩:=jS r (i+1) y hy;simp[h];omega
  ·exact mJ r (i+1)
def lR(c:List Nat):Ok c.length (leaves c):=by
 refine⟨λ x hx=>?_,?_⟩
 ·obtain⟨_,j,h,hj⟩:=cv c x hx;have:=(IN.1 hj).1;exact⟨by omega,by rw[h];simpa using this⟩
 ·have h1:(aO 0 c).Pairwise λ x y=>x.sym.toNat≠y.sym.toNat:=(mJ c 0).imp λ h=>by omega
  exact(bg (aO 0 c)).perm.pairwise h1 λ h=>h.symm
def zq(c:List Nat):∀ (k t:Nat) (ls:List Nat),ls.length=c.length->k<=15->t<=(lvl c (k-1)).length->(k=0->t=0)->
  (∀ x∈(leaves c).take (qf ((lvl c (k-1)).take t)),ls.getD x.sym.toNat 0=15-k)->dP (leaves c) (down c k t ls)+t*2^k/2=dP (leaves c) ls
 |0,t,ls,_,_,_,h0,_=>by rw[h0 Y];simp[down]
 |k+1,t,ls,hl,hk,ht,_,hA=>by
  rw[Sx]at ht hA;have hA':=λ x hx=>(hA x hx).trans (by omega:15-(k+1)=14-k);have hO:=lR c;have hcat:=RY (qf ((lvl c k).take t)) (leaves c);have hn1:qf ((lvl c k).take t)<=(leaves c).length:=by
   rw[<-mI c k];exact(VJ t (lvl c k)).countP_le
  have hb:bX ls ((lvl c k).take t)=bX ls ((leaves c).take (qf ((lvl c k).take t))):=by rw[gD,gB]
  have h1:=zp (n:=c.length) (A:=(leaves c).take (qf ((lvl c k).take t))) (B:=(leaves c).drop (qf ((lvl c k).take t))) (ls:=ls) (k:=k) (by rw[hcat];exact hO) hl (by omega) hA';rw[hcat,KW,Sr hn1]at h1;have hnp:=CL ((lvl c k).take t);rw[KW,Sr ht]at hnp;rw[down,hb];have hk2:t*2^(k+1)/2=t*2^k:=by rw[T0,<-Ty,Nat.mul_div_cancel _ (by decide)]
  rw[hk2];cases k with
  |zero=>
   have h0:jh ((lvl c 0).take t)=0:=by
    have:=Bw (lvl c 0) t;have h:=mH c;simp only[lvl]at this⊢;omega
   rw[h0]at hnp⊢;simp only[Vv,SA,Nat.mul_zero,down]at h1⊢;omega
  |succ k=>
   have hmono:=HL c k t;have ih:=zq c (k+1) (2*jh ((lvl c (k+1)).take t)) (bX ls ((leaves c).take (qf ((lvl c (k+1)).take t)))) (by rw[cc,hl]) (by omega) (ph c k t) (by omega) (by
    intro x hx;rw[Sx]at hx;have hx2:x∈(leaves c).take (qf ((lvl c (k+1)).take t)):=by
     rw[U1]at hx⊢;obtain⟨i,hi⟩:=hx;refine⟨i,?_⟩;rw[SG]at hi⊢;split at hi
     ·rw[No (by omega)];exact hi
     ·cases hi
    rw[kY (Ok.left (m:=(leaves c).drop (qf ((lvl c (k+1)).take t))) (by rw[hcat];exact hO)) hl x hx2,hA' x hx2];omega)
   have e1:2*jh ((lvl c (k+1)).take t)*2^(k+1)/2=jh ((lvl c (k+1)).take t)*2^(k+1):=by
    rw[Ty,Nat.mul_div_cancel_left _ (by decide)]
   rw[e1]at ih;have e2:t*2^(k+1)=qf ((lvl c (k+1)).take t)*2^(k+1)+jh ((lvl c (k+1)).take t)*2^(k+1):=by rw[<-Sp,hnp]
   omega
def wZ(ls:List Nat)(x:It)(j:Nat):ls.getD j 0<=(bump ls x).getD j 0:=by
 unfold bump;split
 ·by_cases h:x.sym.toNat=j
  ·subst h;by_cases hl:x.sym.toNat<ls.length
   ·rw[eP hl];omega
   ·simp[KP,RN (TT hl)]
  ·rw[dE h];exact KD _
 ·exact KD _
def mq(j:Nat):∀ (xs:List It) (ls:List Nat),ls.getD j 0<=(bX ls xs).getD j 0
 |[],ls=>KD _
 |x::r,ls=>RV (wZ ls x j) (mq j r (bump ls x))
def nU(c:List Nat)(j:Nat):∀ k t ls,ls.getD j 0<=(down c k t ls).getD j 0
 |0,_,_=>KD _
 |k+1,t,ls=>RV (mq j _ ls) (nU c j k _ _)
def HN(c:List Nat)(k t:Nat):Ok c.length (((lvl c k).take t).filter eY):=by
 rw[gB];exact Ok.left (m:=(leaves c).drop _) (by rw[RY];exact lR c)
def By(c:List Nat)(k t j:Nat){ls:List Nat}(hl:ls.length=c.length):(bX ls ((lvl c k).take t)).getD j 0<=ls.getD j 0+1:=by
 rw[gD];by_cases h:∃ x∈((lvl c k).take t).filter eY,x.sym.toNat=j
 ·obtain⟨x,hx,rfl⟩:=h;rw[kY (HN c k t) hl x hx];exact KD _
 ·rw[lQ _ _ λ x hx he=>h ⟨x,hx,he⟩];omega
def CN(c:List Nat)(j:Nat):∀ k t ls,ls.length=c.length->(down c k t ls).getD j 0<=ls.getD j 0+k
 |0,_,_,_=>KD _
 |k+1,t,ls,hl=>by
  have h1:=By c k t j hl;have h2:=CN c j k (2*jh ((lvl c k).take t)) (bX ls ((lvl c k).take t)) (by rw[cc,hl]);rw[down];omega
def zt(c:List Nat)(j:Nat)(hj:∀ x∈leaves c,x.sym.toNat≠j):∀ k t ls,(down c k t ls).getD j 0=ls.getD j 0
 |0,_,_=>rfl
 |k+1,t,ls=>by
  rw[down,zt c j hj k,gD];refine lQ _ _ λ x hx=>hj x ?_;rw[gB]at hx;exact RZ hx
def HO{c:List Nat}{j n:Nat}(h:c[j]? =some n)(hn:0<n):∃ x∈leaves c,x.sym.toNat=j/\x.w=n:=by
 have:∀ (l:List Nat) (i j:Nat),l[j]? =some n->∃ x∈aO i l,x.sym.toNat=i+j/\x.w=n:=by
  intro l;induction l with
  |nil=>intro i j h;simp at h
  |cons m r ih=>
   intro i j h;cases j with
   |zero=>
    simp at h;subst h;rw[aO,No hn];exact⟨⟨m,i,0,0⟩,by simp,by simp,Y⟩
   |succ j=>
    obtain⟨x,hx,h1,h2⟩:=ih (i+1) j (by simpa using h);refine⟨x,?_,by omega,h2⟩;rw[aO];split
    ·exact Sl _ hx
    ·exact hx
 obtain⟨x,hx,h1,h2⟩:=this c 0 j h;exact⟨x,(bg _).mem.1 hx,by omega,h2⟩
def qF(LS:List Nat):∀ (r s:List Nat) (i:Nat),LS.drop i=s->s.length=r.length->(∀ j,j<r.length->(s.getD j 0=0↔r.getD j 0=0))->dP (aO i r) LS=iW s
 |[],s,i,_,hl,_=>by
  have h0:s=[]:=RM (by simpa using hl);subst h0;rfl
 |n::r,s,i,hd,hl,hz=>by
  match s with
  |[]=>simp at hl
  |v::s=>
   have hi:LS.getD i 0=v:=by
    have:(LS.drop i)[0]? =some v:=by rw[hd];rfl
    rw[SZ]at this;rw[KP];simpa using If (λ o=>o.getD 0) this
   have ih:=qF LS r s (i+1) (by rw[<-drop_drop,hd];rfl) (by simpa using hl) (λ j hj=>by have:=hz (j+1) (by simpa using hj);simpa using this);have h0:=hz 0 (by simp);simp only[getD_cons_zero]at h0;rw[aO,iW];split
   ·rename_i hn
    have hv:0<v:=by omega
    have e:dP (⟨n,i,0,0⟩::aO (i+1) r) LS=2^(15-LS.getD i 0)+dP (aO (i+1) r) LS:=by simp[dP]
    rw[e,ih,hi,kr,No hv]
   ·have hv:¬ 0<v:=by omega
    rw[ih,kr,M2 hv,RX]
structure LensOk(c ls:List Nat):Prop where
 len:ls.length=c.length
 le:∀ j,ls.getD j 0<=15
 zero:∀ j,j<c.length->(ls.getD j 0=0↔c.getD j 0=0)
 kraft:iW ls<=2^15
def getD_some{l:List Nat}{j n:Nat}(h:l[j]? =some n):l.getD j 0=n:=by simp[KP,h]
def cz(n j:Nat):(List.replicate n 0).getD j 0=0:=by
 rw[KP,Tn];split<;>rfl
def HP(c:List Nat)(hn:(leaves c).length<=1024):LensOk c (cd c):=by
 have hlen:=jW c;have hperm:∀ ls,dP (leaves c) ls=dP (aO 0 c) ls:=λ ls=>((bg (key:=It.w) (aO 0 c)).perm.symm.map _).sum_nat;have hout:∀ j,j<c.length->c.getD j 0=0->∀ x∈leaves c,x.sym.toNat≠j:=λ j hj h0 x hx he=>by
  obtain⟨_,i,h1,h2⟩:=cv c x hx;have:i=j:=by omega
  subst this;have hp:=lP c 0 x hx;rw[getD_some h2]at h0;omega
 have hin:∀ j,j<c.length->c.getD j 0≠0->∃ x∈leaves c,x.sym.toNat=j:=λ j hj h0=>by
  have hg:c[j]? =some c[j]:=py hj;rw[getD_some hg]at h0;obtain⟨x,hx,h1,_⟩:=HO hg (by omega);exact⟨x,hx,h1⟩
 rcases RG (leaves c).length 2 with h2|h2
 ·have hE:cd c=(leaves c).foldl (λ ls x=>ls.set x.sym.toNat 1) (List.replicate c.length 0):=by unfold cd;rw[No h2]
  rcases SJ (leaves c).length with h0|h0
  ·have hnil:=RM h0;rw[hnil]at hE;have hz:∀ j,j<c.length->((cd c).getD j 0=0↔c.getD j 0=0):=λ j hj=>by
    rw[hE];refine⟨λ _=>?_,λ _=>cz ..⟩;refine SM λ hne=>?_;obtain⟨x,hx,_⟩:=hin j hj hne;rw[hnil]at hx;cases hx
   refine⟨hlen,λ j=>by rw[hE];show(List.replicate c.length 0).getD j 0<=15;rw[cz];omega,hz,?_⟩;rw[<-qF (cd c) c (cd c) 0 Y hlen hz,<-hperm,hnil];exact KB _
  ·obtain⟨x,hx⟩:=VI.1 (by omega:(leaves c).length=1);rw[hx]at hE;have hE':cd c=(List.replicate c.length 0).set x.sym.toNat 1:=hE;have hxl:=(lR c).1 x (by rw[hx];simp);have hg:∀ j,(cd c).getD j 0=if x.sym.toNat=j then 1 else 0:=λ j=>by
    rw[hE'];by_cases h:x.sym.toNat=j
    ·subst h;rw[eP (by simpa using hxl.2),No Y]
    ·rw[dE h,M2 h,cz]
   have hz:∀ j,j<c.length->((cd c).getD j 0=0↔c.getD j 0=0):=λ j hj=>by
    rw[hg];by_cases h:x.sym.toNat=j
    ·rw[No h];refine⟨λ h=>by omega,λ h0=>absurd h (hout j hj h0 x (by rw[hx];simp))⟩
    ·rw[M2 h];refine⟨λ _=>SM λ hne=>?_,λ _=>Y⟩;obtain⟨y,hy,hy2⟩:=hin j hj hne;rw[hx]at hy;simp at hy;subst hy;exact h hy2
   refine⟨hlen,λ j=>by rw[hg];split<;>omega,hz,?_⟩;rw[<-qF (cd c) c (cd c) 0 Y hlen hz,<-hperm,hx];simp only[dP,Sg,U3,UI,sum_nil,hg,No];decide
 ·have hE:cd c=down c 15 (2*(leaves c).length-2) (List.replicate c.length 0):=by unfold cd;rw[M2 (by omega)]
  have htop:=HM c h2 14;have hz:∀ j,j<c.length->((cd c).getD j 0=0↔c.getD j 0=0):=λ j hj=>by
   rw[hE];refine⟨λ h=>SM λ hne=>?_,λ h0=>by rw[zt c j (hout j hj h0),cz]⟩;obtain⟨x,hx,hxj⟩:=hin j hj hne;rw[down]at h;have h1:=nU c j 14 (2*jh ((lvl c 14).take (2*(leaves c).length-2))) (bX (List.replicate c.length 0) ((lvl c 14).take (2*(leaves c).length-2)));rw[h]at h1;rw[gD,gB,htop,RD,<-hxj,kY (lR c) (by simp) x hx]at h1;omega
  refine⟨hlen,λ j=>?_,hz,?_⟩
  ·rw[hE];have:=CN c j 15 (2*(leaves c).length-2) (List.replicate c.length 0) (by simp);rw[cz]at this;omega
  ·rw[<-qF (cd c) c (cd c) 0 Y hlen hz,<-hperm];have h:=zq c 15 (2*(leaves c).length-2) (List.replicate c.length 0) (by simp) (KD _) (sD c (by omega) hn) (by omega) (λ x _=>by rw[cz]);rw[<-hE,kZ (l:=leaves c) (ls:=List.replicate c.length 0) (d:=0) (λ x _=>cz ..)]at h;have e:(2*(leaves c).length-2)*2^15/2=((leaves c).length-1)*2^15:=by
    rw[show 2*(leaves c).length-2=2*((leaves c).length-1) by omega,Ty,Nat.mul_div_cancel_left _ (by decide)]
   rw[e]at h;have e2:(leaves c).length*2^15=((leaves c).length-1)*2^15+2^15:=by
    conv=>lhs;rw[show(leaves c).length=(leaves c).length-1+1 by omega]
    rw[Sp,Ts]
   simp only[Uo]at h;omega
def eZ(l ord:List Nat):Nat:=(ord.map λ i=>2^(15-ak l i)).sum
def dA(l a b:List Nat):eZ l (a++b)=eZ l a+eZ l b:=by simp[eZ]
def nW(l:List Nat)(i:Nat):eZ l [i]=2^(15-ak l i):=by simp[eZ]
def sE{l ord:List Nat}{d:Nat}(h:∀ x∈ord,ak l x=d):eZ l ord=ord.length*2^(15-d):=by
 unfold eZ;induction ord with
 |nil=>simp
 |cons x r ih=>rw[Sg,UI,ih λ y hy=>h y (by simp[hy]),h x (by simp),LW,Sp,Ts,V4]
def sF(LS:List Nat):∀ (s:List Nat) (i:Nat),LS.drop i=s->eZ LS (bz i s)=iW s
 |[],i,_=>rfl
 |v::s,i,hd=>by
  have hi:LS.getD i 0=v:=by
   have:(LS.drop i)[0]? =some v:=by rw[hd];rfl
   rw[SZ]at this;rw[KP];simpa using If (λ o=>o.getD 0) this
  have ih:=sF LS s (i+1) (by rw[<-drop_drop,hd];rfl);rw[bz,iW];split
  ·rename_i hv
   have e:eZ LS (i::bz (i+1) s)=eZ LS [i]+eZ LS (bz (i+1) s):=dA LS [i] _;rw[e,nW,ih,kr,No hv,ak,hi]
  ·rename_i hv
   rw[ih,kr,M2 hv,RX]
def F0(l:List Nat):eZ l (b8 l)=iW l:=by
 rw[<-sF l l 0 Y];exact((bg (key:=ak l) (bz 0 l)).perm.symm.map _).sum_nat
def lS:∀ (l:List Nat) (i:Nat),(bz i l).Pairwise (· < ·)
 |[],i=>by simp[bz]
 |n::r,i=>by
  rw[bz];split
  ·refine Sb.2 ⟨λ y hy=>?_,lS r (i+1)⟩;have:=jU r (i+1) y hy;omega
  ·exact lS r (i+1)
def zu(l:List Nat):(b8 l).Nodup:=(bg (bz 0 l)).perm.nodup ((lS l 0).imp λ h=>by omega)
def iZ(l:List Nat)(x:Nat)(h:0<ak l x):x∈b8 l:=by
 refine(bg _).mem.1 ?_;have:∀ (l:List Nat) (i x:Nat),0<l.getD x 0->i+x∈bz i l:=by
  intro l;induction l with
  |nil=>intro i x h;simp at h
  |cons n r ih=>
   intro i x h;cases x with
   |zero=>simp at h;rw[bz,No h];simp
   |succ x=>
    have:=ih (i+1) x (by simpa using h);rw[bz];split
    ·exact Sl _ (by rw[show i+(x+1)=i+1+x by omega];exact this)
    ·rw[show i+(x+1)=i+1+x by omega];exact this
 have:=this l 0 x h;rwa[RX]at this
def jY{α:Type}{P:List α->Prop}(h0:P [])(h1:∀ l x,P l->P (l++[x]))(l:List α):P l:=by
 rw[<-reverse_reverse l];induction l.reverse with
 |nil=>exact h0
 |cons x r ih=>rw[reverse_cons];exact h1 _ _ ih
def vy{L M:Nat}(h:L<=M)(hM:M<=15):2^(M-L)*2^(15-M)=2^(15-L):=by rw[<-Ul];congr 1;omega
def F5(l:List Nat)(hb:∀ i,ak l i<=15):∀ (ord:List Nat) (i:Nat),Srt (ak l) (ord++[i])->eZ l (ord++[i])<=2^15->
  (eI l (ord++[i])).1=ord.length+1/\(eI l (ord++[i])).2.2.1=ak l i/\(eI l (ord++[i])).2.1*2^(15-ak l i)=eZ l ord/\(eI l (ord++[i])).2.2.2=(eI l ord).2.2.2.set i (eI l (ord++[i])).2.1:=by
 refine jY ?_ ?_
 ·intro i _ _;simp[eI,gi,eZ]
 ·intro ord j ih i hs hk;have hs1:Srt (ak l) (ord++[j]):=hs.left;have hij:ak l j<=ak l i:=(Srt.append.1 hs).2.2 j (by simp) i (by simp);have hk1:eZ l (ord++[j])<=2^15:=by rw[dA]at hk;omega
  obtain⟨h1,h2,h3,_⟩:=ih j hs1 hk1;have hi15:=hb i;have hp:0<2^(15-ak l j):=SH _;have hbound:((eI l (ord++[j])).2.1+1)*2^(15-ak l j)<=2^15:=by
   rw[Sp,h3,Ts,<-nW,<-dA];exact hk1
  have hc:(eI l (ord++[j])).2.1+1<=2^15:=RV (TU _ hp) hbound;have e1:((eI l (ord++[j])).2.1+1)%2^64=(eI l (ord++[j])).2.1+1:=RR (by omega);have hq:((eI l (ord++[j])).2.1+1)*2^(ak l i-ak l j)*2^(15-ak l i)=((eI l (ord++[j])).2.1+1)*2^(15-ak l j):=by
   rw[Ty,vy hij hi15]
  have hc2:((eI l (ord++[j])).2.1+1)*2^(ak l i-ak l j)<=2^15:=RV (TU _ (SH (15-ak l i))) (by rw[hq];exact hbound);have e2:((eI l (ord++[j])).2.1+1)*2^(ak l i-ak l j)%2^64=((eI l (ord++[j])).2.1+1)*2^(ak l i-ak l j):=RR (by omega);have hst:(eI l (ord++[j]++[i])).2.1=((eI l (ord++[j])).2.1+1)*2^(ak l i-ak l j):=by
   rw[ef];simp only[gi,h1,h2];rw[No (by omega),e1,e2]
  refine⟨by rw[ef];simp[gi,h1],by rw[ef];rfl,?_,by rw[ef];rfl⟩;rw[hst,hq,Sp,h3,Ts,dA,nW]
structure GoodLens(l:List Nat):Prop where
 le:∀ i,ak l i<=15
 kraft:iW l<=2^15
def vz{l:List Nat}(h:∀ x∈l,x<=15)(i:Nat):ak l i<=15:=by
 rw[ak,KP];cases hg:l[i]? with
 |none=>simp
 |some v=>simpa using h v (Rv hg)
def GoodLens.lh{l:List Nat}(h:dM l=true):GoodLens l:=by
 simp only[dM,RC,Sy,Ss]at h;exact⟨vz h.1,h.2⟩
def GoodLens.vV{c l:List Nat}(h:LensOk c l):GoodLens l:=⟨h.le,h.kraft⟩
def fz{c l:List Nat}(h:LensOk c l):dM l=true:=by
 simp only[dM,RC,Sy,Ss];refine⟨λ x hx=>?_,h.kraft⟩;obtain⟨i,hi⟩:=U1.1 hx;have:=h.le i;rwa[getD_some hi]at this
def zv(l:List Nat):∀ (more ord:List Nat) (x:Nat),x∉more->(eI l (ord++more)).2.2.2[x]? =(eI l ord).2.2.2[x]?
 |[],ord,x,_=>by simp
 |i::r,ord,x,h=>by
  have:=zv l r (ord++[i]) x (λ h'=>h (by simp[h']));rw[KV]at this;rw[show ord++i::r=ord++([i]++r) by simp,this,ef];exact TG λ e=>h (by simp[e])
def L8{l:List Nat}(h:GoodLens l){k x:Nat}(hx:(b8 l)[k]? =some x):∃ code,(cN l)[x]? =some code/\code*2^(15-ak l x)=eZ l ((b8 l).take k)/\code<2^ak l x:=by
 have hcat:b8 l=(b8 l).take k++[x]++(b8 l).drop (k+1):=by
  rw[<-aj hx,RY]
 have hs:Srt (ak l) ((b8 l).take k++[x]):=by rw[<-aj hx];exact Srt.take (bW _) _
 have htot:eZ l (b8 l)<=2^15:=by rw[F0];exact h.kraft
 have hk:eZ l ((b8 l).take k++[x])<=2^15:=by rw[hcat,dA]at htot;omega
 obtain⟨_,_,h3,h4⟩:=F5 l h.le _ x hs hk;have hnd:=zu l;have hxm:=je l x (Rv hx);refine⟨(eI l ((b8 l).take k++[x])).2.1,?_,h3,?_⟩
 ·have e:cN l=(eI l ((b8 l).take k++[x]++(b8 l).drop (k+1))).2.2.2:=by unfold cN;rw[<-hcat]
  rw[e,zv l _ _ x,h4]
  ·rw[St (by rw[qd];exact hxm.1)]
  ·intro hm;rw[hcat]at hnd;exact(nodup_append.1 hnd).2.2 x (by simp) x hm Y
 ·rw[dA,nW,<-h3]at hk;have hL:=h.le x;have e:2^15=2^ak l x*2^(15-ak l x):=by rw[<-Ul];congr 1;omega
  rw[e,<-Nat.succ_mul]at hk;exact Nat.le_of_mul_le_mul_right hk (SH _)
def Srt.three{α:Type}{key:α->Nat}(n:Nat):∀ {l:List α},Srt key l->l=l.filter (λ x=>decide (key x<n))++l.filter (λ x=>key x==n)++l.filter (λ x=>decide (n<key x))
 |[],_=>rfl
 |x::r,h=>by
  have hr:Srt key r:=(Sb.1 h).2;have hx:=(Sb.1 h).1;have ih:=Srt.three n hr;rcases U5 (key x) n with hk|hk|hk
  ·have a:¬ n<key x:=by omega
   have b:¬ key x=n:=by omega
   simp only[V3,hk,a,decide_true,V1,TJ,U0,b,SX,TE,SE];exact If (x:: ·) ih
  ·have e:r.filter (λ x=>decide (key x<n))=[]:=SR.2 λ y hy=>by have:=hx y hy;simp;omega
   have a:¬ key x<n:=by omega
   have b:¬ n<key x:=by omega
   rw[e,Tj]at ih;simp only[V3,hk,Vj,V1,beq_self_eq_true,TJ,SE,SX,e,Tj,TE];exact If (x:: ·) ih
  ·have e:r.filter (λ x=>decide (key x<n))=[]:=SR.2 λ y hy=>by have:=hx y hy;simp;omega
   have e2:r.filter (λ x=>key x==n)=[]:=SR.2 λ y hy=>by have:=hx y hy;simp;omega
   have a:¬ key x<n:=by omega
   have b:¬ key x=n:=by omega
   rw[e,e2,Tj,Tj]at ih;simp only[V3,a,hk,decide_true,V1,U0,b,SX,TJ,e,e2,Tj,SE];exact If (x:: ·) ih
def mg(l:List Nat)(n:Nat):List Nat:=(b8 l).filter λ x=>ak l x==n
def low(l:List Nat)(n:Nat):List Nat:=(b8 l).filter λ x=>decide (ak l x<n)
def cA(l:List Nat)(x:Nat):Nat:=(cN l).getD x 0
def tZ(l:List Nat)(n:Nat):Nat:=
 match mg l n with
 |[]=>0
 |x::_=>cA l x
def iI(l:List Nat)(n:Nat):b8 l=low l n++mg l n++(b8 l).filter λ x=>decide (n<ak l x):=Srt.three n (bW _)
def lT{l:List Nat}{n x:Nat}(h:x∈mg l n):ak l x=n:=by simpa using(Tp.1 h).2
def jk{l:List Nat}(h:GoodLens l){n m x:Nat}(hx:(mg l n)[m]? =some x):(cN l)[x]? =some (cA l x)/\cA l x*2^(15-n)=eZ l (low l n)+m*2^(15-n)/\cA l x<2^n:=by
 have hm:=(IN.1 hx).1;have hn:=lT (Rv hx);have hk:(b8 l)[(low l n).length+m]? =some x:=by
  rw[iI l n,KV,RO (by omega),SB,RH hm];exact hx
 obtain⟨code,h1,h2,h3⟩:=L8 h hk;have hc:cA l x=code:=by rw[cA,KP,h1];rfl
 have ht:(b8 l).take ((low l n).length+m)=low l n++(mg l n).take m:=by
  conv=>lhs;rw[iI l n]
  rw[KV,take_length_add_append,take_append_of_le_length (by omega)]
 rw[hc];rw[hn]at h2 h3;refine⟨h1,?_,h3⟩;rw[h2,ht,dA,sE (d:=n) λ y hy=>lT (RZ hy),KW,Sr (by omega)]
def sG{l:List Nat}(h:GoodLens l){n m x:Nat}(hx:(mg l n)[m]? =some x):tZ l n+m=cA l x:=by
 have hm:=(IN.1 hx).1;obtain⟨_,h1,_⟩:=jk h hx;have h0:(mg l n)[0]? =some (mg l n)[0]:=py (by omega);obtain⟨_,g1,_⟩:=jk h h0;have hf:tZ l n=cA l (mg l n)[0]:=by
  unfold tZ;obtain⟨y,r,hyr⟩:=exists_cons_of_length_pos (by omega:0<(mg l n).length);simp only[hyr,getElem_cons_zero]
 rw[hf];have e:(cA l (mg l n)[0]+m)*2^(15-n)=cA l x*2^(15-n):=by rw[Sp,g1,h1,UF,T7]
 exact Nat.eq_of_mul_eq_mul_right (SH _) e
def Bz{l:List Nat}{x:Nat}(hx:0<ak l x):∃ m:Nat,(mg l (ak l x))[m]? =some x:=by
 have:x∈mg l (ak l x):=Tp.2 ⟨iZ l x hx,by simp⟩;exact U1.1 this
def F6{l:List Nat}(h:GoodLens l){x n m y:Nat}(hx:0<ak l x)(hn:n<ak l x)(hy:(mg l n)[m]? =some y):cA l y≠cA l x/2^(ak l x-n):=λ e=>by
 obtain⟨k,hk⟩:=Bz hx;obtain⟨_,h1,_⟩:=jk h hk;obtain⟨_,g1,_⟩:=jk h hy;have hL:=h.le x;have hm:=(IN.1 hy).1;have hlow:eZ l (low l n)+(mg l n).length*2^(15-n)<=eZ l (low l (ak l x)):=by
  have hsub:(low l n++mg l n).Sublist (low l (ak l x)):=by
   have e1:low l (ak l x)=(low l n++mg l n++(b8 l).filter λ z=>decide (n<ak l z)).filter λ z=>decide (ak l z<ak l x):=by rw[<-iI];rfl
   rw[e1,Te,Te];have e2:(low l n).filter (λ z=>decide (ak l z<ak l x))=low l n:=Tt.2 λ z hz=>by
    have:=(Tp.1 hz).2;simp at this⊢;omega
   have e3:(mg l n).filter (λ z=>decide (ak l z<ak l x))=mg l n:=Tt.2 λ z hz=>by
    have:=lT hz;simp;omega
   rw[e2,e3];exact sublist_append_left _ _
  have hs:eZ l (low l n++mg l n)<=eZ l (low l (ak l x)):=by
   have:∀ {a b:List Nat},a.Sublist b->eZ l a<=eZ l b:=by
    intro a b hab;induction hab with
    |slnil=>exact KD _
    |cons z _ ih=>simp only[eZ,Sg,UI]at ih⊢;exact RV ih (Nat.le_add_left _ _)
    |cons_cons z _ ih=>simp only[eZ,Sg,UI]at ih⊢;exact Vg ih _
   exact this hsub
  rw[dA,sE (d:=n) λ z hz=>lT hz]at hs;exact hs
 have hq:2^(ak l x-n)*2^(15-ak l x)=2^(15-n):=vy (by omega) hL;have hlt:cA l x<(cA l y+1)*2^(ak l x-n):=by
  rw[e];have:=Nat.lt_div_mul_add (a:=cA l x) (b:=2^(ak l x-n)) (SH _);rw[Sp,Ts];exact this
 have h2:cA l x*2^(15-ak l x)<(cA l y+1)*2^(15-n):=by
  rw[<-hq,<-Ty];exact TF hlt (SH _)
 rw[h1,Sp,Ts,g1]at h2;have h3:(m+1)*2^(15-n)<=(mg l n).length*2^(15-n):=SY _ hm;rw[Sp,Ts]at h3;omega
def bZ(l syms:List Nat):List Bool:=syms.flatMap λ s=>aT (cA l s) (ak l s)
def vA(l a:List Nat)(x:Nat):bZ l (a++[x])=bZ l a++aT (cA l x) (ak l x):=by simp[bZ]
def eQ{l:List Nat}(h:GoodLens l):∀ syms:List Nat,(bZ l syms).length<=15*syms.length
 |[]=>by simp[bZ]
 |s::r=>by
  have ih:=eQ h r;have e:bZ l (s::r)=aT (cA l s) (ak l s)++bZ l r:=by simp[bZ]
  have:=h.le s;rw[e,sp,aH,LW];omega
def lU{l:List Nat}(h:GoodLens l){x:Nat}(hx:0<ak l x):(cN l)[x]? =some (cA l x)/\cA l x<2^ak l x:=by
 obtain⟨m,hm⟩:=Bz hx;obtain⟨h1,_,h3⟩:=jk h hm;exact⟨h1,h3⟩
def l0{l:List Nat}{x:Nat}(hx:x<l.length):l[x]? =some (ak l x):=by
 simp[ak,KP,hx]
def gM{l:List Nat}(h:dM l=true):∀ x∈l,x<=15:=by
 simp only[dM,RC,Sy,Ss]at h;exact h.1
def iJ(v:Nat):Nat:=(max (Lib.bitLen v) 1+6)/7
def fa(v:Nat):iJ v<=10:=by have:=bitLen_le64 v;unfold iJ;omega
def l1(width:Nat)(s:Nat×Nat×Nat×Nat)(x:Nat):Nat×Nat×Nat×Nat:=
 if 0<x/2^width then(s.1+1,s.2.1+(iJ (s.1+1-s.2.2.2)+iJ (x/2^width)),s.2.2.1+1,s.1+1)else(s.1+1,s.2.1,s.2.2.1,s.2.2.2)
def fA(width:Nat)(l:List Nat):Nat×Nat×Nat×Nat:=l.foldl (l1 width) (0,0,0,0)
def iK(width:Nat)(l:List Nat):Nat:=
 (fA width l).2.1+iJ l.length+iJ width+iJ (fA width l).2.2.1+(l.length*width+7)/8
def l3(width:Nat)(l:List Nat)(x:Nat):fA width (l++[x])=l1 width (fA width l) x:=by simp[fA]
def dQ(width:Nat)(s:Nat×List Bool×List Nat×Nat×Nat)(x:Nat):Nat×List Bool×List Nat×Nat×Nat:=
 if 0<x/2^width then(s.1+1,s.2.1++aT (x%2^width) width,s.2.2.1++uv (s.1+1-s.2.2.2.2)++uv (x/2^width),s.2.2.2.1+1,s.1+1)
 else(s.1+1,s.2.1++aT (x%2^width) width,s.2.2.1,s.2.2.2.1,s.2.2.2.2)
def df(width:Nat)(l:List Nat):Nat×List Bool×List Nat×Nat×Nat:=l.foldl (dQ width) (0,[],[],0,0)
def iL(width:Nat)(l:List Nat):List Nat:=
 uv l.length++uv width++uv (df width l).2.2.2.1++aE (df width l).2.1++(df width l).2.2.1
def eJ(width:Nat)(l:List Nat)(x:Nat):df width (l++[x])=dQ width (df width l) x:=by simp[df]
def dr(l:List Nat):Nat->Nat
 |0=>0
 |m+1=>if iK m l<iK (dr l m) l then m else dr l m
def bH(l:List Nat):List Nat:=iL (dr l 32) l
def ic(l:List Nat):∀ m,dr l m<=m-1
 |0=>KD _
 |m+1=>by unfold dr;split;(omega);(have:=ic l m;omega)
