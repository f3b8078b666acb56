/-
 M06:corpora as they lie in memory,and which of them are good. No program in sight.
-/
import Derived.Test.YtcmldpiicnobnaaGreatDoorKg
import Derived.Lib.BitFns
import Derived.Lib.ItoaNum
set_option linter.all false
open Go.Proofs.YtcmldpiicnobnaaGreatDoor
open List hiding all
namespace Go.Kw
abbrev Pr:=ByteArray×ByteArray
def bK:Enc Pr:=⟨2,λ x=>[.string x.1,.string x.2],λ _=>J,λ x u h=>by simp at h;rcases h with rfl|rfl<;>rfl⟩
structure Tk where
 sv:SV
 ns:List ByteArray
def ef:Enc Tk:=⟨1,λ t=>[t.sv.val],λ _=>J,λ x u h=>by simp at h;subst h;rfl⟩
structure Iv where
 nm:ByteArray
 b:Int
 e:Int
 sv:SV
 ps:List Pr
def aR:Enc Iv:=⟨4,λ x=>[.string x.nm,.int .i64 x.b,.int .i64 x.e,x.sv.val],λ _=>J,λ x u h=>by simp at h;rcases h with rfl|rfl|rfl|rfl<;>rfl⟩
structure Nd where
 nm:ByteArray
 b:Int
 e:Int
 p:Int
def bR:Enc Nd:=⟨4,λ x=>[.string x.nm,.int .i64 x.b,.int .i64 x.e,.int .i64 x.p],λ _=>J,λ x u h=>by simp at h;rcases h with rfl|rfl|rfl|rfl<;>rfl⟩
structure Co where
 va:Value
 vt:Value
 vx:Value
 vr:Value
 vn:Value
 vh:Value
 vl:Value
 at_:List (ByteArray×Bool)
 tk:List Tk
 tx:List Iv
 rg:List Iv
 nd:List Nd
 hd:List Int
 rl:List ByteArray
@[reducible] def Co.val(c:Co):Value:=.agg #[c.va,c.vt,c.vx,c.vr,c.vn,c.vh,c.vl]
structure RdC(w:World)(c:Co):Prop where
 a:RdL w c.va aE c.at_
 t:RdL w c.vt ef c.tk
 x:RdL w c.vx aR c.tx
 r:RdL w c.vr aR c.rg
 n:RdL w c.vn bR c.nd
 h:RdL w c.vh (encI .i64) c.hd
 l:RdL w c.vl ah c.rl
 tr:∀ t∈c.tk,RdL w t.sv.val ah t.ns
 xr:∀ t∈c.tx,RdL w t.sv.val bK t.ps
 rr:∀ t∈c.rg,RdL w t.sv.val bK t.ps
theorem RdC.ext{w w':World}{c:Co}(h:RdC w c)(he:Ext w w'):RdC w' c:=
 ⟨h.a.ext he,h.t.ext he,h.x.ext he,h.r.ext he,h.n.ext he,h.h.ext he,h.l.ext he,λ t ht=>(h.tr t ht).ext he,λ t ht=>(h.xr t ht).ext he,λ t ht=>(h.rr t ht).ext he⟩
def iX(s:ByteArray):Bool:=decide (s.size<=120)&&(gj s&&((fY s.data.toList).all (λ u=>decide (31<u.r/\u.r≠127))&&s.data.toList.all λ c=>decide (32<=c.toNat/\c.toNat≠127)))
def oy(s:List UInt8):Nat->Nat×List (List UInt8)
 |0=>(1,[])
 |i+1=>if 0<i/\s[i]? =some 124 then(i+1,(oy s i).2++[(s.take i).drop (oy s i).1])else oy s i
def DA(s:List UInt8):∀ i,(oy s i).1<=max 1 i
 |0=>KP _
 |i+1=>by
  have:=DA s i;unfold oy;split
  ·simp only;omega
  ·omega
def yY(s:ByteArray):Prop:=iX s=true/\s.data.toList[0]? =some 124/\s.data.toList[s.size-1]? =some 124/\(∀ i,1<=i->s.data.toList[i]? =some 124->(oy s.data.toList i).1≠i)/\∀ i x y,(oy s.data.toList s.size).2[i]? =some x->(oy s.data.toList s.size).2[i+1]? =some y->x<y
def okV(a:ByteArray×Bool)(v:ByteArray):Prop:=(a.2=false->iX v=true)/\(a.2=true->yY v)
theorem okV.val{a:ByteArray×Bool}{v:ByteArray}(h:okV a v):iX v=true:=by
 cases hb:a.2 with
 |false=>exact h.1 hb
 |true=>exact(h.2 hb).1
def okPs(ps:List Pr):Prop:=ps.length<=8/\(∀ p∈ps,aU p.1=true/\iX p.2=true)/\∀ i p q,ps[i]? =some p->ps[i+1]? =some q->SLt p.1 q.1
def uZ:okPs []:=⟨by simp,by simp,by simp⟩
def pQ{p:Pr}(h1:aU p.1=true)(h2:iX p.2=true):okPs [p]:=⟨by simp,by simpa using⟨h1,h2⟩,λ i p q _ hq=>by simp at hq⟩
instance(a b:ByteArray):Decidable (SLt a b):=inferInstanceAs (Decidable (a.data.toList<b.data.toList))
def eO(a b:ByteArray):Int:=if SLt a b then-1 else if SLt b a then 1 else 0
def ek(a b:Int):Int:=if a<b then-1 else if b<a then 1 else 0
def kf:List Pr->List Pr->Int
 |[],[]=>0
 |[],_::_=> -1
 |_::_,[]=>1
 |p::r,q::t=>if eO p.1 q.1≠0 then eO p.1 q.1 else if eO p.2 q.2≠0 then eO p.2 q.2 else kf r t
def fq(x y:Iv):Int:=if ek x.b y.b≠0 then ek x.b y.b else if ek y.e x.e≠0 then ek y.e x.e else if eO x.nm y.nm≠0 then eO x.nm y.nm else kf x.ps y.ps
def rT(a b:Int):ek a b= -ek b a:=by unfold ek;split<;>split<;>omega
def nq(a b:ByteArray):eO a b= -eO b a:=by
 unfold eO;by_cases h:SLt a b
 ·rw[Ow h,OB h.Ln,Ow h]
 ·by_cases k:SLt b a
  ·rw[OB h,Ow k,Ow k];rfl
  ·rw[OB h,OB k,OB k,OB h];rfl
def Bp{a b:ByteArray}(h:eO a b=0):a=b:=by
 unfold eO at h;by_cases h1:SLt a b
 ·rw[Ow h1]at h;omega
 ·by_cases h2:SLt b a
  ·rw[OB h1,Ow h2]at h;omega
  ·exact Decidable.byContradiction λ hne=>h2 (SLt.MX h1 hne)
def jP(a:ByteArray):eO a a=0:=by unfold eO;rw[OB (SLt.C3 a),OB (SLt.C3 a)]
def rU:∀ a b:List Pr,kf a b= -kf b a
 |[],[]=>rfl
 |[],_::_=>rfl
 |_::_,[]=>rfl
 |p::r,q::t=>by
  unfold kf;rw[nq p.1 q.1,nq p.2 q.2,rU r t];by_cases h1:eO q.1 p.1=0
  ·by_cases h2:eO q.2 p.2=0<;>simp[h1,h2]
  ·rw[Ow (by omega),Ow h1]
def Bq(x y:Iv):fq x y= -fq y x:=by
 unfold fq;rw[rT x.b y.b,rT y.e x.e,nq x.nm y.nm,rU x.ps y.ps];by_cases h1:ek y.b x.b=0
 ·by_cases h2:ek x.e y.e=0
  ·by_cases h3:eO y.nm x.nm=0<;>simp[h1,h2,h3]
  ·simp[h1,h2]
 ·rw[Ow (by omega),Ow h1]
def GI{x y:Iv}(h:x.b<y.b):fq x y= -1:=by unfold fq ek;rw[Ow h];rfl
def noX(x y:Iv):Prop:=x.nm=y.nm->¬ (x.b<y.e/\y.b<x.e/\¬ (x.b<=y.b/\y.e<=x.e)/\¬ (y.b<=x.b/\x.e<=y.e))
theorem noX.symm{x y:Iv}(h:noX x y):noX y x:=λ e k=>h e.symm ⟨k.2.1,k.1,k.2.2.2,k.2.2.1⟩
def noX.ends{x y:Iv}(h:x.e<=y.b):noX x y:=λ _ k=>by omega
structure okTx(n:Int)(l:List Iv):Prop where
 nm:∀ x∈l,aU x.nm=true/\okPs x.ps/\0<=x.b/\x.b<x.e/\x.e<=n
 nd:∀ (i j:Nat) x y,l[i]? =some x->l[j]? =some y->j<i->y.nm≠x.nm
 first:∀ x,l[0]? =some x->x.b=0
 next:∀ (i:Nat) x y,l[i]? =some x->l[i+1]? =some y->y.b=x.e
 last:∀ (i:Nat) x,l[i]? =some x->i+1=l.length->x.e=n
 none_:l=[]↔n=0
def inT(l:List Iv)(b e:Int):Prop:=∃ t∈l,t.b<=b/\b<e/\e<=t.e
structure okRg(tx rg:List Iv):Prop where
 el:∀ x∈rg,aU x.nm=true/\inT tx x.b x.e/\okPs x.ps
 asc:∀ (i:Nat) x y,rg[i]? =some x->rg[i+1]? =some y->fq x y<=0
 nox:∀ x∈rg,∀ y∈rg,noX x y
structure okNd(tx:List Iv)(nd:List Nd):Prop where
 el:∀ x∈nd,aU x.nm=true/\inT tx x.b x.e
 par:∀ (i:Nat) x,nd[i]? =some x->x.p= -1\/(x.p+1=i/\0<i/\∀ y,nd[i-1]? =some y->y.p= -1/\y.b<=x.b/\x.e<=y.e)
 sib:∀ (s i:Nat) x y,nd[s]? =some y->nd[i]? =some x->s<i->y.p=x.p->y.e<=x.b
structure okHd(n:Nat)(tx:List Iv)(hd:List Int)(rl:List ByteArray):Prop where
 len:hd.length=n/\rl.length=n
 bare:∃ i:Nat,(∃ h,hd[i]? =some h/\h≠-1)\/∃ s,rl[i]? =some s/\s≠ByteArray.empty
 el:∀ (i:Nat) h,hd[i]? =some h->h= -1\/∃ t∈tx,t.b<=i/\(i:Int)<t.e/\t.b<=h/\h<t.e
 nm:∀ s∈rl,s=ByteArray.empty\/aU s=true
 rk:∃ rank:Nat->Nat,∀ (i:Nat) h,hd[i]? =some h->0<=h->rank h.toNat<rank i
def nr:List ByteArray:=[ByteArray.mk #[97],ByteArray.mk #[98],ByteArray.mk #[99],ByteArray.mk #[65],ByteArray.mk #[97,98],ByteArray.mk #[]]
def rV:List ByteArray:=[ByteArray.mk #[88],ByteArray.mk #[89]]
def l1:List ByteArray:=[ByteArray.mk #[124],ByteArray.mk #[124,112,124],ByteArray.mk #[124,112,124,113,124],ByteArray.mk #[124,113,124]]
def GJ:Nat->List ByteArray
 |0=>nr++[ByteArray.mk #[120]]
 |1=>rV
 |_=>l1
def DB(i:Nat):(GJ i).length<=7:=by
 unfold GJ;split<;>decide
structure OkC(k:Nat)(c:Co):Prop where
 at_:atsOk c.at_
 voc:∀ t∈c.tk,∀ (i:Nat) v,t.ns[i]? =some v->v∈GJ i
 tk:∀ t∈c.tk,t.ns.length=c.at_.length/\∀ (i:Nat) v a,t.ns[i]? =some v->c.at_[i]? =some a->okV a v
 tx:okTx c.tk.length c.tx
 rg:okRg c.tx c.rg
 nd:okNd c.tx c.nd
 hd:(c.hd=[]/\c.rl=[])\/okHd c.tk.length c.tx c.hd c.rl
 ntk:c.tk.length<=12*k
 ntx:c.tx.length<=k
 nrg:c.rg.length<=8*k
 nnd:c.nd.length<=8*k
def dA(n:Int)(x:Iv):Iv:={x with b:=x.b+n,e:=x.e+n}
def qZ(n m:Int)(x:Nd):Nd:={x with b:=x.b+n,e:=x.e+n,p:=if 0<=x.p then x.p+m else x.p}
def o6(n:Int)(h:Int):Int:=if 0<=h then h+n else h
def eE(c:Co):List Int:=if 0<c.hd.length then c.hd else List.replicate c.tk.length (-1)
def fD(c:Co):List ByteArray:=if 0<c.hd.length then c.rl else List.replicate c.tk.length ByteArray.empty
structure IsCat(a b c:Co):Prop where
 at_:c.at_=a.at_
 tk:c.tk=a.tk++b.tk
 tx:c.tx=a.tx++b.tx.map (dA a.tk.length)
 rg:c.rg=a.rg++b.rg.map (dA a.tk.length)
 nd:c.nd=a.nd++b.nd.map (qZ a.tk.length a.nd.length)
 hd:(0<a.hd.length+b.hd.length/\c.hd=eE a++(eE b).map (o6 a.tk.length)/\c.rl=fD a++fD b)\/(a.hd.length+b.hd.length=0/\c.hd=[]/\c.rl=[])
def lW{α:Type}{l r:List α}{i:Nat}{x:α}(h:(l++r)[i]? =some x):(i<l.length/\l[i]? =some x)\/(l.length<=i/\r[i-l.length]? =some x):=by
 rcases OI i l.length with h1|h1
 ·rw[OO h1]at h;exact .inl ⟨h1,h⟩
 ·rw[OU h1]at h;exact .inr ⟨h1,h⟩
def bS{α β:Type}{l:List β}{r:List α}{f:α->β}{i:Nat}{x:β}(h:(l++r.map f)[i]? =some x):(i<l.length/\l[i]? =some x)\/(l.length<=i/\∃ y,r[i-l.length]? =some y/\x=f y):=by
 rcases lW h with h|⟨h1,h2⟩
 ·exact .inl h
 ·rw[OT,P3]at h2;obtain⟨y,hy,rfl⟩:=h2;exact .inr ⟨h1,y,hy,J⟩
def eu{α β:Type}{l:List β}{r:List α}{f:α->β}{x:β}(h:x∈l++r.map f):x∈l\/∃ y∈r,x=f y:=by
 rcases OM.1 h with h|h
 ·exact .inl h
 ·obtain⟨y,hy,rfl⟩:=Ps.1 h;exact .inr ⟨y,hy,J⟩
def dF{α:Type}{l:List α}{i:Nat}{x:α}(h:l[i]? =some x):x∈l:=OD h
def GK(n:Int)(x y:Iv):fq (dA n x) (dA n y)=fq x y:=by
 have e:∀ a b:Int,ek (a+n) (b+n)=ek a b:=λ a b=>by
  unfold ek;by_cases h1:a<b
  ·rw[Ow h1,Ow (by omega)]
  ·rw[OB h1,OB (by omega)];by_cases h2:b<a
   ·rw[Ow h2,Ow (by omega)]
   ·rw[OB h2,OB (by omega)]
 unfold fq dA;simp only[e]
theorem okTx.cat{n m:Nat}{l r:List Iv}(hl:okTx n l)(hr:okTx m r)(hd:∀ x∈r,∀ y∈l,y.nm≠x.nm):okTx ((n+m:Nat):Int) (l++r.map (dA n)) where
 nm x hx:=by
  rcases eu hx with h|⟨y,hy,rfl⟩
  ·have:=hl.nm x h;exact⟨this.1,this.2.1,this.2.2.1,this.2.2.2.1,by have:=this.2.2.2.2;omega⟩
  ·have:=hr.nm y hy;exact⟨this.1,this.2.1,by unfold dA;simp only;omega,by unfold dA;simp only;omega,by unfold dA;simp only;omega⟩
 nd i j x y hx hy hji:=by
  rcases bS hx with⟨h1,h2⟩|⟨h1,z,hz,rfl⟩
  ·rcases bS hy with⟨h3,h4⟩|⟨h3,z',hz',rfl⟩
   ·exact hl.nd i j x y h2 h4 hji
   ·omega
  ·rcases bS hy with⟨h3,h4⟩|⟨h3,z',hz',rfl⟩
   ·exact hd z (dF hz) y (dF h4)
   ·exact hr.nd _ _ z z' hz hz' (by omega)
 first x hx:=by
  rcases bS hx with⟨h1,h2⟩|⟨h1,z,hz,rfl⟩
  ·exact hl.first x h2
  ·have h0:l=[]:=OW (by omega);have:=hl.none_.1 h0;rw[h0]at hz;have:=hr.first z hz;unfold dA;simp only;omega
 next i x y hx hy:=by
  rcases bS hx with⟨h1,h2⟩|⟨h1,z,hz,rfl⟩
  ·rcases bS hy with⟨h3,h4⟩|⟨h3,z',hz',rfl⟩
   ·exact hl.next i x y h2 h4
   ·have e1:=hl.last i x h2 (by omega);have:i+1-l.length=0:=by omega
    rw[this]at hz';have:=hr.first z' hz';unfold dA;simp only;omega
  ·rcases bS hy with⟨h3,h4⟩|⟨h3,z',hz',rfl⟩
   ·omega
   ·have e:i+1-l.length=i-l.length+1:=by omega
    rw[e]at hz';have:=hr.next _ z z' hz hz';unfold dA;simp only;omega
 last i x hx hi:=by
  simp only[AT,OC]at hi;rcases bS hx with⟨h1,h2⟩|⟨h1,z,hz,rfl⟩
  ·have h0:r=[]:=OW (by omega);have:=hr.none_.1 h0;have:=hl.last i x h2 (by omega);omega
  ·have:=hr.last _ z hz (by omega);unfold dA;simp only;omega
 none_:=by
  rw[Sp,map_eq_nil_iff,hl.none_,hr.none_];omega
theorem inT.left{l r:List Iv}{b e:Int}(h:inT l b e):inT (l++r) b e:=let ⟨t,ht,h'⟩:=h;⟨t,PO _ ht,h'⟩
theorem inT.right{l r:List Iv}{n b e:Int}(h:inT r b e):inT (l++r.map (dA n)) (b+n) (e+n):=let ⟨t,ht,h1,h2,h3⟩:=h
 ⟨dA n t,Qo _ (Pj ht),by unfold dA;simp only;omega,by omega,by unfold dA;simp only;omega⟩
theorem inT.bd{n b e:Int}{l:List Iv}(h:inT l b e)(ho:okTx n l):0<=b/\b<e/\e<=n:=by
 obtain⟨t,ht,h1,h2,h3⟩:=h;have:=(ho.nm t ht).2.2;omega
theorem okRg.cat{n m:Nat}{l r tl tr:List Iv}(ht:okTx n tl)(hs:okTx m tr)(hl:okRg tl l)(hr:okRg tr r):okRg (tl++tr.map (dA n)) (l++r.map (dA n)) where
 el x hx:=by
  rcases eu hx with h|⟨y,hy,rfl⟩
  ·have:=hl.el x h;exact⟨this.1,this.2.1.left,this.2.2⟩
  ·have:=hr.el y hy;exact⟨this.1,this.2.1.right,this.2.2⟩
 asc i x y hx hy:=by
  rcases bS hx with⟨h1,h2⟩|⟨h1,z,hz,rfl⟩
  ·rcases bS hy with⟨h3,h4⟩|⟨h3,z',hz',rfl⟩
   ·exact hl.asc i x y h2 h4
   ·have e1:=(hl.el x (dF h2)).2.1.bd ht;have e2:=(hr.el z' (dF hz')).2.1.bd hs;rw[GI (by unfold dA;simp only;omega)];omega
  ·rcases bS hy with⟨h3,h4⟩|⟨h3,z',hz',rfl⟩
   ·omega
   ·have e:i+1-l.length=i-l.length+1:=by omega
    rw[e]at hz';rw[GK];exact hr.asc _ z z' hz hz'
 nox x hx y hy:=by
  rcases eu hx with h|⟨z,hz,rfl⟩
  ·rcases eu hy with h'|⟨z',hz',rfl⟩
   ·exact hl.nox x h y h'
   ·have e1:=(hl.el x h).2.1.bd ht;have e2:=(hr.el z' hz').2.1.bd hs;exact .ends (by unfold dA;simp only;omega)
  ·rcases eu hy with h'|⟨z',hz',rfl⟩
   ·have e1:=(hl.el y h').2.1.bd ht;have e2:=(hr.el z hz).2.1.bd hs;exact noX.symm (.ends (by unfold dA;simp only;omega))
   ·intro e k;exact hr.nox z hz z' hz' e (by unfold dA at k;simp only at k;omega)
theorem okNd.cat{n m:Nat}{l r:List Nd}{tl tr:List Iv}(ht:okTx n tl)(hs:okTx m tr)(hl:okNd tl l)(hr:okNd tr r):okNd (tl++tr.map (dA n)) (l++r.map (qZ n l.length)) where
 el x hx:=by
  rcases eu hx with h|⟨y,hy,rfl⟩
  ·have:=hl.el x h;exact⟨this.1,this.2.left⟩
  ·have:=hr.el y hy;exact⟨this.1,this.2.right⟩
 par i x hx:=by
  rcases bS hx with⟨h1,h2⟩|⟨h1,z,hz,rfl⟩
  ·rcases hl.par i x h2 with h|⟨h,h0,hp⟩
   ·exact .inl h
   ·refine .inr ⟨h,h0,λ y hy=>hp y ?_⟩;rw[OO (by omega)]at hy;exact hy
  ·rcases hr.par _ z hz with h|⟨h,h0,hp⟩
   ·exact .inl (by unfold qZ;simp only;rw[OB (by omega)];exact h)
   ·refine .inr ⟨by unfold qZ;simp only;rw[Ow (by omega)];omega,by omega,λ y hy=>?_⟩;rcases bS hy with⟨h3,_⟩|⟨h3,z',hz',rfl⟩
    ·omega
    ·have e:i-1-l.length=i-l.length-1:=by omega
     rw[e]at hz';have:=hp z' hz';unfold qZ;simp only;rw[OB (by omega)];omega
 sib s i x y hy hx hsi hp:=by
  rcases bS hx with⟨h1,h2⟩|⟨h1,z,hz,rfl⟩
  ·rcases bS hy with⟨h3,h4⟩|⟨h3,z',hz',rfl⟩
   ·exact hl.sib s i x y h4 h2 hsi hp
   ·omega
  ·rcases bS hy with⟨h3,h4⟩|⟨h3,z',hz',rfl⟩
   ·have e1:=(hl.el y (dF h4)).2.bd ht;have e2:=(hr.el z (dF hz)).2.bd hs;unfold qZ;simp only;omega
   ·have q:=hr.sib _ _ z z' hz' hz (by omega) (by
     unfold qZ at hp;simp only at hp;have a1:=hr.par _ z hz;have a2:=hr.par _ z' hz';split at hp<;>split at hp<;>omega)
    unfold qZ;simp only;omega
structure okHw(n:Nat)(tx:List Iv)(hd:List Int)(rl:List ByteArray):Prop where
 len:hd.length=n/\rl.length=n
 el:∀ (i:Nat) h,hd[i]? =some h->h= -1\/∃ t∈tx,t.b<=i/\(i:Int)<t.e/\t.b<=h/\h<t.e
 nm:∀ s∈rl,s=ByteArray.empty\/aU s=true
 rk:∃ rank:Nat->Nat,∀ (i:Nat) h,hd[i]? =some h->0<=h->rank h.toNat<rank i
def okHw.none(n:Nat)(tx:List Iv):okHw n tx (List.replicate n (-1)) (List.replicate n ByteArray.empty):=by
 have e:∀ (i:Nat) (h:Int),(List.replicate n (-1:Int))[i]? =some h->h= -1:=λ i h hi=>(PR (dF hi));exact⟨by simp,λ i h hi=>.inl (e i h hi),λ s hs=>.inl (PR hs),λ _=>0,λ i h hi h0=>by have:=e i h hi;omega⟩
theorem okHw.cat{n m:Nat}{tl tr:List Iv}{hl hr:List Int}{rl rr:List ByteArray}(ht:okTx n tl)(hs:okTx m tr)(hL:okHw n tl hl rl)(hR:okHw m tr hr rr):okHw (n+m) (tl++tr.map (dA n)) (hl++hr.map (o6 n)) (rl++rr) where
 len:=by simp[hL.len,hR.len]
 el i h hi:=by
  rcases bS hi with⟨h1,h2⟩|⟨h1,z,hz,rfl⟩
  ·rcases hL.el i h h2 with h|⟨t,ht',h3⟩
   ·exact .inl h
   ·exact .inr ⟨t,PO _ ht',h3⟩
  ·rw[hL.len.1]at h1 hz;rcases hR.el _ z hz with h|⟨t,ht',h3,h4,h5,h6⟩
   ·exact .inl (by unfold o6;rw[OB (by omega)];exact h)
   ·have h0:=(hs.nm t ht').2.2.1;refine .inr ⟨dA n t,Qo _ (Pj ht'),?_⟩;unfold o6 dA;rw[Ow (by omega)];simp only;omega
 nm s hs':=by
  rcases OM.1 hs' with h|h
  ·exact hL.nm s h
  ·exact hR.nm s h
 rk:=by
  obtain⟨ra,hra⟩:=hL.rk;obtain⟨rb,hrb⟩:=hR.rk;refine⟨λ i=>if i<n then ra i else rb (i-n),λ i h hi h0=>?_⟩;rcases bS hi with⟨h1,h2⟩|⟨h1,z,hz,rfl⟩
  ·have:=hra i h h2 h0;have hin:h<(n:Int):=by
    rcases hL.el i h h2 with e|⟨t,ht',h3⟩
    ·omega
    ·have:=(ht.nm t ht').2.2.2.2;omega
   rw[hL.len.1]at h1;show(if h.toNat<n then ra h.toNat else rb (h.toNat-n))<if i<n then ra i else rb (i-n)
   rw[Ow (by omega),Ow h1];exact this
  ·rw[hL.len.1]at h1 hz;have hz0:0<=z:=by unfold o6 at h0;split at h0<;>omega
   have:=hrb _ z hz hz0;have e:o6 n z=z+n:=by unfold o6;rw[Ow hz0]
   show(if(o6 n z).toNat<n then ra (o6 n z).toNat else rb ((o6 n z).toNat-n))<if i<n then ra i else rb (i-n)
   rw[e,OB (by omega),OB (by omega)];have e2:(z+(n:Int)).toNat-n=z.toNat:=by omega
   rw[e2];exact this
def OkC.hw{k:Nat}{c:Co}(h:OkC k c):okHw c.tk.length c.tx (eE c) (fD c):=by
 unfold eE fD;rcases h.hd with⟨h1,h2⟩|h1
 ·rw[h1,OB (by simp),OB (by simp)];exact .none _ _
 ·by_cases h0:0<c.hd.length
  ·rw[Ow h0,Ow h0];exact⟨h1.len,h1.el,h1.nm,h1.rk⟩
  ·rw[OB h0,OB h0];exact .none _ _
theorem OkC.cat{j k:Nat}{a b c:Co}(ha:OkC j a)(hb:OkC k b)(he:a.at_=b.at_)(hd:∀ x∈b.tx,∀ y∈a.tx,y.nm≠x.nm)(hc:IsCat a b c):OkC (j+k) c where
 at_:=hc.at_▸ha.at_
 tk t ht:=by
  rw[hc.tk]at ht;rw[hc.at_];rcases OM.1 ht with h|h
  ·exact ha.tk t h
  ·rw[he];exact hb.tk t h
 voc t ht:=by
  rw[hc.tk]at ht;rcases OM.1 ht with h|h
  ·exact ha.voc t h
  ·exact hb.voc t h
 tx:=by rw[hc.tk,hc.tx,AT];exact ha.tx.cat hb.tx hd
 rg:=by rw[hc.tx,hc.rg];exact okRg.cat ha.tx hb.tx ha.rg hb.rg
 nd:=by rw[hc.tx,hc.nd];exact okNd.cat ha.tx hb.tx ha.nd hb.nd
 hd:=by
  rcases hc.hd with⟨h0,h1,h2⟩|⟨_,h1,h2⟩
  ·right;have hw:=okHw.cat ha.tx hb.tx ha.hw hb.hw;rw[hc.tk,hc.tx,h1,h2,AT];refine⟨hw.len,?_,hw.el,hw.nm,hw.rk⟩;rcases OI 0 a.hd.length with h3|h3
   ·rcases ha.hd with⟨h4,_⟩|h4
    ·rw[h4]at h3;simp at h3
    ·obtain⟨i,⟨h,hi,hne⟩|⟨s,hi,hne⟩⟩:=h4.bare
     ·refine⟨i,.inl ⟨h,?_,hne⟩⟩;unfold eE;rw[Ow h3,OO (sp.1 hi).1];exact hi
     ·refine⟨i,.inr ⟨s,?_,hne⟩⟩;unfold fD;rw[Ow h3,OO (sp.1 hi).1];exact hi
   ·have h3':0<b.hd.length:=by omega
    rcases hb.hd with⟨h4,_⟩|h4
    ·rw[h4]at h3';simp at h3'
    ·obtain⟨i,⟨h,hi,hne⟩|⟨s,hi,hne⟩⟩:=h4.bare
     ·refine⟨a.tk.length+i,.inl ⟨o6 a.tk.length h,?_,?_⟩⟩
      ·rw[OU (by rw[ha.hw.len.1];omega),ha.hw.len.1,PH,OT];unfold eE;rw[Ow h3',hi];rfl
      ·unfold o6;rcases h4.el i h hi with e|⟨t,ht,e⟩
       ·exact absurd e hne
       ·have:=(hb.tx.nm t ht).2.2.1;rw[Ow (by omega)];omega
     ·refine⟨a.tk.length+i,.inr ⟨s,?_,hne⟩⟩;rw[OU (by rw[ha.hw.len.2];omega),ha.hw.len.2,PH];unfold fD;rw[Ow h3',hi]
  ·exact .inl ⟨h1,h2⟩
 ntk:=by rw[hc.tk,AT];have:=ha.ntk;have:=hb.ntk;omega
 ntx:=by rw[hc.tx,AT,OC];have:=ha.ntx;have:=hb.ntx;omega
 nrg:=by rw[hc.rg,AT,OC];have:=ha.nrg;have:=hb.nrg;omega
 nnd:=by rw[hc.nd,AT,OC];have:=ha.nnd;have:=hb.nnd;omega
def xQ(l:List Iv):Prop:=∀ (i:Nat) x y,l[i]? =some x->l[i+1]? =some y->fq x y<=0
def DC:xQ []:=λ i x y h=>by simp at h
def DD{m:List Iv}{x:Iv}{k:Nat}(h:xQ m)(hk:k<=m.length)(h1:∀ y,0<k->m[k-1]? =some y->fq y x<=0)(h2:∀ y,m[k]? =some y->0<fq y x):xQ (m.take k++x::m.drop k):=by
 have hl:(m.take k).length=k:=by rw[M2];omega
 intro i a b ha hb;rcases lW ha with⟨c1,c2⟩|⟨c1,c2⟩
 ·rw[hl]at c1;rw[Pg,Ow (by omega)]at c2;rcases lW hb with⟨d1,d2⟩|⟨d1,d2⟩
  ·rw[hl]at d1;rw[Pg,Ow (by omega)]at d2;exact h i a b c2 d2
  ·rw[hl]at d1 d2;have e:i+1-k=0:=by omega
   rw[e]at d2;cases d2;have e2:k-1=i:=by omega
   exact h1 a (by omega) (e2▸c2)
 ·rw[hl]at c1 c2;rcases lW hb with⟨d1,d2⟩|⟨d1,d2⟩
  ·rw[hl]at d1;omega
  ·rw[hl]at d1 d2;rcases PB (i-k)with e|e
   ·rw[e]at c2;cases c2;have e2:i+1-k=1:=by omega
    rw[e2]at d2;simp only[QH,Q0,PZ]at d2;have:=h2 b d2;rw[Bq];omega
   ·obtain⟨j,hj⟩:∃ j,i-k=j+1:=⟨i-k-1,by omega⟩;have e2:i+1-k=j+2:=by omega
    rw[hj]at c2;rw[e2]at d2;simp only[QH,Q0]at c2 d2;exact h _ a b c2 (by rw[Qi];exact d2)
def DE{α:Type}(m l:List α)(x:α)(k:Nat)(h:m.Perm l):(m.take k++x::m.drop k).Perm (l++[x]):=by
 have h1:(m.take k++x::m.drop k).Perm (x::m):=by
  refine Sv.trans ?_;rw[P0]
 refine h1.trans ((h.cons x).trans ?_);exact(perm_append_singleton x l).symm
structure ndI(at_:Int)(l:List Nd):Prop where
 el:∀ x∈l,aU x.nm=true/\0<=x.b/\x.b<x.e/\x.e<=at_
 par:∀ (i:Nat) x,l[i]? =some x->x.p= -1\/(x.p+1=i/\0<i/\∀ y,l[i-1]? =some y->y.p= -1/\y.b<=x.b/\x.e<=y.e)
 sib:∀ (s i:Nat) x y,l[s]? =some y->l[i]? =some x->s<i->y.p=x.p->y.e<=x.b
def GL(z:Int):ndI z []:=⟨by simp,by simp,by simp⟩
def fu{α:Type}{l:List α}{i:Nat}{x y:α}(h:(l++[y])[i]? =some x):(i<l.length/\l[i]? =some x)\/(i=l.length/\x=y):=by
 rcases lW h with h|⟨h1,h2⟩
 ·exact .inl h
 ·have:=(sp.1 h2).1;have e:i-l.length=0:=by simp at this;omega
  rw[e]at h2;cases h2;exact .inr ⟨by omega,J⟩
def ndI.top{at_ b e:Int}{l:List Nd}{nm:ByteArray}(h:ndI at_ l)(hn:aU nm=true)(h0:0<=at_)(h1:at_<=b)(h2:b<e):ndI e (l++[⟨nm,b,e,-1⟩]) where
 el x hx:=by
  rcases OM.1 hx with hx|hx
  ·have:=h.el x hx;exact⟨this.1,by omega,by omega,by omega⟩
  ·rw[OF.1 hx];exact⟨hn,by simp only;omega,h2,Int.le_refl _⟩
 par i x hx:=by
  rcases fu hx with⟨c1,c2⟩|⟨c1,rfl⟩
  ·rcases h.par i x c2 with q|⟨q1,q2,q3⟩
   ·exact .inl q
   ·exact .inr ⟨q1,q2,λ y hy=>q3 y (by rw[OO (by omega)]at hy;exact hy)⟩
  ·exact .inl J
 sib s i x y hy hx hsi hp:=by
  rcases fu hx with⟨c1,c2⟩|⟨c1,rfl⟩
  ·rcases fu hy with⟨d1,d2⟩|⟨d1,rfl⟩
   ·exact h.sib s i x y d2 c2 hsi hp
   ·omega
  ·rcases fu hy with⟨d1,d2⟩|⟨d1,rfl⟩
   ·have:=h.el y (dF d2);simp only;omega
   ·omega
def ndI.NS{at_ b e c d:Int}{l:List Nd}{nm lm:ByteArray}(h:ndI e (l++[⟨nm,b,e,-1⟩]))(hn:aU lm=true)(h1:b<=c)(h2:c<d)(h3:d<=e):ndI e ((l++[⟨nm,b,e,-1⟩])++[⟨lm,c,d,l.length⟩]) where
 el x hx:=by
  rcases OM.1 hx with hx|hx
  ·exact h.el x hx
  ·rw[OF.1 hx];have:=h.el ⟨nm,b,e,-1⟩ (by simp);exact⟨hn,by simp only at this⊢;omega,h2,h3⟩
 par i x hx:=by
  rcases fu hx with⟨c1,c2⟩|⟨c1,rfl⟩
  ·rcases h.par i x c2 with q|⟨q1,q2,q3⟩
   ·exact .inl q
   ·exact .inr ⟨q1,q2,λ y hy=>q3 y (by rw[OO (by omega)]at hy;exact hy)⟩
  ·simp only[AT,KV]at c1;refine .inr ⟨by simp only;omega,by omega,λ y hy=>?_⟩;have e1:i-1=l.length:=by omega
   rw[e1,No,OU (KP _),PX]at hy;cases hy;exact⟨J,h1,h3⟩
 sib s i x y hy hx hsi hp:=by
  rcases fu hx with⟨c1,c2⟩|⟨c1,rfl⟩
  ·rcases fu hy with⟨d1,d2⟩|⟨d1,rfl⟩
   ·exact h.sib s i x y d2 c2 hsi hp
   ·omega
  ·rcases fu hy with⟨d1,d2⟩|⟨d1,rfl⟩
   ·simp only[AT,KV]at c1 d1;simp only at hp;rcases h.par s y d2 with q|⟨q1,q2,_⟩<;>omega
   ·omega
theorem ndI.ok{at_ n:Int}{l:List Nd}{t:Iv}(h:ndI at_ l)(h1:at_<=n)(ht:t.b=0)(he:t.e=n):okNd [t] l:=
 ⟨λ x hx=>⟨(h.el x hx).1,t,by simp,by have:=h.el x hx;omega,by have:=h.el x hx;omega,by have:=h.el x hx;omega⟩,h.par,h.sib⟩
structure ordI(i:Nat)(o:List Nat):Prop where
 nd:o.Nodup
 len:o.length=i
 lt:∀ x∈o,x<i
 all:∀ x,x<i->x∈o
def DF:ordI 0 []:=⟨by simp,J,by simp,by simp⟩
theorem ordI.ins{i:Nat}{o:List Nat}(h:ordI i o)(k:Nat)(hk:k<=i):ordI (i+1) (o.take k++[i]++o.drop k):=by
 have hp:(o.take k++[i]++o.drop k).Perm (i::o):=by
  rw[No,Su];refine Sv.trans ?_;rw[P0]
 refine⟨hp.nodup_iff.2 (nodup_cons.2 ⟨λ hm=>by have:=h.lt i hm;omega,h.nd⟩),by rw[hp.length_eq,KW,h.len],λ x hx=>?_,λ x hx=>hp.mem_iff.2 (LD.2 ((OI x i).elim (λ q=>.inr (h.all x q)) λ q=>.inl (by omega)))⟩;rcases LD.1 (hp.mem_iff.1 hx)with rfl|hx
 ·omega
 ·have:=h.lt x hx;omega
structure hdI(n:Nat)(o:List Nat)(j:Nat)(hd:List Int)(rl:List ByteArray)(some_:Bool):Prop where
 len:hd.length=n/\rl.length=n
 el:∀ (r x:Nat),r<j->o[r]? =some x->hd[x]? =some (-1)\/∃ (q y:Nat),q<r/\o[q]? =some y/\hd[x]? =some (y:Int)
 nm:∀ s∈rl,s=ByteArray.empty\/aU s=true
 bare:some_=true->∃ r x:Nat,r<j/\o[r]? =some x/\((∃ h,hd[x]? =some h/\h≠-1)\/∃ s,rl[x]? =some s/\s≠ByteArray.empty)
def Br{n:Nat}{o:List Nat}:hdI n o 0 (List.replicate n 0) (List.replicate n ByteArray.empty) false:=
 ⟨by simp,λ r x h=>absurd h (by omega),λ s hs=>.inl (PR hs),λ h=>by cases h⟩
def lX{α:Type}{l:List α}{i j:Nat}{x:α}(h:i<l.length):(l.set i x)[j]? =if i=j then some x else l[j]? :=by
 by_cases e:i=j
 ·subst e;rw[Ow J,P4 h]
 ·rw[OB e,Q7 e]
def rW{α:Type}{l:List α}(h:l.Nodup):∀ {i j:Nat} {x:α},l[i]? =some x->l[j]? =some x->i=j:=by
 induction l with
 |nil=>intro i j x hi;simp at hi
 |cons a l ih=>
  intro i j x hi hj;obtain⟨h1,h2⟩:=nodup_cons.1 h;cases i with
  |zero=>
   cases j with
   |zero=>rfl
   |succ j=>simp at hi hj;subst hi;exact absurd (dF hj) h1
  |succ i=>
   cases j with
   |zero=>simp at hi hj;subst hj;exact absurd (dF hi) h1
   |succ j=>simp at hi hj;exact If (· +1) (ih h2 hi hj)
theorem hdI.step{n:Nat}{o:List Nat}{j x:Nat}{hd:List Int}{rl:List ByteArray}{s1 s2:Bool}(h:hdI n o j hd rl s1)(ho:ordI n o)(hx:o[j]? =some x)(v:Int)(s:ByteArray)(hv:v= -1\/∃ q y:Nat,q<j/\o[q]? =some y/\v=(y:Int))(hs:s=ByteArray.empty\/aU s=true)
  (hb:s2=true->s1=true\/v≠-1\/s≠ByteArray.empty):hdI n o (j+1) (hd.set x v) (rl.set x s) s2:=by
 have hxn:=ho.lt x (dF hx);have hne:∀ r y:Nat,r<j->o[r]? =some y->x≠y:=λ r y hr hy e=>by
  subst e;have:=rW ho.nd hx hy;omega
 refine⟨by simp[h.len],λ r y hr hy=>?_,λ t ht=>?_,λ h2=>?_⟩
 ·rw[lX (by rw[h.len.1];exact hxn)];rcases OI r j with h3|h3
  ·rw[OB (hne r y h3 hy)];exact h.el r y h3 hy
  ·have e:r=j:=by omega
   subst e;rw[hx]at hy;cases hy;rw[Ow J];rcases hv with rfl|⟨q,z,hq,hz,rfl⟩
   ·exact .inl J
   ·exact .inr ⟨q,z,hq,hz,J⟩
 ·rcases Qf ht with ht|rfl
  ·exact h.nm t ht
  ·exact hs
 ·rcases hb h2 with h3|h3
  ·obtain⟨r,y,hr,hy,h4⟩:=h.bare h3;refine⟨r,y,by omega,hy,?_⟩;rw[lX (by rw[h.len.1];exact hxn),lX (by rw[h.len.2];exact hxn),OB (hne r y hr hy),OB (hne r y hr hy)];exact h4
  ·refine⟨j,x,by omega,hx,?_⟩;rw[lX (by rw[h.len.1];exact hxn),lX (by rw[h.len.2];exact hxn),Ow J,Ow J];rcases h3 with h3|h3
   ·exact .inl ⟨v,J,h3⟩
   ·exact .inr ⟨s,J,h3⟩
theorem hdI.ok{n:Nat}{o:List Nat}{hd:List Int}{rl:List ByteArray}{t:Iv}(h:hdI n o n hd rl true)(ho:ordI n o)(ht:t.b=0)(he:t.e=n):okHd n [t] hd rl where
 len:=h.len
 bare:=by
  obtain⟨r,x,_,_,h4⟩:=h.bare J;exact⟨x,h4⟩
 el i v hi:=by
  have hin:=(sp.1 hi).1;rw[h.len.1]at hin;obtain⟨r,hr⟩:=OV (ho.all i hin);have hrn:=(sp.1 hr).1;rw[ho.len]at hrn;rcases h.el r i hrn hr with e|⟨q,y,hq,hy,e⟩
  ·rw[hi]at e;cases e;exact .inl J
  ·rw[hi]at e;cases e;have:=ho.lt y (dF hy);exact .inr ⟨t,by simp,by omega,by omega,by omega,by omega⟩
 nm:=h.nm
 rk:=by
  refine⟨λ x=>o.idxOf x,λ i v hi h0=>?_⟩;have hin:=(sp.1 hi).1;rw[h.len.1]at hin;obtain⟨r,hr⟩:=OV (ho.all i hin);have hrn:=(sp.1 hr).1;rw[ho.len]at hrn;have ix:∀ (x k:Nat),o[k]? =some x->o.idxOf x=k:=λ x k hk=>by
   have hm:=dF hk;have hl:=idxOf_lt_length_of_mem hm;have h5:o[o.idxOf x]? =some x:=by rw[py hl,getElem_idxOf hl]
   exact rW ho.nd h5 hk
  show o.idxOf v.toNat<o.idxOf i;rw[ix i r hr];rcases h.el r i hrn hr with e|⟨q,y,hq,hy,e⟩
  ·rw[hi]at e;cases e;omega
  ·rw[hi]at e;cases e;show o.idxOf ((y:Int)).toNat<r;rw[Qb,ix y q hy];exact hq
def tu(s:List UInt8):Bool:=s.all λ c=>decide (32<=c.toNat/\c.toNat<127)
def o7{s:List UInt8}(h:tu s=true):∀ (k i:Nat),s.length-i<=k->∀ u∈dr s i,32<=u.r/\u.r<127
 |0,i,hk,u,hu=>by rw[gi (by omega)]at hu;cases hu
 |k+1,i,hk,u,hu=>by
  rcases OI i s.length with hi|hi
  ·have hg:=Pn.1 h _ (Sa hi);have hg:=Pl hg;have hd:dec (s.drop i)=((s[i]).toNat,1):=by
    unfold dec;have e:gb (s.drop i) 0=(s[i]).toNat:=by rw[lT,PZ];unfold gb;rw[LW,py hi];rfl
    rw[e];unfold Lib.decodeN;rw[Ow (by omega)]
   rw[iA hi,hd]at hu;rcases LD.1 hu with rfl|hu
   ·exact⟨hg.1,hg.2⟩
   ·exact o7 h k _ (by omega) u hu
  ·rw[gi (by omega)]at hu;cases hu
def lY{s:ByteArray}(h1:s.size<=120)(h:tu s.data.toList=true):iX s=true:=by
 have hu:∀ u∈fY s.data.toList,32<=u.r/\u.r<127:=o7 h _ 0 (KP _);unfold iX;rw[OL h1,RV,OK,OK];refine⟨Pn.2 λ u hm=>?_,Pn.2 λ u hm=>?_,Pn.2 λ c hm=>?_⟩
 ·have:=hu u hm;unfold Un.ok;rw[Bool.or_eq_true];left;exact bne_iff_ne.2 (by omega)
 ·have:=hu u hm;exact OL ⟨by omega,by omega⟩
 ·have:=Pl (Pn.1 h c hm);exact OL ⟨this.1,by omega⟩
def cx:List (ByteArray×Bool):=[(ByteArray.mk #[119,111,114,100],false),(ByteArray.mk #[116,97,103],false),(ByteArray.mk #[102,101,97,116],true)]
def Bs:∀ s∈nr,iX s=true:=λ s hs=>by
 refine lY ?_ ?_
 ·exact(by decide:∀ s∈nr.map (·.size),s<=120) _ (Pj hs)
 ·exact(by decide:∀ s∈nr.map (λ s=>tu s.data.toList),s=true) _ (Pj (f:=λ s:ByteArray=>tu s.data.toList) hs)
def DG:∀ s∈rV,iX s=true:=λ s hs=>by
 refine lY ?_ ?_
 ·exact(by decide:∀ s∈rV.map (·.size),s<=120) _ (Pj hs)
 ·exact(by decide:∀ s∈rV.map (λ s=>tu s.data.toList),s=true) _ (Pj (f:=λ s:ByteArray=>tu s.data.toList) hs)
def JW:List (List UInt8)->Bool
 |x::y::r=>decide (x<y)&&JW (y::r)
 |_=>true
def vb:∀ (l:List (List UInt8)),JW l=true->∀ (i:Nat) x y,l[i]? =some x->l[i+1]? =some y->x<y
 |[],_,i,x,y,hx,_=>by simp at hx
 |[a],_,i,x,y,_,hy=>by simp at hy
 |a::b::r,h,0,x,y,hx,hy=>by
  simp at hx hy;subst hx hy;exact Pl (OK _ _▸h).1
 |a::b::r,h,i+1,x,y,hx,hy=>vb (b::r) (OK _ _▸h).2 i x y hx hy
def GM(s:List UInt8):Bool:=decide (s[0]? =some 124)&&(decide (s[s.length-1]? =some 124)&&(((List.range s.length).all λ i=>decide (1<=i->s[i]? =some 124->(oy s i).1≠i))&&JW (oy s s.length).2))
def GN{s:ByteArray}(h:iX s=true)(ht:GM s.data.toList=true):yY s:=by
 unfold GM at ht;simp only[OK,PI,Pn,mem_range]at ht;obtain⟨h1,h2,h3,h4⟩:=ht;exact⟨h,h1,h2,λ i hi hs=>h3 i (sp.1 hs).1 hi hs,vb _ h4⟩
def Bt:∀ s∈l1,yY s:=λ s hs=>by
 refine GN (lY ?_ ?_) ?_
 ·exact(by decide:∀ s∈l1.map (·.size),s<=120) _ (Pj hs)
 ·exact(by decide:∀ s∈l1.map (λ s=>tu s.data.toList),s=true) _ (Pj (f:=λ s:ByteArray=>tu s.data.toList) hs)
 ·exact(by decide:∀ s∈l1.map (λ s=>GM s.data.toList),s=true) _ (Pj (f:=λ s:ByteArray=>GM s.data.toList) hs)
def ve:atsOk cx:=by
 refine⟨λ i x hx=>?_,by decide,by decide⟩;have hi:=(sp.1 hx).1;have hi:i<3:=hi;rcases(by omega:i=0\/i=1\/i=2)with rfl|rfl|rfl<;>(cases hx;exact⟨by decide,by decide⟩)
def JX(ns:List ByteArray):Prop:=∃ a b c,ns=[a,b,c]/\a∈nr/\b∈rV/\c∈l1
def GO{ns:List ByteArray}(h:JX ns):ns.length=cx.length/\∀ (i:Nat) v a,ns[i]? =some v->cx[i]? =some a->okV a v:=by
 obtain⟨a,b,c,rfl,ha,hb,hc⟩:=h;refine⟨J,λ i v x hv hx=>?_⟩;have hi:i<3:=(sp.1 hv).1;rcases(by omega:i=0\/i=1\/i=2)with rfl|rfl|rfl
 ·cases hv;cases hx;exact⟨λ _=>Bs _ ha,λ h=>by cases h⟩
 ·cases hv;cases hx;exact⟨λ _=>DG _ hb,λ h=>by cases h⟩
 ·cases hv;cases hx;exact⟨(λ h=>by cases h),λ _=>Bt _ hc⟩
def Od(n:Int)(x:Iv):Prop:=aU x.nm=true/\okPs x.ps/\0<=x.b/\x.b<x.e/\x.e<=n
def JY{c:Co}{n:Nat}{t:Iv}{at_:Int}(h0:0<n)(h1:n<=12)(ha:c.at_=cx)(hl:c.tk.length=n)(hk:∀ t∈c.tk,JX t.ns)(hx:c.tx=[t])(tb:t.b=0)(te:t.e=n)(tn:aU t.nm=true)(tp:okPs t.ps)
  (hr:∀ x∈c.rg,Od n x) (hs:xQ c.rg) (hX:∀ x∈c.rg,∀ y∈c.rg,noX x y) (hm:c.rg.length<=8) (hn:ndI at_ c.nd) (hat:at_<=n) (hnl:c.nd.length<=8) (hh:(c.hd=[]/\c.rl=[])\/okHd n [t] c.hd c.rl):OkC 1 c where
 at_:=ha▸ve
 tk t ht:=by rw[ha];exact GO (hk t ht)
 voc t ht i v hv:=by
  obtain⟨a,b,e,h9,h1,h2,h3⟩:=hk t ht;rw[h9]at hv;have hi:i<3:=(sp.1 hv).1;rcases(by omega:i=0\/i=1\/i=2)with rfl|rfl|rfl
  ·cases hv;exact PO _ h1
  ·cases hv;exact h2
  ·cases hv;exact h3
 tx:=by
  rw[hx,hl];have g1:∀ {i:Nat} {x:Iv},[t][i]? =some x->i=0/\x=t:=λ{i x} h=>by
   cases i with
   |zero=>cases h;exact⟨J,J⟩
   |succ i=>simp at h
  refine⟨λ x hx=>?_,λ i j x y hx hy hji=>?_,λ x h=>(g1 h).2▸tb,λ i x y hx hy=>?_,λ i x h _=>(g1 h).2▸te,?_⟩
  ·rw[OF.1 hx];exact⟨tn,tp,by omega,by omega,by omega⟩
  ·have:=g1 hx;omega
  ·have:=g1 hy;omega
  ·constructor
   ·intro h;cases h
   ·intro h;omega
 rg:=by
  rw[hx];refine⟨λ x hm=>?_,hs,hX⟩;have:=hr x hm;exact⟨this.1,⟨t,by simp,by have:=this.2.2;omega,by have:=this.2.2;omega,by have:=this.2.2;omega⟩,this.2.1⟩
 nd:=hx▸hn.ok (by omega) tb te
 hd:=by rw[hl,hx];exact hh
 ntk:=by omega
 ntx:=by rw[hx];exact KP _
 nrg:=by omega
 nnd:=by omega
def qP:Nat->Nat->List Nat
 |0,v=>[v%256]
 |f+1,v=>if v<128 then[v%256]else(v%256|||128)::qP f (v/128)
def uv(v:Nat):List Nat:=qP 9 v
def vf:∀ (f v:Nat),v<128^(f+1)->qP (f+1) v=qP f v
 |0,v,h=>by simp only[qP];rw[Ow (by omega)]
 |f+1,v,h=>by
  have h2:v/128<128^(f+1):=by rw[PG]at h;omega
  rw[qP]
  conv=>rhs;rw[qP]
  rw[vf f (v/128) h2]
def GP(v:Nat)(hv:v<2^64)(h:128<=v):uv v=(v%2^8|||128)::uv (v/2^7):=by
 unfold uv;rw[vf 8 (v/2^7) (by omega)];rw[qP,OB (by omega)]
def DH(v:Nat)(h:v<128):uv v=[v%2^8]:=by unfold uv;rw[qP,Ow h]
def DI:∀ (f v:Nat),(qP f v).length<=f+1
 |0,v=>by simp[qP]
 |f+1,v=>by
  rw[qP];split
  ·simp
  ·simp;exact DI f _
def aN(v:Nat):(uv v).length<=10:=DI 9 v
def GQ:∀ (f v:Nat),1<=(qP f v).length
 |0,v=>by simp[qP]
 |f+1,v=>by rw[qP];split<;>simp
def DJ(v:Nat):1<=(uv v).length:=GQ 9 v
def DK:∀ (f v:Nat),∀ x∈qP f v,x<256
 |0,v=>by simp[qP];omega
 |f+1,v=>by
  rw[qP];split
  ·simp;omega
  ·intro x hx;rcases LD.1 hx with rfl|hx
   ·exact Rb (n:=8) (by omega) (by omega)
   ·exact DK f _ x hx
def fw(v:Nat):∀ x∈uv v,x<256:=DK 9 v
def gl(b:Bool)(m:Nat):Nat:=if b then m else 0
def cz(l:List Bool)(i:Nat):Bool:=l.getD i false
def dc(l:List Bool)(k:Nat):Nat:=
 gl (cz l (8*k)) 128|||(gl (cz l (8*k+1)) 64|||(gl (cz l (8*k+2)) 32|||(gl (cz l (8*k+3)) 16|||
  (gl (cz l (8*k+4)) 8|||(gl (cz l (8*k+5)) 4|||(gl (cz l (8*k+6)) 2|||gl (cz l (8*k+7)) 1))))))
def bE(l:List Bool):List Nat:=(List.range ((l.length+7)/8)).map (dc l)
def bV(l:List Bool):(bE l).length=(l.length+7)/8:=by simp[bE]
def pR(l:List Bool)(x:Bool)(i:Nat):cz (l++[x]) i=if i=l.length then x else cz l i:=by
 unfold cz;simp only[LW];rcases Qr i l.length with h|h|h
 ·rw[OO h,OB (by omega)]
 ·subst h;simp
 ·rw[OB (by omega),OX (by simp;omega),OX (by omega)]
def dG(l:List Bool)(i:Nat)(h:l.length<=i):cz l i=false:=by
 unfold cz;rw[LW,OX h];rfl
def o8(l:List Bool)(x:Bool)(k:Nat):dc (l++[x]) k=if k=l.length/8 then dc l k|||gl x (128/2^(l.length%8))else dc l k:=by
 by_cases hk:k=l.length/8
 ·rw[Ow hk];have hr:l.length%8<8:=R4 _ (by decide);have hn:l.length=8*k+l.length%8:=by omega
  have out:∀ j,l.length%8<=j->cz l (8*k+j)=false:=λ j hj=>dG l _ (by omega);unfold dc;simp only[pR];have z0:=out 0;have z1:=out 1;have z2:=out 2;have z3:=out 3;have z4:=out 4;have z5:=out 5;have z6:=out 6;have z7:=out 7;rw[PZ]at z0;generalize l.length%8=r at*;have hcase:r=0\/r=1\/r=2\/r=3\/r=4\/r=5\/r=6\/r=7:=by omega
  rcases hcase with rfl|rfl|rfl|rfl|rfl|rfl|rfl|rfl<;>
   simp[hn,z0,z1,z2,z3,z4,z5,z6,z7,gl,Nat.or_assoc]
 ·rw[OB hk];have e:∀ j,j<8->cz (l++[x]) (8*k+j)=cz l (8*k+j):=λ j hj=>by rw[pR,OB (by omega)]
  unfold dc;rw[show cz (l++[x]) (8*k)=cz l (8*k)from e 0 (by omega),e 1 (by omega),e 2 (by omega),e 3 (by omega),e 4 (by omega),e 5 (by omega),e 6 (by omega),e 7 (by omega)]
def xR(l:List Bool)(k:Nat)(h:l.length<=8*k):dc l k=0:=by
 unfold dc;simp[dG l (8*k) (by omega),dG l (8*k+1) (by omega),dG l (8*k+2) (by omega),dG l (8*k+3) (by omega),dG l (8*k+4) (by omega),dG l (8*k+5) (by omega),
  dG l (8*k+6) (by omega),dG l (8*k+7) (by omega),gl]
def rX(l:List Bool)(k:Nat):dc l k<256:=by
 have h:∀ (b:Bool) (m:Nat),m<256->gl b m<2^8:=λ b m hm=>by cases b<;>simp[gl,hm]
 unfold dc;have:=λ a b (h1:a<2^8) (h2:b<2^8)=>Rb h1 h2;exact this _ _ (h _ _ (by decide)) (this _ _ (h _ _ (by decide)) (this _ _ (h _ _ (by decide)) (this _ _ (h _ _ (by decide)) (this _ _ (h _ _ (by decide)) (this _ _ (h _ _ (by decide)) (this _ _ (h _ _ (by decide)) (h _ _ (by decide))))))))
def pS(l:List Bool):∀ x∈bE l,x<256:=λ x hx=>by
 obtain⟨k,_,rfl⟩:=Ps.1 hx;exact rX l k
def bZ(x:Nat):Nat->List Bool
 |0=>[]
 |m+1=>decide (x/2^m%2^1=1)::bZ x m
def aK(x:Nat):∀ m,(bZ x m).length=m
 |0=>rfl
 |m+1=>by simp[bZ,aK x m]
def aB{α:Type}{l:List α}{k:Nat}{x:α}(h:l[k]? =some x):l.take (k+1)=l.take k++[x]:=by
 rw[QF,h];rfl
def dH{α:Type}{l:List α}{k:Nat}{x:α}(h:l[k]? =some x):k<l.length:=(sp.1 h).1
def a6{α:Type}{l:List α}{k:Nat}{x:α}(h:l[k]? =some x):x∈l:=OD h
def bitLenAux_le:∀ (f v n:Nat),v<2^n->Lib.bitLenAux f v<=n
 |0,_,_,_=>IN _
 |f+1,v,n,h=>by
  unfold Lib.bitLenAux;split
  ·exact IN _
  ·cases n with
   |zero=>simp at h;omega
   |succ n=>
    have:=bitLenAux_le f (v/2) n (by rw[PG]at h;omega);omega
def bitLen_le{v n:Nat}(h:v<2^n):Lib.bitLen v<=n:=bitLenAux_le 64 v n h
def gM:∀ (f v:Nat),Lib.bitLenAux f v<=f
 |0,_=>KP _
 |f+1,v=>by unfold Lib.bitLenAux;split;(omega);(have:=gM f (v/2);omega)
def bitLen_le64(v:Nat):Lib.bitLen v<=64:=gM 64 v
theorem okTx.le{n:Int}{l:List Iv}(h:okTx n l):∀ (d i:Nat) x y,l[i]? =some x->l[i+d+1]? =some y->x.e<=y.b
 |0,i,x,y,hx,hy=>by have:=h.next i x y hx hy;omega
 |d+1,i,x,y,hx,hy=>by
  have hl:=(sp.1 hy).1;obtain⟨z,hz⟩:∃ z,l[i+d+1]? =some z:=⟨_,py (by omega)⟩;have h1:=okTx.le h d i x z hx hz;have h2:=h.next (i+d+1) z y hz hy;have h3:=(h.nm z (a6 hz)).2.2;omega
def okTx.uniq{n:Int}{l:List Iv}(h:okTx n l){i j:Nat}{x y:Iv}{p:Int}(hx:l[i]? =some x)(hy:l[j]? =some y)(h1:x.b<=p/\p<x.e)(h2:y.b<=p/\p<y.e):i=j:=by
 rcases Qr i j with q|q|q
 ·have:=h.le (j-i-1) i x y hx (by rw[show i+(j-i-1)+1=j by omega];exact hy);omega
 ·exact q
 ·have:=h.le (i-j-1) j y x hy (by rw[show j+(i-j-1)+1=i by omega];exact hx);omega
def okTx.lens{n:Nat}{l:List Iv}(h:okTx n l):(!(decide (l.length=0)==decide (n=0)))=false:=by
 have h1:=h.none_;by_cases q:n=0
 ·have:l=[]:=h1.2 (by omega);subst this;simp[q]
 ·have:l.length≠0:=λ e=>q (by have:=h1.1 (OW e);omega);simp[q,this]
theorem atsOk.no{l:List (ByteArray×Bool)}(h:atsOk l){k j:Nat}{x y:ByteArray×Bool}(hx:l[k]? =some x)(hy:((l.take k).drop 0)[j]? =some y):y.1≠x.1:=λ e=>by
 have h1:=(h.1 k x hx).2;rw[any_eq_false]at h1;exact h1 y (by rw[PK]at hy;exact a6 hy) (by simpa using e)
def JZ{l:List (ByteArray×Bool)}(h:atsOk l){k j:Nat}{x y:ByteArray×Bool}(hx:l[k]? =some x)(hy:((l.take k).drop 0)[j]? =some y):y.1≠x.1:=h.no hx hy
def pT{α:Type}{l:List α}{k j:Nat}{y:α}(h:((l.take k).drop 0)[j]? =some y):j<k/\l[j]? =some y:=by
 rw[PK,Pg]at h;split at h
 ·exact⟨by assumption,h⟩
 ·cases h
def GR{n:Int}{l:List Iv}(h:okTx n l){t x y:Iv}{i j:Nat}{p q:Int}(ht:t∈l)(hx:l[i]? =some x)(hy:l[j]? =some y)(h1:t.b<=p/\p<t.e)(h2:t.b<=q/\q<t.e)(h3:x.b<=p/\p<x.e)(h4:y.b<=q/\q<y.e):i=j:=by
 obtain⟨m,hm⟩:=OV ht;rw[<-h.uniq hm hx h1 h3,<-h.uniq hm hy h2 h4]
structure HdF(n:Nat)(hd:List Int):Prop where
 rg:∀ (i:Nat) h,hd[i]? =some h->h= -1\/(0<=h/\h<(hd.length:Int))
 rk:∃ rank:Nat->Nat,∀ (i:Nat) h,hd[i]? =some h->0<=h->rank h.toNat<rank i
def OkC.Ot{n:Nat}{c:Co}(h:OkC n c):HdF c.tk.length c.hd:=by
 rcases h.hd with⟨e,_⟩|q
 ·rw[e];exact⟨λ i h hh=>by simp at hh,⟨id,λ i h hh=>by simp at hh⟩⟩
 ·refine⟨λ i x hx=>(q.el i x hx).elim .inl λ⟨t,ht,h1,h2,h3,h4⟩=>.inr ?_,q.rk⟩;have:=(h.tx.nm t ht).2.2;rw[q.len.1];omega
def OkC.hZ{n:Nat}{c:Co}(h:OkC n c):c.hd.length=c.rl.length/\(0<c.hd.length->okHd c.tk.length c.tx c.hd c.rl):=by
 rcases h.hd with⟨e,e2⟩|q
 ·rw[e,e2];exact⟨J,λ h=>by simp at h⟩
 ·exact⟨by rw[q.len.1,q.len.2],λ _=>q⟩
def lZ{α:Type}{l:List α}{k:Nat}{x:α}{Q:Nat->α->Prop}(hno:∀ (j:Nat) t,j<k->l[j]? =some t->Q j t)(hx:l[k]? =some x)(h:Q k x):∀ (j:Nat) t,j<k+1->l[j]? =some t->Q j t:=λ j t hj ht=>by
 rcases OI j k with q|q
 ·exact hno j t q ht
 ·have e:j=k:=by omega
  subst e;rw[hx]at ht;cases ht;exact h
def DL{dp:List Nat}{k d:Nat}(hdp:∀ (q:Nat) d,dp[q]? =some d->d<=q+1/\(k<=q->d=0))(hd:d<=k):(∀ (q:Nat) e,(dp.set k d)[q]? =some e->q≠k->e<=q+1/\(k<=q->e=0))/\∀ e,(dp.set k d)[k]? =some e->e<=k:=by
 refine⟨λ q e h hq=>?_,λ e h=>?_⟩
 ·rw[Q7 (Ne.symm hq)]at h;exact hdp q e h
 ·rw[Q1]at h;split at h
  ·split at h
   ·cases h;exact hd
   ·cases h
  ·omega
def vg{dp:List Nat}{k d:Nat}(hdp:(∀ (q:Nat) d,dp[q]? =some d->q≠k->d<=q+1/\(k<=q->d=0))/\∀ d,dp[k]? =some d->d<=k)(hd:d<=k):∀ (q:Nat) e,(dp.set k (d+1))[q]? =some e->e<=q+1/\(k+1<=q->e=0):=λ q e h=>by
 by_cases hq:k=q
 ·subst hq;rw[Q1]at h;split at h
  ·split at h
   ·cases h;exact⟨by omega,λ h=>by omega⟩
   ·cases h
  ·omega
 ·rw[Q7 hq]at h;have:=hdp.1 q e h (Ne.symm hq);exact⟨this.1,λ h=>this.2 (by omega)⟩
def Nv{hd:List Int}{rl:List ByteArray}{k:Nat}(he:hd.length=rl.length)(hno:∀ (j:Nat) t,j<k->hd[j]? =some t->t= -1/\rl[j]? =some (ByteArray.mk #[]))(hk:hd.length<=k)(hb:∃ i:Nat,(∃ h,hd[i]? =some h/\h≠-1)\/∃ s,rl[i]? =some s/\s≠ByteArray.empty):False:=by
 obtain⟨i,⟨h,h1,h2⟩|⟨s,h1,h2⟩⟩:=hb
 ·have:=(sp.1 h1).1;exact h2 (hno i h (by omega) h1).1
 ·have hl:=(sp.1 h1).1;obtain⟨t,ht⟩:∃ t,hd[i]? =some t:=⟨_,py (by omega)⟩;have:=(hno i t (by omega) ht).2;rw[h1]at this;cases this;exact h2 J
section
variable {α:Type}
def sw(l:List α)(i j:Nat):List α:=
 match l[i]?,l[j]? with
 |some x,some y=>(l.set i y).set j x
 |_,_=>l
@[simp] theorem Lt(l:List α)(i j:Nat):(sw l i j).length=l.length:=by unfold sw;split<;>simp
def DM{P Q:List α}{x y:α}{i:Nat}(h:i=P.length):(P++x::Q).set i y=P++y::Q:=by subst h;simp
def DN(l:List α)(a b:Nat):Nat->List α
 |0=>l
 |n+1=>sw (DN l a b n) (a+n) (b+n)
@[simp] theorem GS(l:List α)(a b n:Nat):(DN l a b n).length=l.length:=by induction n<;>simp_all [DN]
def Nw(l:List α)(a:Nat):Nat->List α
 |0=>l
 |n+1=>sw (Nw l a n) (a+n) (a+n+1)
@[simp] theorem K0(l:List α)(a n:Nat):(Nw l a n).length=l.length:=by induction n<;>simp_all [Nw]
def Nx(l:List α)(m:Nat):Nat->List α
 |0=>l
 |n+1=>sw (Nx l m n) (m-n) (m-n-1)
@[simp] theorem K1(l:List α)(a n:Nat):(Nx l a n).length=l.length:=by induction n<;>simp_all [Nx]
def Srt(key:α->Nat)(l:List α):Prop:=l.Pairwise λ a b=>key a<=key b
def Stb(key:α->Nat)(l m:List α):Prop:=∀ k,l.filter (λ x=>key x==k)=m.filter (λ x=>key x==k)
variable {key:α->Nat}
def Stb.refl(l:List α):Stb key l l:=λ _=>J
theorem Stb.symm{l m:List α}(h:Stb key l m):Stb key m l:=λ k=>(h k).symm
def Stb.trans{l m n:List α}(h:Stb key l m)(g:Stb key m n):Stb key l n:=λ k=>(h k).trans (g k)
theorem Stb.append{l l' m m':List α}(h:Stb key l l')(g:Stb key m m'):Stb key (l++m) (l'++m'):=λ k=>by simp only[Qm,h k,g k]
def Stb.comm{l m:List α}(h:∀ x∈l,∀ y∈m,key x≠key y):Stb key (l++m) (m++l):=λ k=>by
 simp only[Qm];rcases hl:l.filter (λ x=>key x==k)with _|⟨x,r⟩
 ·simp
 ·have hx:x∈l.filter (λ x=>key x==k):=by rw[hl];simp
  rw[Q4]at hx;have:m.filter (λ x=>key x==k)=[]:=by
   rw[PD];intro y hy hk;exact h x hx.1 y hy (by have:=hx.2;simp at this hk;omega)
  simp[this]
def Stb.mem{l m:List α}(h:Stb key l m){x:α}:x∈l↔x∈m:=by
 have e:∀ q:List α,x∈q↔x∈q.filter (λ y=>key y==key x):=λ q=>by simp[Q4]
 rw[e l,e m,h (key x)]
theorem Stb.perm:∀ {l m:List α},Stb key l m->l.Perm m
 |[],m,h=>by
  cases m with
  |nil=>exact .refl _
  |cons y r=>exact absurd (h.mem.2 (Pu)) (by simp)
 |x::l,m,h=>by
  obtain⟨p,q,rfl,hp⟩:∃ p q,m=p++x::q/\∀ y∈p,key y≠key x:=by
   have hx:=h (key x);rw[PT (by simp)]at hx;have:∀ m:List α,∀ r,x::r=m.filter (λ y=>key y==key x)->∃ p q,m=p++x::q/\∀ y∈p,key y≠key x:=by
    intro m;induction m with
    |nil=>intro r h;simp at h
    |cons y m ih=>
     intro r hr;by_cases hy:key y=key x
     ·rw[PT (by simp[hy])]at hr;exact⟨[],m,by simp[RW hr|>.1],by simp⟩
     ·rw[Qp (by simp[hy])]at hr;obtain⟨p,q,rfl,hp⟩:=ih r hr;exact⟨y::p,q,J,λ z hz=>(LD.1 hz).elim (λ e=>e▸hy) (hp z)⟩
   exact this m _ hx
  have h2:Stb key l (p++q):=λ k=>by
   have:=h k;simp only[Qm,Rs]at this⊢;by_cases hk:key x=k
   ·have hn:p.filter (λ y=>key y==k)=[]:=by
     rw[PD];intro y hy;simpa[<-hk]using hp y hy
    simp[hk,hn]at this⊢;exact this
   ·simp[hk]at this⊢;exact this
  exact(List.Perm.cons x h2.perm).trans Sv.symm
def Stb.length{l m:List α}(h:Stb key l m):l.length=m.length:=h.perm.length_eq
theorem Srt.append{l m:List α}:Srt key (l++m)↔Srt key l/\Srt key m/\∀ x∈l,∀ y∈m,key x<=key y:=by unfold Srt;rw[PQ]
theorem Srt.nil:Srt key ([]:List α):=List.Pairwise.nil
theorem Srt.one(x:α):Srt key [x]:=by simp[Srt]
def rf(key:α->Nat)(x:α):List α->List α
 |[]=>[x]
 |y::r=>if key x<=key y then x::y::r else y::rf key x r
def bT(key:α->Nat):List α->List α
 |[]=>[]
 |x::r=>rf key x (bT key r)
def pU(x:α):∀ l:List α,Stb key (x::l) (rf key x l)
 |[]=>Stb.refl _
 |y::r=>by
  rw[rf];split
  ·exact Stb.refl _
  ·have h1:Stb key (x::y::r) (y::x::r):=Stb.append (l:=[x,y]) (l':=[y,x]) (Stb.comm (l:=[x]) (m:=[y]) (by simp;omega)) (Stb.refl r);exact h1.trans (Stb.append (Stb.refl [y]) (pU x r))
def vj(x:α):∀ l:List α,Srt key l->Srt key (rf key x l)
 |[],_=>Srt.one x
 |y::r,h=>by
  have h1:=P2.1 h;rw[rf];split
  ·rename_i hxy
   exact P2.2 ⟨λ z hz=>(LD.1 hz).elim (λ e=>e▸hxy) (λ hz=>Pb hxy (h1.1 z hz)),h⟩
  ·refine P2.2 ⟨λ z hz=>?_,vj x r h1.2⟩;rcases LD.1 ((pU x r).mem.2 hz)with rfl|hz
   ·omega
   ·exact h1.1 z hz
def bn:∀ l:List α,Stb key l (bT key l)
 |[]=>Stb.refl _
 |x::r=>(Stb.append (Stb.refl [x]) (bn r)).trans (pU x _)
def cg:∀ l:List α,Srt key (bT key l)
 |[]=>Srt.nil
 |x::r=>vj x _ (cg r)
def Srt.unique:∀ {l m:List α},Srt key l->Srt key m->Stb key l m->l=m
 |[],m,_,_,h=>by
  have:=h.length;simp at this;exact(OW this.symm).symm
 |x::l,[],_,_,h=>by have:=h.length;simp at this
 |x::l,y::m,hl,hm,h=>by
  have h1:=P2.1 hl;have h2:=P2.1 hm;have hk:key x=key y:=by
   have a1:key x<=key y:=by
    rcases LD.1 (h.mem.2 (Pu:y∈y::m))with e|e
    ·rw[e];exact KP _
    ·exact h1.1 y e
   have a2:key y<=key x:=by
    rcases LD.1 (h.mem.1 (Pu:x∈x::l))with e|e
    ·rw[e];exact KP _
    ·exact h2.1 x e
   omega
  have hxy:x=y:=by
   have:=h (key x);rw[PT (by simp),PT (by simp[hk])]at this;exact(RW this).1
  subst hxy;congr 1;refine Srt.unique h1.2 h2.2 λ k=>?_;have:=h k;simp only[Rs]at this;split at this
  ·exact(RW this).2
  ·exact this
def jj{l m:List α}(h:Srt key m)(g:Stb key l m):m=bT key l:=h.unique (cg l) (g.symm.trans (bn l))
@[simp] theorem ma(l:List α):(bT key l).length=l.length:=(bn l).length.symm
def kl(key:α->Nat)(l:List α)(i j:Nat):Bool:=
 match l[i]?,l[j]? with
 |some x,some y=>decide (key x<key y)
 |_,_=>false
def GU(key:α->Nat)(a:Nat):Nat->List α->List α
 |0,l=>l
 |j+1,l=>if a<j+1/\kl key l (j+1) j=true then GU key a j (sw l (j+1) j)else l
def K2(key:α->Nat)(a:Nat)(l:List α):Nat->List α
 |0=>l
 |n+1=>GU key a (a+(n+1)) (K2 key a l n)
@[simp] theorem o9(a:Nat):∀ (j:Nat) (l:List α),(GU key a j l).length=l.length
 |0,l=>rfl
 |j+1,l=>by rw[GU];split<;>simp[o9 a j]
@[simp] theorem vk(a:Nat)(l:List α):∀ n,(K2 key a l n).length=l.length
 |0=>rfl
 |n+1=>by rw[K2,o9,vk a l n]
end
section
variable {α:Type} {key:α->Nat}
theorem Srt.take{l:List α}(h:Srt key l)(q:Nat):Srt key (l.take q):=RC (RM q l) h
theorem Srt.left{l m:List α}(h:Srt key (l++m)):Srt key l:=(Srt.append.1 h).1
end
theorem all_take{α:Type}{P:α->Prop}{l:List α}{k:Nat}{x:α}(h:∀ z∈l.take k,P z)(hx:l[k]? =some x)(hp:P x):∀ z∈l.take (k+1),P z:=λ z hz=>by
 have hk:=(sp.1 hx);rw[<-take_append_getElem hk.1,OM]at hz;rcases hz with hz|hz
 ·exact h z hz
 ·simp at hz;rw[hz,hk.2];exact hp
def kr(x:Nat):Nat:=if 0<x then 2^(15-x)else 0
def iY:List Nat->Nat
 |[]=>0
 |x::r=>kr x+iY r
def jk:∀ (l m:List Nat),iY (l++m)=iY l+iY m
 |[],m=>by simp[iY]
 |x::l,m=>by simp[iY,jk l m];omega
def eP(l:List Nat):Bool:=l.all (λ x=>decide (x<=15))&&decide (iY l<=2^15)
def xS{l:List Nat}{x:Nat}(h:x∈l)(hx:15<x):eP l=false:=by
 have:l.all (λ x=>decide (x<=15))=false:=by
  rw[all_eq_false];exact⟨x,h,by simp;omega⟩
 simp[eP,this]
def Bu{l:List Nat}(h:∀ x∈l,x<=15):eP l=decide (iY l<=2^15):=by
 have:l.all (λ x=>decide (x<=15))=true:=by
  rw[Pn];intro x hx;simpa using h x hx
 simp[eP,this]
structure It where
 w:Nat
 sym:Int
 lf:Nat
 rt:Nat
def aW:Nat->List Nat->List It
 |_,[]=>[]
 |i,n::r=>if 0<n then⟨n,i,0,0⟩::aW (i+1) r else aW (i+1) r
def jl:∀ (l:List Nat) (i x:Nat),aW i (l++[x])=aW i l++(if 0<x then[⟨x,((i+l.length:Nat):Int),0,0⟩]else[])
 |[],i,x=>by simp[aW]
 |n::r,i,x=>by
  have:=jl r (i+1) x;rw[show i+1+r.length=i+(n::r).length by simp;omega]at this;rw[PE,aW,aW,this];split<;>simp
def gU:∀ (l:List Nat) (i:Nat),(aW i l).length<=l.length
 |[],i=>by simp[aW]
 |n::r,i=>by
  have:=gU r (i+1);rw[aW];split<;>simp<;>omega
def l2:∀ (l:List Nat) (i:Nat),∀ x∈aW i l,x.w∈l/\∃ j,x.sym=((i+j:Nat):Int)/\l[j]? =some x.w
 |[],i=>by simp[aW]
 |n::r,i=>λ x hx=>by
  have ih:∀ x∈aW (i+1) r,x.w∈n::r/\∃ j,x.sym=((i+j:Nat):Int)/\(n::r)[j]? =some x.w:=λ x hx=>by
   obtain⟨h1,j,h2,h3⟩:=l2 r (i+1) x hx;exact⟨Pe _ h1,j+1,by rw[h2];congr 1;omega,by simpa using h3⟩
  rw[aW]at hx;split at hx
  ·rcases LD.1 hx with rfl|hx
   ·exact⟨by simp,0,by simp,by simp⟩
   ·exact ih x hx
  ·exact ih x hx
def leaves(c:List Nat):List It:=bT It.w (aW 0 c)
def cT:Nat->List Nat->List Nat
 |_,[]=>[]
 |i,n::r=>if 0<n then i::cT (i+1) r else cT (i+1) r
def l3:∀ (l:List Nat) (i:Nat),∀ x∈cT i l,i<=x/\x<i+l.length/\0<l.getD (x-i) 0
 |[],i=>by simp[cT]
 |n::r,i=>λ x hx=>by
  have ih:∀ x∈cT (i+1) r,i<=x/\x<i+(n::r).length/\0<(n::r).getD (x-i) 0:=λ x hx=>by
   obtain⟨h1,h2,h3⟩:=l3 r (i+1) x hx;refine⟨by omega,by simp;omega,?_⟩;rw[show x-i=(x-(i+1))+1 by omega];simpa using h3
  rw[cT]at hx;split at hx
  ·rename_i hn
   rcases LD.1 hx with rfl|hx
   ·exact⟨KP _,by simp,by simpa using hn⟩
   ·exact ih x hx
  ·exact ih x hx
def aD(l:List Nat)(i:Nat):Nat:=l.getD i 0
def du(l:List Nat):List Nat:=bT (aD l) (cT 0 l)
theorem Srt.get{α:Type}{key:α->Nat}{l:List α}(h:Srt key l){i j:Nat}{x y:α}(hij:i<j)(hx:l[i]? =some x)(hy:l[j]? =some y):key x<=key y:=by
 obtain⟨h1,rfl⟩:=sp.1 hx;obtain⟨h2,rfl⟩:=sp.1 hy;exact PU.1 h i j h1 h2 hij
def gV(l:List Nat)(s:Nat×Nat×Nat×List Nat)(i:Nat):Nat×Nat×Nat×List Nat:=
 let c:=if 0<s.1 then(s.2.1+1)%2^64*2^(aD l i-s.2.2.1)%2^64 else s.2.1
 (s.1+1,c,aD l i,s.2.2.2.set i c)
def eo(l:List Nat)(ord:List Nat):Nat×Nat×Nat×List Nat:=ord.foldl (gV l) (0,0,0,List.replicate l.length 0)
def eQ(l ord:List Nat)(i:Nat):eo l (ord++[i])=gV l (eo l ord) i:=by simp[eo]
def gW(l:List Nat):List Nat:=(eo l (du l)).2.2.2
def oa(l:List Nat):∀ ord,(eo l ord).2.2.2.length=l.length:=λ ord=>by
 have:∀ (ord:List Nat) s,(ord.foldl (gV l) s).2.2.2.length=s.2.2.2.length:=by
  intro ord;induction ord with
  |nil=>intro s;rfl
  |cons i r ih=>intro s;rw[Q5,ih];simp[gV]
 rw[eo,this];simp
def rh(l:List Nat):(gW l).length=l.length:=oa l _
def nt(l:List Nat):∀ x∈du l,x<l.length/\0<aD l x:=λ x hx=>by
 have:=l3 l 0 x ((bn _).mem.2 hx);exact⟨by omega,by have:=this.2.2;simpa[aD]using this⟩
def cF:Nat->List It->List It
 |i,x::y::r=>⟨x.w+y.w,-1,i,i+1⟩::cF (i+2) r
 |_,_=>[]
def iF:∀ (i:Nat) (b:List It),(cF i b).length=b.length/2
 |i,[]=>by simp[cF]
 |i,[x]=>by simp[cF]
 |i,x::y::r=>by rw[cF,KW,iF (i+2) r,KW,KW];omega
def jQ:∀ (i:Nat) (b:List It),∀ x∈cF i b,x.sym= -1
 |i,[]=>by simp[cF]
 |i,[x]=>by simp[cF]
 |i,x::y::r=>λ z hz=>by
  rw[cF]at hz;rcases LD.1 hz with rfl|hz
  ·rfl
  ·exact jQ (i+2) r z hz
def pV(l b:List It):List It:=bT It.w (l++cF 0 b)
def mb(l b:List It):(pV l b).length=l.length+b.length/2:=by simp[pV,iF]
def lvl(c:List Nat):Nat->List It
 |0=>leaves c
 |k+1=>pV (leaves c) (lvl c k)
def kt(c:List Nat):(leaves c).length<=c.length:=by rw[leaves,ma];exact gU c 0
def dW(c:List Nat):∀ x∈leaves c,x.w∈c/\∃ j:Nat,x.sym=(j:Int)/\c[j]? =some x.w:=λ x hx=>by
 have:=l2 c 0 x ((bn _).mem.2 hx);simpa using this
def l4(c:List Nat):∀ k,(leaves c).length<=(lvl c k).length/\(lvl c k).length<=2*(leaves c).length
 |0=>by simp[lvl];omega
 |k+1=>by
  have:=l4 c k;rw[lvl,mb];omega
def vm(c:List Nat)(h1:1<=(leaves c).length):∀ k,2*(leaves c).length<=(lvl c k).length+1+((leaves c).length-1)/2^k
 |0=>by simp[lvl];omega
 |k+1=>by
  have ih:=vm c h1 k;rw[lvl,mb];have e:((leaves c).length-1)/2^(k+1)=((leaves c).length-1)/2^k/2:=by rw[PG,Nat.div_div_eq_div_mul]
  rw[e];omega
def bump(ls:List Nat)(x:It):List Nat:=if 0<=x.sym then ls.set x.sym.toNat (ls.getD x.sym.toNat 0+1)else ls
def ck(ls:List Nat)(xs:List It):List Nat:=xs.foldl bump ls
def jm(ls:List Nat)(x:It):(bump ls x).length=ls.length:=by unfold bump;split<;>simp
def ct(xs:List It):∀ ls,(ck ls xs).length=ls.length:=by
 induction xs with
 |nil=>intro ls;rfl
 |cons x r ih=>intro ls;rw[ck,Q5];exact(ih _).trans (jm ls x)
def j5(xs:List It):Nat:=xs.countP λ x=>decide (x.sym<0)
def DO(xs:List It)(t:Nat):j5 (xs.take t)<=j5 xs:=(RM t xs).countP_le
def l5(c:List Nat):∀ x∈leaves c,0<=x.sym:=λ x hx=>by
 obtain⟨_,j,h,_⟩:=dW c x hx;omega
def pW(c:List Nat):j5 (leaves c)=0:=by
 rw[j5,Rh];intro x hx;have:=l5 c x hx;simp;omega
def DP(c:List Nat)(b:List It):j5 (pV (leaves c) b)=b.length/2:=by
 have hp:j5 (pV (leaves c) b)=j5 (leaves c++cF 0 b):=((bn (key:=It.w) (leaves c++cF 0 b)).perm.countP_eq _).symm;have h0:=pW c;have h1:j5 (cF 0 b)=(cF 0 b).length:=by
  rw[j5,countP_eq_length];intro x hx;have:=jQ 0 b x hx;simp;omega
 rw[hp];simp only[j5]at h0 h1⊢;rw[countP_append,h0,h1,iF];omega
def down(c:List Nat):Nat->Nat->List Nat->List Nat
 |0,_,ls=>ls
 |k+1,t,ls=>down c k (2*j5 ((lvl c k).take t)) (ck ls ((lvl c k).take t))
def cA(c:List Nat):List Nat:=
 if(leaves c).length<2 then(leaves c).foldl (λ ls x=>ls.set x.sym.toNat 1) (List.replicate c.length 0)else down c 15 (2*(leaves c).length-2) (List.replicate c.length 0)
def rY(c:List Nat)(k t:Nat):2*j5 ((lvl c (k+1)).take t)<=(lvl c k).length:=by
 have h1:=DO (lvl c (k+1)) t;have h2:j5 (lvl c (k+1))=(lvl c k).length/2:=DP c _;omega
def vq(c:List Nat)(h1:1<=(leaves c).length)(hn:(leaves c).length<=1024):2*(leaves c).length-2<=(lvl c 14).length:=by
 have:=vm c h1 14;rw[Rk (by omega:(leaves c).length-1<2^14)]at this;omega
def oe(c:List Nat):∀ k t ls,(down c k t ls).length=ls.length
 |0,t,ls=>rfl
 |k+1,t,ls=>by rw[down,oe c k,ct]
def iG(c:List Nat):(cA c).length=c.length:=by
 unfold cA;split
 ·have:∀ (xs:List It) (ls:List Nat),(xs.foldl (λ ls x=>ls.set x.sym.toNat 1) ls).length=ls.length:=by
   intro xs;induction xs with
   |nil=>intro ls;rfl
   |cons x r ih=>intro ls;rw[Q5,ih];simp
  rw[this];simp
 ·rw[oe];simp
section
variable {α:Type} {key:α->Nat}
def Srt.filter{l:List α}(h:Srt key l)(p:α->Bool):Srt key (l.filter p):=RC filter_sublist h
def fN(l:List α)(p:α->Bool):(bT key l).filter p=bT key (l.filter p):=
 jj ((cg l).filter p) λ k=>by
  have h:=bn (key:=key) l k;have h1:(l.filter p).filter (λ x=>key x==k)=(l.filter λ x=>key x==k).filter p:=by simp only[filter_filter,Bool.and_comm]
  have h2:((bT key l).filter p).filter (λ x=>key x==k)=((bT key l).filter λ x=>key x==k).filter p:=by simp only[filter_filter,Bool.and_comm]
  rw[h1,h2,h]
def il{l:List α}(h:Srt key l):bT key l=l:=(jj h (Stb.refl l)).symm
def Srt.take_drop{l:List α}(h:Srt key l)(t:Nat):∀ x∈l.take t,∀ y∈l.drop t,key x<=key y:=by
 rw[<-P0 t l,Srt.append]at h;exact h.2.2
def eS(l:List α)(p:α->Bool)(t:Nat):l.countP p=(l.take t).countP p+(l.drop t).countP p:=by
 conv=>lhs;rw[<-P0 t l]
 rw[countP_append]
def cB(p:α->Bool):∀ (l:List α) (t:Nat),(l.take t).filter p=(l.filter p).take ((l.take t).countP p)
 |[],t=>by simp
 |x::r,0=>by simp
 |x::r,t+1=>by
  rw[Qz];cases hp:p x with
  |true=>rw[PT hp,PT hp,countP_cons_of_pos hp,Qz,cB p r t]
  |false=>rw[Qp (by simp[hp]),Qp (by simp[hp]),countP_cons_of_neg (by simp[hp]),cB p r t]
end
def ew(x:It):Bool:=decide (0<=x.sym)
def mc(x:It):Bool:=decide (x.sym<0)
def og(xs:List It):Nat:=xs.countP ew
def yZ(xs:List It):og xs+j5 xs=xs.length:=by
 induction xs with
 |nil=>rfl
 |cons x r ih=>
  simp only[og,j5,ew,countP_cons,KW]at ih⊢;by_cases h:0<=x.sym
  ·simp[h,show¬ x.sym<0 by omega];omega
  ·simp[h,show x.sym<0 by omega];omega
def me(i:Nat)(b:List It):(cF i b).filter mc=cF i b/\(cF i b).filter ew=[]:=by
 refine⟨QA.2 λ x hx=>?_,PD.2 λ x hx=>?_⟩<;>(have:=jQ i b x hx;simp[mc,ew,this])
def gX(c:List Nat):(leaves c).filter ew=leaves c/\(leaves c).filter mc=[]:=by
 refine⟨QA.2 λ x hx=>?_,PD.2 λ x hx=>?_⟩<;>(have:=l5 c x hx;simp[mc,ew];omega)
def im:∀ (q i:Nat) (b:List It) (z:It),(cF i b)[q]? =some z->∃ x y,b[2*q]? =some x/\b[2*q+1]? =some y/\z.w=x.w+y.w
 |_,_,[],z,h=>by simp[cF]at h
 |_,_,[x],z,h=>by simp[cF]at h
 |0,i,x::y::r,z,h=>by simp[cF]at h;subst h;exact⟨x,y,J,J,J⟩
 |q+1,i,x::y::r,z,h=>by
  rw[cF]at h;obtain⟨u,v,h1,h2,h3⟩:=im q (i+2) r z (by simpa using h);refine⟨u,v,?_,?_,h3⟩
  ·rw[show 2*(q+1)=2*q+1+1 by omega];simpa using h1
  ·rw[show 2*(q+1)+1=2*q+1+1+1 by omega];simpa using h2
def nu(i:Nat)(b:List It)(h:Srt It.w b):Srt It.w (cF i b):=by
 refine PU.2 λ p q hp hq hpq=>?_;obtain⟨x,y,h1,h2,h3⟩:=im p i b _ (py hp);obtain⟨u,v,g1,g2,g3⟩:=im q i b _ (py hq);rw[h3,g3];have a1:x.w<=u.w:=h.get (by omega) h1 g1;have a2:y.w<=v.w:=h.get (by omega) h2 g2;omega
def iH(c:List Nat):∀ k,Srt It.w (lvl c k)
 |0=>cg _
 |_+1=>cg _
def gm(c:List Nat):∀ k,(lvl c k).filter ew=leaves c
 |0=>(gX c).1
 |k+1=>by
  rw[lvl,pV,fN,Qm,(gX c).1,(me 0 _).2,PF];exact il (cg _)
def DQ(c:List Nat)(k:Nat):(lvl c (k+1)).filter mc=cF 0 (lvl c k):=by
 rw[lvl,pV,fN,Qm,(gX c).2,(me 0 _).1,Q6];exact il (nu 0 _ (iH c k))
def fO(c:List Nat)(k t:Nat):((lvl c k).take t).filter ew=(leaves c).take (og ((lvl c k).take t)):=by
 rw[cB,gm];rfl
def xT(c:List Nat)(k t:Nat):((lvl c (k+1)).take t).filter mc=(cF 0 (lvl c k)).take (j5 ((lvl c (k+1)).take t)):=by
 rw[cB,DQ];rfl
def vy(c:List Nat)(k t p:Nat)(hp:j5 ((lvl c (k+1)).take t)=p+1):∃ z x y,z∈(lvl c (k+1)).take t/\(lvl c k)[2*p]? =some x/\(lvl c k)[2*p+1]? =some y/\z.w=x.w+y.w:=by
 have h:=xT c k t;rw[hp]at h;have hl:(((lvl c (k+1)).take t).filter mc).length=p+1:=by rw[<-countP_eq_length_filter];exact hp
 obtain⟨z,hz⟩:∃ z,(((lvl c (k+1)).take t).filter mc)[p]? =some z:=⟨_,py (by omega)⟩;have hz2:=hz;rw[h,getElem?_take_of_lt (by omega)]at hz2;obtain⟨x,y,h1,h2,h3⟩:=im p 0 _ z hz2;exact⟨z,x,y,(Q4.1 (OD hz)).1,h1,h2,h3⟩
def jS(c:List Nat):∀ k,∀ x∈lvl c k,0<x.w
 |0=>λ x hx=>by
  have hm:x∈aW 0 c:=(bn _).mem.2 hx;have:∀ (l:List Nat) (i:Nat),∀ x∈aW i l,0<x.w:=by
   intro l;induction l with
   |nil=>intro i x hx;simp[aW]at hx
   |cons n r ih=>
    intro i x hx;rw[aW]at hx;split at hx
    ·rcases LD.1 hx with rfl|hx
     ·assumption
     ·exact ih _ x hx
    ·exact ih _ x hx
  exact this _ _ x hm
 |k+1=>λ x hx=>by
  rcases OM.1 ((bn _).mem.2 hx)with hx|hx
  ·exact jS c 0 x hx
  ·obtain⟨q,hq⟩:=QB.1 hx;obtain⟨u,v,h1,_,h3⟩:=im q 0 _ x hq;have:=jS c k u (OD h1);omega
def DR(c:List Nat)(k t:Nat):og ((lvl c k).take (2*j5 ((lvl c (k+1)).take t)))<=og ((lvl c (k+1)).take t):=by
 cases hp:j5 ((lvl c (k+1)).take t)with
 |zero=>simp[og]
 |succ p=>
  obtain⟨z,x,y,hz,hx,hy,hw⟩:=vy c k t p hp;have hx0:=jS c k x (OD hx);let q:It->Bool:=λ u=>ew u&&decide (u.w<z.w);have h1:og ((lvl c k).take (2*(p+1)))<=((lvl c k).take (2*(p+1))).countP q:=by
   refine countP_mono_left λ u hu hl=>?_;obtain⟨i,hi⟩:=QB.1 hu;rw[Pg]at hi;split at hi
   ·have:u.w<=y.w:=by
     rcases OI i (2*p+1)with h|h
     ·exact(iH c k).get h hi hy
     ·have:i=2*p+1:=by omega
      subst this;rw[hi]at hy;cases hy;exact KP _
    have:u.w<z.w:=by omega
    simp[q,hl,this]
   ·cases hi
  have h2:((lvl c k).take (2*(p+1))).countP q<=(lvl c k).countP q:=(RM _ _).countP_le;have h3:∀ k,(lvl c k).countP q=(leaves c).countP λ u=>decide (u.w<z.w):=λ k=>by
   rw[<-gm c k,countP_filter];exact countP_congr λ u _=>by simp[q,and_comm]
  have h4:(lvl c (k+1)).countP q=((lvl c (k+1)).take t).countP q:=by
   rw[eS _ _ t];have:((lvl c (k+1)).drop t).countP q=0:=by
    rw[Rh];intro u hu;have:=(iH c (k+1)).take_drop t z hz u hu;simp[q];intro _;omega
   omega
  have h5:((lvl c (k+1)).take t).countP q<=og ((lvl c (k+1)).take t):=countP_mono_left λ u _ hu=>by simp[q]at hu;exact hu.1
  have:=h3 k;have:=h3 (k+1);omega
def l6(c:List Nat)(k:Nat):og (lvl c k)=(leaves c).length:=by
 rw[og,countP_eq_length_filter,gm]
def z8(c:List Nat)(hn:2<=(leaves c).length):∀ k,og ((lvl c k).drop (2*(leaves c).length-2))=0
 |0=>by
  rw[P8 (by simp[lvl];omega)];rfl
 |k+1=>by
  rw[og,Rh];intro x hx hl;have hcnt:=l6 c (k+1);have hsum:=eS (lvl c (k+1)) ew (2*(leaves c).length-2);have hpos:0<((lvl c (k+1)).drop (2*(leaves c).length-2)).countP ew:=countP_pos_iff.2 ⟨x,hx,hl⟩;have hlen:((lvl c (k+1)).take (2*(leaves c).length-2)).length=2*(leaves c).length-2:=by
   rw[M2];have:0<((lvl c (k+1)).drop (2*(leaves c).length-2)).length:=length_pos_of_mem hx;rw[OJ]at this;omega
  have hnp:=yZ ((lvl c (k+1)).take (2*(leaves c).length-2));have hge:(leaves c).length-1<=j5 ((lvl c (k+1)).take (2*(leaves c).length-2)):=by
   simp only[og]at hcnt hnp;omega
  obtain⟨p,hp⟩:∃ p,j5 ((lvl c (k+1)).take (2*(leaves c).length-2))=p+1:=⟨_-1,(Nat.sub_add_cancel (by omega)).symm⟩;obtain⟨z,u,y,hz,hu,hy,hw⟩:=vy c k _ p hp;have hzx:=(iH c (k+1)).take_drop _ z hz x hx;have hu0:=jS c k u (OD hu);have hxl:x∈leaves c:=by rw[<-gm c (k+1)];exact Q4.2 ⟨P1 hx,hl⟩
  have hxk:x∈lvl c k:=by rw[<-gm c k]at hxl;exact(Q4.1 hxl).1
  have ih:=z8 c hn k;rw[og,Rh]at ih;rw[<-P0 (2*(leaves c).length-2) (lvl c k),OM]at hxk;rcases hxk with hxk|hxk
  ·obtain⟨i,hi⟩:=QB.1 hxk;rw[Pg]at hi;split at hi
   ·have:x.w<=y.w:=by
     rcases OI i (2*p+1)with h|h
     ·exact(iH c k).get h hi hy
     ·have:i=2*p+1:=by omega
      subst this;rw[hi]at hy;cases hy;exact KP _
    omega
   ·cases hi
  ·exact ih x hxk hl
def DS(c:List Nat)(hn:2<=(leaves c).length)(k:Nat):og ((lvl c k).take (2*(leaves c).length-2))=(leaves c).length:=by
 have h1:=z8 c hn k;have h2:=l6 c k;have h3:=eS (lvl c k) ew (2*(leaves c).length-2);simp only[og]at h1 h2⊢;omega
def dw(l:List It)(ls:List Nat):Nat:=(l.map λ x=>2^(15-ls.getD x.sym.toNat 0)).sum
def fP(ls:List Nat)(xs:List It):ck ls xs=ck ls (xs.filter ew):=by
 unfold ck;induction xs generalizing ls with
 |nil=>rfl
 |cons x r ih=>
  by_cases h:0<=x.sym
  ·rw[PT (by simp[ew,h]),Q5,Q5,ih]
  ·rw[Qp (by simp[ew,h]),Q5,show bump ls x=ls by simp[bump,h],ih]
def fx{ls:List Nat}{i v:Nat}(h:i<ls.length):(ls.set i v).getD i 0=v:=by simp[LW,h]
def dI{ls:List Nat}{i j v:Nat}(h:i≠j):(ls.set i v).getD j 0=ls.getD j 0:=by simp[LW,Q7 h]
def Ok(n:Nat)(l:List It):Prop:=(∀ x∈l,0<=x.sym/\x.sym.toNat<n)/\l.Pairwise λ x y=>x.sym.toNat≠y.sym.toNat
theorem Ok.left{n:Nat}{l m:List It}(h:Ok n (l++m)):Ok n l:=⟨λ x hx=>h.1 x (PO _ hx),(PQ.1 h.2).1⟩
theorem Ok.right{n:Nat}{l m:List It}(h:Ok n (l++m)):Ok n m:=⟨λ x hx=>h.1 x (Qo _ hx),(PQ.1 h.2).2.1⟩
def jo{n:Nat}:∀ {l:List It} {ls:List Nat},Ok n l->ls.length=n->∀ x∈l,(ck ls l).getD x.sym.toNat 0=ls.getD x.sym.toNat 0+1
 |y::r,ls,h,hl,x,hx=>by
  have hb:ck ls (y::r)=ck (bump ls y) r:=rfl;have hy:=h.1 y (by simp);have hlb:(bump ls y).length=n:=by rw[jm,hl]
  rw[hb];have hr:Ok n r:=Ok.right (l:=[y]) h;rcases LD.1 hx with rfl|hx
  ·have hout:∀ (r:List It) (ls:List Nat),(∀ z∈r,x.sym.toNat≠z.sym.toNat)->(ck ls r).getD x.sym.toNat 0=ls.getD x.sym.toNat 0:=by
    intro r;induction r with
    |nil=>intro ls _;rfl
    |cons z r ih=>
     intro ls hz;have:ck ls (z::r)=ck (bump ls z) r:=rfl;rw[this,ih _ λ q hq=>hz q (by simp[hq])];unfold bump;split
     ·exact dI λ e=>hz z (by simp) e.symm
     ·rfl
   rw[hout r _ (P2.1 h.2).1];unfold bump;rw[Ow hy.1,fx (by omega)]
  ·rw[jo hr hlb x hx];have hne:=(P2.1 h.2).1 x hx;unfold bump;rw[Ow hy.1,dI hne]
def jU{j:Nat}:∀ (l:List It) (ls:List Nat),(∀ x∈l,x.sym.toNat≠j)->(ck ls l).getD j 0=ls.getD j 0
 |[],ls,_=>rfl
 |x::r,ls,h=>by
  have:ck ls (x::r)=ck (bump ls x) r:=rfl;rw[this,jU r _ λ z hz=>h z (by simp[hz])];unfold bump;split
  ·exact dI (h x (by simp))
  ·rfl
def mf(l m:List It)(ls:List Nat):dw (l++m) ls=dw l ls+dw m ls:=by simp[dw]
def jq{l:List It}{ls:List Nat}{d:Nat}(h:∀ x∈l,ls.getD x.sym.toNat 0=d):dw l ls=l.length*2^(15-d):=by
 unfold dw;induction l with
 |nil=>simp
 |cons x r ih=>
  rw[P5,sum_cons,ih λ y hy=>h y (by simp[hy]),h x (by simp),KW,Pp,Qw,Rt]
def vz{l:List It}{ls ls':List Nat}(h:∀ x∈l,ls.getD x.sym.toNat 0=ls'.getD x.sym.toNat 0):dw l ls=dw l ls':=by
 unfold dw;exact If List.sum (Qq λ x hx=>by rw[h x hx])
def vA{n:Nat}{A B:List It}{ls:List Nat}{k:Nat}(hO:Ok n (A++B))(hl:ls.length=n)(hk:k<=14)(hA:∀ x∈A,ls.getD x.sym.toNat 0=14-k):
  dw (A++B) (ck ls A)+A.length*2^k=dw (A++B) ls:=by
 rw[mf,mf];have hB:dw B (ck ls A)=dw B ls:=vz λ x hx=>jU A ls λ y hy=>(PQ.1 hO.2).2.2 y hy x hx;have hA1:dw A (ck ls A)=A.length*2^k:=by
  rw[jq (d:=15-k) λ x hx=>by rw[jo hO.left hl x hx,hA x hx];omega];rw[show 15-(15-k)=k by omega]
 have hA2:dw A ls=A.length*2^(k+1):=by
  rw[jq (d:=14-k) hA,show 15-(14-k)=k+1 by omega]
 rw[hB,hA1,hA2,PG];have:A.length*(2^k*2)=A.length*2^k+A.length*2^k:=by rw[Ru (2^k) 2,Nat.two_mul,Nat.mul_add]
 omega
def l7:∀ (l:List Nat) (i:Nat),(aW i l).Pairwise λ x y=>x.sym.toNat<y.sym.toNat
 |[],i=>by simp[aW]
 |n::r,i=>by
  rw[aW];split
  ·refine P2.2 ⟨λ y hy=>?_,l7 r (i+1)⟩;obtain⟨_,j,h,_⟩:=l2 r (i+1) y hy;simp[h];omega
  ·exact l7 r (i+1)
def jV(c:List Nat):Ok c.length (leaves c):=by
 refine⟨λ x hx=>?_,?_⟩
 ·obtain⟨_,j,h,hj⟩:=dW c x hx;have:=(sp.1 hj).1;exact⟨by omega,by rw[h];simpa using this⟩
 ·have h1:(aW 0 c).Pairwise λ x y=>x.sym.toNat≠y.sym.toNat:=(l7 c 0).imp λ h=>by omega
  exact(bn (aW 0 c)).perm.pairwise h1 λ h=>h.symm
def vB(c:List Nat):∀ (k t:Nat) (ls:List Nat),ls.length=c.length->k<=15->t<=(lvl c (k-1)).length->(k=0->t=0)->
  (∀ x∈(leaves c).take (og ((lvl c (k-1)).take t)),ls.getD x.sym.toNat 0=15-k)->dw (leaves c) (down c k t ls)+t*2^k/2=dw (leaves c) ls
 |0,t,ls,_,_,_,h0,_=>by rw[h0 J];simp[down]
 |k+1,t,ls,hl,hk,ht,_,hA=>by
  rw[Q8]at ht hA;have hA':=λ x hx=>(hA x hx).trans (by omega:15-(k+1)=14-k);have hO:=jV c;have hcat:=P0 (og ((lvl c k).take t)) (leaves c);have hn1:og ((lvl c k).take t)<=(leaves c).length:=by
   rw[<-l6 c k];exact(RM t (lvl c k)).countP_le
  have hb:ck ls ((lvl c k).take t)=ck ls ((leaves c).take (og ((lvl c k).take t))):=by rw[fP,fO]
  have h1:=vA (n:=c.length) (A:=(leaves c).take (og ((lvl c k).take t))) (B:=(leaves c).drop (og ((lvl c k).take t))) (ls:=ls) (k:=k) (by rw[hcat];exact hO) hl (by omega) hA';rw[hcat,M2,Pq hn1]at h1;have hnp:=yZ ((lvl c k).take t);rw[M2,Pq ht]at hnp;rw[down,hb];have hk2:t*2^(k+1)/2=t*2^k:=by rw[PG,<-Qj,Nat.mul_div_cancel _ (by decide)]
  rw[hk2];cases k with
  |zero=>
   have h0:j5 ((lvl c 0).take t)=0:=by
    have:=DO (lvl c 0) t;have h:=pW c;simp only[lvl]at this⊢;omega
   rw[h0]at hnp⊢;simp only[Sf,PL,Nat.mul_zero,down]at h1⊢;omega
  |succ k=>
   have hmono:=DR c k t;have ih:=vB c (k+1) (2*j5 ((lvl c (k+1)).take t)) (ck ls ((leaves c).take (og ((lvl c (k+1)).take t)))) (by rw[ct,hl]) (by omega) (rY c k t) (by omega) (by
    intro x hx;rw[Q8]at hx;have hx2:x∈(leaves c).take (og ((lvl c (k+1)).take t)):=by
     rw[QB]at hx⊢;obtain⟨i,hi⟩:=hx;refine⟨i,?_⟩;rw[Pg]at hi⊢;split at hi
     ·rw[Ow (by omega)];exact hi
     ·cases hi
    rw[jo (Ok.left (m:=(leaves c).drop (og ((lvl c (k+1)).take t))) (by rw[hcat];exact hO)) hl x hx2,hA' x hx2];omega)
   have e1:2*j5 ((lvl c (k+1)).take t)*2^(k+1)/2=j5 ((lvl c (k+1)).take t)*2^(k+1):=by
    rw[Qj,Nat.mul_div_cancel_left _ (by decide)]
   rw[e1]at ih;have e2:t*2^(k+1)=og ((lvl c (k+1)).take t)*2^(k+1)+j5 ((lvl c (k+1)).take t)*2^(k+1):=by rw[<-Pp,hnp]
   omega
def tz(ls:List Nat)(x:It)(j:Nat):ls.getD j 0<=(bump ls x).getD j 0:=by
 unfold bump;split
 ·by_cases h:x.sym.toNat=j
  ·subst h;by_cases hl:x.sym.toNat<ls.length
   ·rw[fx hl];omega
   ·simp[LW,OX (Nat.le_of_not_lt hl)]
  ·rw[dI h];exact KP _
 ·exact KP _
def ku(j:Nat):∀ (xs:List It) (ls:List Nat),ls.getD j 0<=(ck ls xs).getD j 0
 |[],ls=>KP _
 |x::r,ls=>Pb (tz ls x j) (ku j r (bump ls x))
def mg(c:List Nat)(j:Nat):∀ k t ls,ls.getD j 0<=(down c k t ls).getD j 0
 |0,_,_=>KP _
 |k+1,t,ls=>Pb (ku j _ ls) (mg c j k _ _)
def DT(c:List Nat)(k t:Nat):Ok c.length (((lvl c k).take t).filter ew):=by
 rw[fO];exact Ok.left (m:=(leaves c).drop _) (by rw[P0];exact jV c)
def xU(c:List Nat)(k t j:Nat){ls:List Nat}(hl:ls.length=c.length):(ck ls ((lvl c k).take t)).getD j 0<=ls.getD j 0+1:=by
 rw[fP];by_cases h:∃ x∈((lvl c k).take t).filter ew,x.sym.toNat=j
 ·obtain⟨x,hx,rfl⟩:=h;rw[jo (DT c k t) hl x hx];exact KP _
 ·rw[jU _ _ λ x hx he=>h ⟨x,hx,he⟩];omega
def za(c:List Nat)(j:Nat):∀ k t ls,ls.length=c.length->(down c k t ls).getD j 0<=ls.getD j 0+k
 |0,_,_,_=>KP _
 |k+1,t,ls,hl=>by
  have h1:=xU c k t j hl;have h2:=za c j k (2*j5 ((lvl c k).take t)) (ck ls ((lvl c k).take t)) (by rw[ct,hl]);rw[down];omega
def vC(c:List Nat)(j:Nat)(hj:∀ x∈leaves c,x.sym.toNat≠j):∀ k t ls,(down c k t ls).getD j 0=ls.getD j 0
 |0,_,_=>rfl
 |k+1,t,ls=>by
  rw[down,vC c j hj k,fP];refine jU _ _ λ x hx=>hj x ?_;rw[fO]at hx;exact OS hx
def DU{c:List Nat}{j n:Nat}(h:c[j]? =some n)(hn:0<n):∃ x∈leaves c,x.sym.toNat=j/\x.w=n:=by
 have:∀ (l:List Nat) (i j:Nat),l[j]? =some n->∃ x∈aW i l,x.sym.toNat=i+j/\x.w=n:=by
  intro l;induction l with
  |nil=>intro i j h;simp at h
  |cons m r ih=>
   intro i j h;cases j with
   |zero=>
    simp at h;subst h;rw[aW,Ow hn];exact⟨⟨m,i,0,0⟩,by simp,by simp,J⟩
   |succ j=>
    obtain⟨x,hx,h1,h2⟩:=ih (i+1) j (by simpa using h);refine⟨x,?_,by omega,h2⟩;rw[aW];split
    ·exact Pe _ hx
    ·exact hx
 obtain⟨x,hx,h1,h2⟩:=this c 0 j h;exact⟨x,(bn _).mem.1 hx,by omega,h2⟩
def oE(LS:List Nat):∀ (r s:List Nat) (i:Nat),LS.drop i=s->s.length=r.length->(∀ j,j<r.length->(s.getD j 0=0↔r.getD j 0=0))->dw (aW i r) LS=iY s
 |[],s,i,_,hl,_=>by
  have h0:s=[]:=OW (by simpa using hl);subst h0;rfl
 |n::r,s,i,hd,hl,hz=>by
  match s with
  |[]=>simp at hl
  |v::s=>
   have hi:LS.getD i 0=v:=by
    have:(LS.drop i)[0]? =some v:=by rw[hd];rfl
    rw[Q0]at this;rw[LW];simpa using If (λ o=>o.getD 0) this
   have ih:=oE LS r s (i+1) (by rw[<-drop_drop,hd];rfl) (by simpa using hl) (λ j hj=>by have:=hz (j+1) (by simpa using hj);simpa using this);have h0:=hz 0 (by simp);simp only[getD_cons_zero]at h0;rw[aW,iY];split
   ·rename_i hn
    have hv:0<v:=by omega
    have e:dw (⟨n,i,0,0⟩::aW (i+1) r) LS=2^(15-LS.getD i 0)+dw (aW (i+1) r) LS:=by simp[dw]
    rw[e,ih,hi,kr,Ow hv]
   ·have hv:¬ 0<v:=by omega
    rw[ih,kr,OB hv,Pa]
structure LensOk(c ls:List Nat):Prop where
 len:ls.length=c.length
 le:∀ j,ls.getD j 0<=15
 zero:∀ j,j<c.length->(ls.getD j 0=0↔c.getD j 0=0)
 kraft:iY ls<=2^15
def getD_some{l:List Nat}{j n:Nat}(h:l[j]? =some n):l.getD j 0=n:=by simp[LW,h]
def cC(n j:Nat):(List.replicate n 0).getD j 0=0:=by
 rw[LW,getElem?_replicate];split<;>rfl
def DV(c:List Nat)(hn:(leaves c).length<=1024):LensOk c (cA c):=by
 have hlen:=iG c;have hperm:∀ ls,dw (leaves c) ls=dw (aW 0 c) ls:=λ ls=>((bn (key:=It.w) (aW 0 c)).perm.symm.map _).sum_nat;have hout:∀ j,j<c.length->c.getD j 0=0->∀ x∈leaves c,x.sym.toNat≠j:=λ j hj h0 x hx he=>by
  obtain⟨_,i,h1,h2⟩:=dW c x hx;have:i=j:=by omega
  subst this;have hp:=jS c 0 x hx;rw[getD_some h2]at h0;omega
 have hin:∀ j,j<c.length->c.getD j 0≠0->∃ x∈leaves c,x.sym.toNat=j:=λ j hj h0=>by
  have hg:c[j]? =some c[j]:=py hj;rw[getD_some hg]at h0;obtain⟨x,hx,h1,_⟩:=DU hg (by omega);exact⟨x,hx,h1⟩
 rcases OI (leaves c).length 2 with h2|h2
 ·have hE:cA c=(leaves c).foldl (λ ls x=>ls.set x.sym.toNat 1) (List.replicate c.length 0):=by unfold cA;rw[Ow h2]
  rcases PB (leaves c).length with h0|h0
  ·have hnil:=OW h0;rw[hnil]at hE;have hz:∀ j,j<c.length->((cA c).getD j 0=0↔c.getD j 0=0):=λ j hj=>by
    rw[hE];refine⟨λ _=>?_,λ _=>cC ..⟩;refine Px λ hne=>?_;obtain⟨x,hx,_⟩:=hin j hj hne;rw[hnil]at hx;cases hx
   refine⟨hlen,λ j=>by rw[hE];show(List.replicate c.length 0).getD j 0<=15;rw[cC];omega,hz,?_⟩;rw[<-oE (cA c) c (cA c) 0 J hlen hz,<-hperm,hnil];exact IN _
  ·obtain⟨x,hx⟩:=Sn.1 (by omega:(leaves c).length=1);rw[hx]at hE;have hE':cA c=(List.replicate c.length 0).set x.sym.toNat 1:=hE;have hxl:=(jV c).1 x (by rw[hx];simp);have hg:∀ j,(cA c).getD j 0=if x.sym.toNat=j then 1 else 0:=λ j=>by
    rw[hE'];by_cases h:x.sym.toNat=j
    ·subst h;rw[fx (by simpa using hxl.2),Ow J]
    ·rw[dI h,OB h,cC]
   have hz:∀ j,j<c.length->((cA c).getD j 0=0↔c.getD j 0=0):=λ j hj=>by
    rw[hg];by_cases h:x.sym.toNat=j
    ·rw[Ow h];refine⟨λ h=>by omega,λ h0=>absurd h (hout j hj h0 x (by rw[hx];simp))⟩
    ·rw[OB h];refine⟨λ _=>Px λ hne=>?_,λ _=>J⟩;obtain⟨y,hy,hy2⟩:=hin j hj hne;rw[hx]at hy;simp at hy;subst hy;exact h hy2
   refine⟨hlen,λ j=>by rw[hg];split<;>omega,hz,?_⟩;rw[<-oE (cA c) c (cA c) 0 J hlen hz,<-hperm,hx];simp only[dw,P5,QS,sum_cons,sum_nil,hg,Ow];decide
 ·have hE:cA c=down c 15 (2*(leaves c).length-2) (List.replicate c.length 0):=by unfold cA;rw[OB (by omega)]
  have htop:=DS c h2 14;have hz:∀ j,j<c.length->((cA c).getD j 0=0↔c.getD j 0=0):=λ j hj=>by
   rw[hE];refine⟨λ h=>Px λ hne=>?_,λ h0=>by rw[vC c j (hout j hj h0),cC]⟩;obtain⟨x,hx,hxj⟩:=hin j hj hne;rw[down]at h;have h1:=mg c j 14 (2*j5 ((lvl c 14).take (2*(leaves c).length-2))) (ck (List.replicate c.length 0) ((lvl c 14).take (2*(leaves c).length-2)));rw[h]at h1;rw[fP,fO,htop,P7,<-hxj,jo (jV c) (by simp) x hx]at h1;omega
  refine⟨hlen,λ j=>?_,hz,?_⟩
  ·rw[hE];have:=za c j 15 (2*(leaves c).length-2) (List.replicate c.length 0) (by simp);rw[cC]at this;omega
  ·rw[<-oE (cA c) c (cA c) 0 J hlen hz,<-hperm];have h:=vB c 15 (2*(leaves c).length-2) (List.replicate c.length 0) (by simp) (KP _) (vq c (by omega) hn) (by omega) (λ x _=>by rw[cC]);rw[<-hE,jq (l:=leaves c) (ls:=List.replicate c.length 0) (d:=0) (λ x _=>cC ..)]at h;have e:(2*(leaves c).length-2)*2^15/2=((leaves c).length-1)*2^15:=by
    rw[show 2*(leaves c).length-2=2*((leaves c).length-1) by omega,Qj,Nat.mul_div_cancel_left _ (by decide)]
   rw[e]at h;have e2:(leaves c).length*2^15=((leaves c).length-1)*2^15+2^15:=by
    conv=>lhs;rw[show(leaves c).length=(leaves c).length-1+1 by omega]
    rw[Pp,Qw]
   simp only[QT]at h;omega
def gY(l ord:List Nat):Nat:=(ord.map λ i=>2^(15-aD l i)).sum
def dB(l a b:List Nat):gY l (a++b)=gY l a+gY l b:=by simp[gY]
def mh(l:List Nat)(i:Nat):gY l [i]=2^(15-aD l i):=by simp[gY]
def xV{l ord:List Nat}{d:Nat}(h:∀ x∈ord,aD l x=d):gY l ord=ord.length*2^(15-d):=by
 unfold gY;induction ord with
 |nil=>simp
 |cons x r ih=>rw[P5,sum_cons,ih λ y hy=>h y (by simp[hy]),h x (by simp),KW,Pp,Qw,Rt]
def pX(LS:List Nat):∀ (s:List Nat) (i:Nat),LS.drop i=s->gY LS (cT i s)=iY s
 |[],i,_=>rfl
 |v::s,i,hd=>by
  have hi:LS.getD i 0=v:=by
   have:(LS.drop i)[0]? =some v:=by rw[hd];rfl
   rw[Q0]at this;rw[LW];simpa using If (λ o=>o.getD 0) this
  have ih:=pX LS s (i+1) (by rw[<-drop_drop,hd];rfl);rw[cT,iY];split
  ·rename_i hv
   have e:gY LS (i::cT (i+1) s)=gY LS [i]+gY LS (cT (i+1) s):=dB LS [i] _;rw[e,mh,ih,kr,Ow hv,aD,hi]
  ·rename_i hv
   rw[ih,kr,OB hv,Pa]
def Bv(l:List Nat):gY l (du l)=iY l:=by
 rw[<-pX l l 0 J];exact((bn (key:=aD l) (cT 0 l)).perm.symm.map _).sum_nat
def jW:∀ (l:List Nat) (i:Nat),(cT i l).Pairwise (· < ·)
 |[],i=>by simp[cT]
 |n::r,i=>by
  rw[cT];split
  ·refine P2.2 ⟨λ y hy=>?_,jW r (i+1)⟩;have:=l3 r (i+1) y hy;omega
  ·exact jW r (i+1)
def vD(l:List Nat):(du l).Nodup:=(bn (cT 0 l)).perm.nodup ((jW l 0).imp λ h=>by omega)
def kv(l:List Nat)(x:Nat)(h:0<aD l x):x∈du l:=by
 refine(bn _).mem.1 ?_;have:∀ (l:List Nat) (i x:Nat),0<l.getD x 0->i+x∈cT i l:=by
  intro l;induction l with
  |nil=>intro i x h;simp at h
  |cons n r ih=>
   intro i x h;cases x with
   |zero=>simp at h;rw[cT,Ow h];simp
   |succ x=>
    have:=ih (i+1) x (by simpa using h);rw[cT];split
    ·exact Pe _ (by rw[show i+(x+1)=i+1+x by omega];exact this)
    ·rw[show i+(x+1)=i+1+x by omega];exact this
 have:=this l 0 x h;rwa[Pa]at this
def mi{α:Type}{P:List α->Prop}(h0:P [])(h1:∀ l x,P l->P (l++[x]))(l:List α):P l:=by
 rw[<-reverse_reverse l];induction l.reverse with
 |nil=>exact h0
 |cons x r ih=>rw[reverse_cons];exact h1 _ _ ih
def Bw{L M:Nat}(h:L<=M)(hM:M<=15):2^(M-L)*2^(15-M)=2^(15-L):=by rw[<-Re];congr 1;omega
def Bx(l:List Nat)(hb:∀ i,aD l i<=15):∀ (ord:List Nat) (i:Nat),Srt (aD l) (ord++[i])->gY l (ord++[i])<=2^15->
  (eo l (ord++[i])).1=ord.length+1/\(eo l (ord++[i])).2.2.1=aD l i/\(eo l (ord++[i])).2.1*2^(15-aD l i)=gY l ord/\(eo l (ord++[i])).2.2.2=(eo l ord).2.2.2.set i (eo l (ord++[i])).2.1:=by
 refine mi ?_ ?_
 ·intro i _ _;simp[eo,gV,gY]
 ·intro ord j ih i hs hk;have hs1:Srt (aD l) (ord++[j]):=hs.left;have hij:aD l j<=aD l i:=(Srt.append.1 hs).2.2 j (by simp) i (by simp);have hk1:gY l (ord++[j])<=2^15:=by rw[dB]at hk;omega
  obtain⟨h1,h2,h3,_⟩:=ih j hs1 hk1;have hi15:=hb i;have hp:0<2^(15-aD l j):=QO _;have hbound:((eo l (ord++[j])).2.1+1)*2^(15-aD l j)<=2^15:=by
   rw[Pp,h3,Qw,<-mh,<-dB];exact hk1
  have hc:(eo l (ord++[j])).2.1+1<=2^15:=Pb (Rl _ hp) hbound;have e1:((eo l (ord++[j])).2.1+1)%2^64=(eo l (ord++[j])).2.1+1:=P6 (by omega);have hq:((eo l (ord++[j])).2.1+1)*2^(aD l i-aD l j)*2^(15-aD l i)=((eo l (ord++[j])).2.1+1)*2^(15-aD l j):=by
   rw[Qj,Bw hij hi15]
  have hc2:((eo l (ord++[j])).2.1+1)*2^(aD l i-aD l j)<=2^15:=Pb (Rl _ (QO (15-aD l i))) (by rw[hq];exact hbound);have e2:((eo l (ord++[j])).2.1+1)*2^(aD l i-aD l j)%2^64=((eo l (ord++[j])).2.1+1)*2^(aD l i-aD l j):=P6 (by omega);have hst:(eo l (ord++[j]++[i])).2.1=((eo l (ord++[j])).2.1+1)*2^(aD l i-aD l j):=by
   rw[eQ];simp only[gV,h1,h2];rw[Ow (by omega),e1,e2]
  refine⟨by rw[eQ];simp[gV,h1],by rw[eQ];rfl,?_,by rw[eQ];rfl⟩;rw[hst,hq,Pp,h3,Qw,dB,mh]
structure GoodLens(l:List Nat):Prop where
 le:∀ i,aD l i<=15
 kraft:iY l<=2^15
def rZ{l:List Nat}(h:∀ x∈l,x<=15)(i:Nat):aD l i<=15:=by
 rw[aD,LW];cases hg:l[i]? with
 |none=>simp
 |some v=>simpa using h v (OD hg)
def GoodLens.wZ{l:List Nat}(h:eP l=true):GoodLens l:=by
 simp only[eP,OK,Pn,PI]at h;exact⟨rZ h.1,h.2⟩
def GoodLens.Jh{c l:List Nat}(h:LensOk c l):GoodLens l:=⟨h.le,h.kraft⟩
def sd{c l:List Nat}(h:LensOk c l):eP l=true:=by
 simp only[eP,OK,Pn,PI];refine⟨λ x hx=>?_,h.kraft⟩;obtain⟨i,hi⟩:=QB.1 hx;have:=h.le i;rwa[getD_some hi]at this
def vE(l:List Nat):∀ (more ord:List Nat) (x:Nat),x∉more->(eo l (ord++more)).2.2.2[x]? =(eo l ord).2.2.2[x]?
 |[],ord,x,_=>by simp
 |i::r,ord,x,h=>by
  have:=vE l r (ord++[i]) x (λ h'=>h (by simp[h']));rw[No]at this;rw[show ord++i::r=ord++([i]++r) by simp,this,eQ];exact Q7 λ e=>h (by simp[e])
def GW{l:List Nat}(h:GoodLens l){k x:Nat}(hx:(du l)[k]? =some x):∃ code,(gW l)[x]? =some code/\code*2^(15-aD l x)=gY l ((du l).take k)/\code<2^aD l x:=by
 have hcat:du l=(du l).take k++[x]++(du l).drop (k+1):=by
  rw[<-aB hx,P0]
 have hs:Srt (aD l) ((du l).take k++[x]):=by rw[<-aB hx];exact Srt.take (cg _) _
 have htot:gY l (du l)<=2^15:=by rw[Bv];exact h.kraft
 have hk:gY l ((du l).take k++[x])<=2^15:=by rw[hcat,dB]at htot;omega
 obtain⟨_,_,h3,h4⟩:=Bx l h.le _ x hs hk;have hnd:=vD l;have hxm:=nt l x (OD hx);refine⟨(eo l ((du l).take k++[x])).2.1,?_,h3,?_⟩
 ·have e:gW l=(eo l ((du l).take k++[x]++(du l).drop (k+1))).2.2.2:=by unfold gW;rw[<-hcat]
  rw[e,vE l _ _ x,h4]
  ·rw[P4 (by rw[oa];exact hxm.1)]
  ·intro hm;rw[hcat]at hnd;exact(nodup_append.1 hnd).2.2 x (by simp) x hm J
 ·rw[dB,mh,<-h3]at hk;have hL:=h.le x;have e:2^15=2^aD l x*2^(15-aD l x):=by rw[<-Re];congr 1;omega
  rw[e,<-Nat.succ_mul]at hk;exact Nat.le_of_mul_le_mul_right hk (QO _)
theorem Srt.three{α:Type}{key:α->Nat}(n:Nat):∀ {l:List α},Srt key l->l=l.filter (λ x=>decide (key x<n))++l.filter (λ x=>key x==n)++l.filter (λ x=>decide (n<key x))
 |[],_=>rfl
 |x::r,h=>by
  have hr:Srt key r:=(P2.1 h).2;have hx:=(P2.1 h).1;have ih:=Srt.three n hr;rcases Qr (key x) n with hk|hk|hk
  ·have a:¬ n<key x:=by omega
   have b:¬ key x=n:=by omega
   simp only[Rs,hk,a,decide_true,Rp,Qa,Qd,b,Py,PE,Pm];exact If (x:: ·) ih
  ·have e:r.filter (λ x=>decide (key x<n))=[]:=PD.2 λ y hy=>by have:=hx y hy;simp;omega
   have a:¬ key x<n:=by omega
   have b:¬ n<key x:=by omega
   rw[e,Q6]at ih;simp only[Rs,hk,Nat.lt_irrefl,Rp,beq_self_eq_true,Qa,Pm,Py,e,Q6,PE];exact If (x:: ·) ih
  ·have e:r.filter (λ x=>decide (key x<n))=[]:=PD.2 λ y hy=>by have:=hx y hy;simp;omega
   have e2:r.filter (λ x=>key x==n)=[]:=PD.2 λ y hy=>by have:=hx y hy;simp;omega
   have a:¬ key x<n:=by omega
   have b:¬ key x=n:=by omega
   rw[e,e2,Q6,Q6]at ih;simp only[Rs,a,hk,decide_true,Rp,Qd,b,Py,Qa,e,e2,Q6,Pm];exact If (x:: ·) ih
def FK(l:List Nat)(n:Nat):List Nat:=(du l).filter λ x=>aD l x==n
def low(l:List Nat)(n:Nat):List Nat:=(du l).filter λ x=>decide (aD l x<n)
def ny(l:List Nat)(x:Nat):Nat:=(gW l).getD x 0
def js(l:List Nat)(n:Nat):du l=low l n++FK l n++(du l).filter λ x=>decide (n<aD l x):=Srt.three n (cg _)
def oF{l:List Nat}{n x:Nat}(h:x∈FK l n):aD l x=n:=by simpa using(Q4.1 h).2
def DW{l:List Nat}(h:GoodLens l){n m x:Nat}(hx:(FK l n)[m]? =some x):(gW l)[x]? =some (ny l x)/\ny l x*2^(15-n)=gY l (low l n)+m*2^(15-n)/\ny l x<2^n:=by
 have hm:=(sp.1 hx).1;have hn:=oF (OD hx);have hk:(du l)[(low l n).length+m]? =some x:=by
  rw[js l n,No,OU (by omega),PH,OO hm];exact hx
 obtain⟨code,h1,h2,h3⟩:=GW h hk;have hc:ny l x=code:=by rw[ny,LW,h1];rfl
 have ht:(du l).take ((low l n).length+m)=low l n++(FK l n).take m:=by
  conv=>lhs;rw[js l n]
  rw[No,take_length_add_append,Qu (by omega)]
 rw[hc];rw[hn]at h2 h3;refine⟨h1,?_,h3⟩;rw[h2,ht,dB,xV (d:=n) λ y hy=>oF (OS hy),M2,Pq (by omega)]
def K3{l:List Nat}{x:Nat}(hx:0<aD l x):∃ m:Nat,(FK l (aD l x))[m]? =some x:=by
 have:x∈FK l (aD l x):=Q4.2 ⟨kv l x hx,by simp⟩;exact QB.1 this
def gn(l syms:List Nat):List Bool:=syms.flatMap λ s=>bZ (ny l s) (aD l s)
def By(l a:List Nat)(x:Nat):gn l (a++[x])=gn l a++bZ (ny l x) (aD l x):=by simp[gn]
def gN{l:List Nat}(h:GoodLens l):∀ syms:List Nat,(gn l syms).length<=15*syms.length
 |[]=>by simp[gn]
 |s::r=>by
  have ih:=gN h r;have e:gn l (s::r)=bZ (ny l s) (aD l s)++gn l r:=by simp[gn]
  have:=h.le s;rw[e,AT,aK,KW];omega
def zb{l:List Nat}(h:GoodLens l){x:Nat}(hx:0<aD l x):(gW l)[x]? =some (ny l x)/\ny l x<2^aD l x:=by
 obtain⟨m,hm⟩:=K3 hx;obtain⟨h1,_,h3⟩:=DW h hm;exact⟨h1,h3⟩
def vF{l:List Nat}{x:Nat}(hx:x<l.length):l[x]? =some (aD l x):=by
 simp[aD,LW,hx]
def Bz{l:List Nat}(h:eP l=true):∀ x∈l,x<=15:=by
 simp only[eP,OK,Pn,PI]at h;exact h.1
def mj(v:Nat):Nat:=(max (Lib.bitLen v) 1+6)/7
def pY(width:Nat)(s:Nat×Nat×Nat×Nat)(x:Nat):Nat×Nat×Nat×Nat:=
 if 0<x/2^width then(s.1+1,s.2.1+(mj (s.1+1-s.2.2.2)+mj (x/2^width)),s.2.2.1+1,s.1+1)else(s.1+1,s.2.1,s.2.2.1,s.2.2.2)
def gp(width:Nat)(l:List Nat):Nat×Nat×Nat×Nat:=l.foldl (pY width) (0,0,0,0)
def zd(width:Nat)(l:List Nat):Nat:=
 (gp width l).2.1+mj l.length+mj width+mj (gp width l).2.2.1+(l.length*width+7)/8
def vG(width:Nat)(l:List Nat)(x:Nat):gp width (l++[x])=pY width (gp width l) x:=by simp[gp]
def iI(width:Nat)(s:Nat×List Bool×List Nat×Nat×Nat)(x:Nat):Nat×List Bool×List Nat×Nat×Nat:=
 if 0<x/2^width then(s.1+1,s.2.1++bZ (x%2^width) width,s.2.2.1++uv (s.1+1-s.2.2.2.2)++uv (x/2^width),s.2.2.2.1+1,s.1+1)
 else(s.1+1,s.2.1++bZ (x%2^width) width,s.2.2.1,s.2.2.2.1,s.2.2.2.2)
def di(width:Nat)(l:List Nat):Nat×List Bool×List Nat×Nat×Nat:=l.foldl (iI width) (0,[],[],0,0)
def mm(width:Nat)(l:List Nat):List Nat:=
 uv l.length++uv width++uv (di width l).2.2.2.1++bE (di width l).2.1++(di width l).2.2.1
def gq(width:Nat)(l:List Nat)(x:Nat):di width (l++[x])=iI width (di width l) x:=by simp[di]
def gr(l:List Nat):Nat->Nat
 |0=>0
 |m+1=>if zd m l<zd (gr l m) l then m else gr l m
def gu(l:List Nat):List Nat:=mm (gr l 32) l
def pZ(l:List Nat):∀ m,gr l m<=m-1
 |0=>KP _
 |m+1=>by unfold gr;split;(omega);(have:=pZ l m;omega)
end Go.Kw
namespace Go.Kw
open Go.RowKit
section
variable {w0 w:World} {cs:List Chunk}
end
def tA(l:List Nat)(k:Nat):List Nat:=(l.drop (64*k)).take 64
def gK(n:Nat):Nat:=(n+63)/64
def K4(l:List Nat)(k:Nat):(l.take (min (64*k+64) l.length)).drop (64*k)=tA l k:=by
 rw[tA,drop_take];have:min (64*k+64) l.length-64*k=min 64 (l.length-64*k):=by omega
 rw[this,<-OJ,<-take_eq_take_min]
def eU(l:List Nat)(k:Nat):(tA l k).length=min 64 (l.length-64*k):=by simp[tA]
def ze{l:List Nat}{k x:Nat}(h:x∈tA l k):x∈l:=P1 (OS h)
def xd(l:List Nat)(k:Nat):List (List Nat×Nat):=(List.range k).map λ i=>(gu (tA l i),0)
def qQ(l:List Nat):Nat:=l.foldl (λ m x=>max m (x+1)) 0
def DX(l:List Nat)(x:Nat):qQ (l++[x])=max (qQ l) (x+1):=by simp[qQ]
def K5{l:List Nat}{B:Nat}(h:∀ x∈l,x<B):qQ l<=B:=by
 have:∀ (l:List Nat) (m:Nat),m<=B->(∀ x∈l,x<B)->l.foldl (λ m x=>max m (x+1)) m<=B:=by
  intro l;induction l with
  |nil=>intro m hm _;exact hm
  |cons x r ih=>intro m hm h;exact ih _ (by have:=h x (by simp);show max m (x+1)<=B;omega) λ y hy=>h y (by simp[hy])
 exact this l 0 (IN _) h
def xW:∀ (l:List Nat),∀ x∈l,x<qQ l:=by
 have mono:∀ (l:List Nat) (m:Nat),m<=l.foldl (λ m x=>max m (x+1)) m:=by
  intro l;induction l with
  |nil=>intro m;exact KP _
  |cons x r ih=>intro m;exact Pb (Nat.le_max_left _ _) (ih _)
 have:∀ (l:List Nat) (m:Nat),∀ x∈l,x<l.foldl (λ m x=>max m (x+1)) m:=by
  intro l;induction l with
  |nil=>intro m x h;cases h
  |cons y r ih=>
   intro m x h;rcases LD.1 h with rfl|h
   ·exact QQ (by omega:x<max m (x+1)) (mono r _)
   ·exact ih _ x h
 exact λ l=>this l 0
def dx(c:List Nat)(x:Nat):List Nat:=c.set x (c.getD x 0+1)
def l8(m:Nat)(l:List Nat):List Nat:=l.foldl dx (List.replicate m 0)
def BA(m:Nat)(l:List Nat)(x:Nat):l8 m (l++[x])=dx (l8 m l) x:=by simp[l8]
def gO(m:Nat)(l:List Nat):(l8 m l).length=m:=by
 have:∀ (l c:List Nat),(l.foldl dx c).length=c.length:=by
  intro l;induction l with
  |nil=>intro c;rfl
  |cons x r ih=>intro c;rw[Q5,ih];simp[dx]
 rw[l8,this];simp
def GX(m:Nat)(l:List Nat):∀ x∈l8 m l,x<=l.length:=by
 have:∀ (l c:List Nat) (B:Nat),(∀ x∈c,x<=B)->∀ x∈l.foldl dx c,x<=B+l.length:=by
  intro l;induction l with
  |nil=>intro c B h x hx;simpa using h x hx
  |cons y r ih=>
   intro c B h x hx;have:=ih (dx c y) (B+1) (λ z hz=>by
    rcases Qf hz with hz|rfl
    ·have:=h z hz;omega
    ·rw[LW];cases hg:c[y]? with
     |none=>simp
     |some v=>have:=h v (OD hg);simp;exact this) x hx
   simp only[KW];omega
 have h:=this l (List.replicate m 0) 0 (λ x hx=>by have:=PR hx;omega);simpa[l8]using h
def DY{m:Nat}{l:List Nat}(hm:∀ x∈l,x<m):∀ x∈l,0<(l8 m l).getD x 0:=by
 have mono:∀ (l c:List Nat) (j:Nat),c.getD j 0<=(l.foldl dx c).getD j 0:=by
  intro l;induction l with
  |nil=>intro c j;exact KP _
  |cons y r ih=>
   intro c j;refine Pb ?_ (ih _ j);by_cases h:y=j
   ·subst h;by_cases hl:y<c.length
    ·rw[dx,fx hl];omega
    ·simp[LW,OX (Nat.le_of_not_lt hl)]
   ·rw[dx,dI h];exact KP _
 have:∀ (l c:List Nat),(∀ x∈l,x<c.length)->∀ x∈l,0<(l.foldl dx c).getD x 0:=by
  intro l;induction l with
  |nil=>intro c _ x h;cases h
  |cons y r ih=>
   intro c hc x h;have hy:=hc y (by simp);by_cases hx:x=y
   ·subst hx;refine QQ ?_ (mono r _ x);rw[dx,fx hy];omega
   ·exact ih (dx c y) (λ z hz=>by simp[dx];exact hc z (by simp[hz])) x ((LD.1 h).resolve_left hx)
 exact this l _ (by simpa using hm)
def cD(l:List Nat):List Nat:=cA (l8 (qQ l) l)
def eg(l:List Nat):(cD l).length=qQ l:=by rw[cD,iG,gO]
def mo(l:List Nat)(h:qQ l<=1024):LensOk (l8 (qQ l) l) (cD l):=DV _ (by have:=kt (l8 (qQ l) l);rw[gO]at this;omega)
def DZ{l:List Nat}(h:qQ l<=1024):∀ x∈l,x<(cD l).length/\0<aD (cD l) x:=λ x hx=>by
 have h1:=xW l x hx;have h2:=DY (xW l) x hx;refine⟨by rw[eg];exact h1,?_⟩;have:=(mo l h).zero x (by rw[gO];exact h1);rw[aD];omega
def vH(l:List Nat)(k:Nat):List (List Nat×Nat):=(List.range k).map λ i=>(bE (gn (cD l) (tA l i)),(gn (cD l) (tA l i)).length)
def vI(kind:Nat)(p:List Nat×Nat):List Nat:=uv (if kind=0 then p.1.length else p.2)++p.1
def mV(kind:Nat)(ps:List (List Nat×Nat)):List Nat:=ps.flatMap (vI kind)
def mq(kind:Nat)(ps:List (List Nat×Nat))(p:List Nat×Nat):mV kind (ps++[p])=mV kind ps++vI kind p:=by simp[mV]
def q8(n kind:Nat)(lens:List Nat):List Nat:=uv n++uv kind++(if kind=1 then uv lens.length++lens.map (· %2^8)else[])
def l9(n kind:Nat)(lens:List Nat):(q8 n kind lens).length<=30+lens.length:=by
 have h1:=aN n;have h2:=aN kind;have h3:=aN lens.length;unfold q8;split<;>simp<;>omega
def xX(n kind:Nat)(lens:List Nat)(ps:List (List Nat×Nat)):List Nat:=q8 n kind lens++mV kind ps
def la(l:List Nat)(h:l.length<=64):(gu l).length<=10000:=by
 have hw:∀ w,w<=31->∀ l:List Nat,(di w l).2.1.length=l.length*w/\(di w l).2.2.1.length<=20*l.length:=by
  intro w _;refine mi ⟨by simp[di],by simp[di]⟩ λ l x ih=>?_;rw[gq];have h1:=aN ((di w l).1+1-(di w l).2.2.2.2);have h2:=aN (x/2^w);unfold iI;simp only[AT,KW,Oy];split<;>simp only[AT,aK]<;>(refine⟨by rw[ih.1,Pp];omega,by omega⟩)
 have hb:=pZ l 32;obtain⟨h1,h2⟩:=hw (gr l 32) (by omega) l;have a1:=aN l.length;have a2:=aN (gr l 32);have a3:=aN (di (gr l 32) l).2.2.2.1;have hm:l.length*gr l 32<=64*31:=Nat.mul_le_mul h (by omega);unfold gu mm;simp only[AT,bV];omega
def qe(l:List Nat)(kind:Nat):List Nat:=xX l.length kind (if kind=1 then cD l else[]) (if kind=1 then vH l (gK l.length)else xd l (gK l.length))
def jt(l:List Nat):Nat:=if(qe l 1).length<(qe l 0).length then 1 else 0
def ju(l:List Nat):jt l<=1:=by unfold jt;split<;>omega
structure OkN(l:List Nat):Prop where
 len:l.length<=4096
 lt:∀ x∈l,x<8
def OkN.Oo{l:List Nat}(h:OkN l):qQ l<=8:=K5 h.lt
def OkN.mx{l:List Nat}(h:OkN l):qQ l<=1024:=Pb h.Oo (by decide)
end Go.Kw
namespace Go.Kw
def xe(v:Nat):Nat:=if v%2^1=1 then v/2^1^^^2197175160 else v/2^1
def cG(v:Nat):Nat->Nat
 |0=>v
 |n+1=>xe (cG v n)
def mr(i:Nat):Nat:=cG i 4
def Ny(v c:Nat):Nat:=v^^^c
def oz(a:Nat):Nat:=a/2^4^^^mr (a%2^4)
def qf(v c:Nat):Nat:=oz (oz (Ny v c))
def mu(l:List Nat):Nat:=l.foldl qf 4294967295
def nz(l:List Nat)(c:Nat):mu (l++[c])=qf (mu l) c:=by simp[mu]
def ep(l:List Nat):Nat:=4294967295^^^mu l
def gZ(v:Nat):List Nat:=[v%2^8,v/2^8%2^8,v/2^16%2^8,v/2^24%2^8]
def aq(l:List Nat):List Nat:=l++gZ (ep l)
def oG(v:Nat):∀ x∈gZ v,x<256:=λ x hx=>by
 simp only[gZ,LD,KY,OE]at hx;omega
def aX(l:List Nat):(aq l).length=l.length+4:=by simp[aq,gZ]
def ca{a b:Nat}(ha:a<4294967296)(hb:b<4294967296):a^^^b<4294967296:=by
 have:=Nat.xor_lt_two_pow (n:=32) (x:=a) (y:=b) (by omega) (by omega);omega
def qg{v:Nat}(h:v<4294967296):xe v<4294967296:=by
 unfold xe;split
 ·exact ca (by omega) (by omega)
 ·omega
def qh{v:Nat}(h:v<4294967296):∀ n,cG v n<4294967296
 |0=>h
 |n+1=>qg (qh h n)
def tB{i:Nat}(h:i<16):mr i<4294967296:=qh (by omega) 4
def fg{a:Nat}(h:a<4294967296):oz a<4294967296:=ca (by omega) (tB (by omega))
def GY:∀ (l:List Nat),(∀ x∈l,x<256)->mu l<4294967296:=by
 refine mi (λ _=>by simp[mu]) λ l c ih h=>?_;rw[nz];have h1:=ih λ x hx=>h x (by simp[hx]);have h2:=h c (by simp);exact fg (fg (ca h1 (by omega)))
def fQ{l:List Nat}(h:∀ x∈l,x<256):ep l<4294967296:=ca (by omega) (GY l h)
def nA:List Nat:=(List.range 16).map mr
def nB(k:Nat):List Nat:=(List.range k).map mr++List.replicate (16-k) 0
def vJ{k:Nat}(h:k<=16):(nB k).length=16:=by simp[nB];omega
def E0{k:Nat}(h:k<16):(nB k).set k (mr k)=nB (k+1):=by
 unfold nB;rw[Q2 _ _ (by simp),show 16-k=(16-(k+1))+1 by omega,R1,Si];simp
def E1:nB 16=nA:=by simp[nB,nA]
def qi{i:Nat}(h:i<16):nA[i]? =some (mr i):=by simp[nA,h]
def E2(width:Nat)(l:List Nat):∀ x∈mm width l,x<256:=λ x hx=>by
 have he:∀ l:List Nat,∀ x∈(di width l).2.2.1,x<256:=by
  refine mi (λ x hx=>by simp[di]at hx) λ l y ih x hx=>?_;rw[gq]at hx;unfold iI at hx;split at hx
  ·simp only[OM]at hx;rcases hx with(hx|hx)|hx
   ·exact ih x hx
   ·exact fw _ x hx
   ·exact fw _ x hx
  ·exact ih x hx
 unfold mm at hx;simp only[OM]at hx;rcases hx with(((hx|hx)|hx)|hx)|hx
 ·exact fw _ x hx
 ·exact fw _ x hx
 ·exact fw _ x hx
 ·exact pS _ x hx
 ·exact he l x hx
def K6(kind:Nat)(ps:List (List Nat×Nat))(h:∀ p∈ps,∀ x∈p.1,x<256):∀ x∈mV kind ps,x<256:=λ x hx=>by
 obtain⟨p,hp,hx⟩:=Q9.1 hx;rcases OM.1 hx with hx|hx
 ·exact fw _ x hx
 ·exact h p hp x hx
def GZ(n kind:Nat)(lens:List Nat)(ps:List (List Nat×Nat))(h:∀ p∈ps,∀ x∈p.1,x<256):∀ x∈xX n kind lens ps,x<256:=λ x hx=>by
 unfold xX q8 at hx;simp only[OM]at hx;rcases hx with((hx|hx)|hx)|hx
 ·exact fw _ x hx
 ·exact fw _ x hx
 ·split at hx
  ·rcases OM.1 hx with hx|hx
   ·exact fw _ x hx
   ·obtain⟨y,_,rfl⟩:=Ps.1 hx;omega
  ·cases hx
 ·exact K6 kind ps h x hx
def oh{α:Type}{l:List α}{k:Nat}{x:α}(h:l[k]? =some x):l.drop k=x::l.drop (k+1):=by
 obtain⟨hk,rfl⟩:=sp.1 h;exact OZ hk
def FL:Nat->Nat->List Nat->Nat×Nat×Nat
 |_,_,[]=>(0,0,10)
 |i,v,c::r=>if i=9/\c≠1 then(0,0,9)else if c<128 then(if c=0/\0<i then(0,0,9)else(v+c%2^7*2^(7*i),i+1,0))else FL (i+1) (v+c%2^7*2^(7*i)) r
def E3(l:List Nat):Nat×Nat×Nat:=FL 0 0 l
def tC{v x k:Nat}(h:v<2^k):v|||x*2^k=v+x*2^k:=by
 rw[Nat.or_comm,Rt,<-Nat.shiftLeft_eq,Nat.shiftLeft_add_eq_or_of_lt h]
def H0{k:Nat}(h:k<=8):2^(7*k)<=2^56:=Pz (by decide) (by omega)
def se{c k:Nat}(hk:k<=9)(h9:¬ (k=9/\c≠1)):c%2^7*2^(7*k)<2^64:=by
 by_cases h:k=9
 ·have:c=1:=Px λ hc=>h9 ⟨h,hc⟩;subst h;subst this;decide
 ·have:=H0 (by omega:k<=8);have h2:c%2^7*2^(7*k)<=c%2^7*2^56:=Q3 _ this;omega
def K7{v c k:Nat}(hv:v<2^(7*k))(hk:k<=9)(h9:¬ (k=9/\c≠1)):v|||(c%2^7*2^(7*k)%2^64)=v+c%2^7*2^(7*k):=by
 rw[P6 (se hk h9),tC hv]
def BB{v c k:Nat}(hv:v<2^(7*k)):v+c%2^7*2^(7*k)<2^(7*(k+1)):=by
 have e:2^(7*(k+1))=2^7*2^(7*k):=by rw[<-Re];congr 1;omega
 have h:c%2^7*2^(7*k)<=(2^7-1)*2^(7*k):=PS _ (by omega);rw[Nat.sub_mul]at h;have:2^(7*k)<=2^7*2^(7*k):=Nat.le_mul_of_pos_left _ (by decide);rw[e];omega
def IA:∀ y,y<256->(y|||128)%2^7=y%2^7/\128<=(y|||128)/\(y|||128)<256:=by decide+kernel
def zf:∀ (f i v x:Nat) (rest:List Nat),x<128^(f+1)->i+f=9->x*2^(7*i)<2^64->(0<x\/i=0)->FL i v (qP f x++rest)=(v+x*2^(7*i),i+(qP f x).length,0)
 |0,i,v,x,rest,hx,hi,hb,h0=>by
  have hx1:x<128:=by simpa using hx
  have h9:i=9:=by omega
  subst h9;have hx2:x<=1:=by omega
  have hx3:x=1:=by omega
  subst hx3;simp[qP,FL]
 |f+1,i,v,x,rest,hx,hi,hb,h0=>by
  rw[qP];by_cases hs:x<128
  ·rw[Ow hs];have e1:x%2^8=x:=P6 (by omega);have e2:x%2^7=x:=P6 (by omega);rw[e1,Su,FL,OB (by omega),Ow hs,OB (by omega),e2];simp
  ·rw[OB hs,PE];obtain⟨h1,h2,h3⟩:=IA (x%2^8) (by omega);rw[FL,OB (by omega),OB (Nat.not_lt.2 h2),h1];have hp:2^(7*(i+1))=2^7*2^(7*i):=by rw[<-Re];congr 1;omega
   have hdiv:x/2^7*2^(7*(i+1))+x%2^7*2^(7*i)=x*2^(7*i):=by
    rw[hp,<-Qj,<-Pp];congr 1;have:=Nat.div_add_mod x (2^7);omega
   have hx7:x<2^7*128^(f+1):=by rw[PG,Ru]at hx;exact hx
   have hb2:x/2^7*2^(7*(i+1))<2^64:=RX (by rw[<-hdiv];exact Ri _ _) hb;have ih:=zf f (i+1) (v+x%2^8%2^7*2^(7*i)) (x/2^7) rest (Nat.div_lt_of_lt_mul hx7) (by omega) hb2 (.inl (Nat.div_pos (by omega) (by decide)));rw[ih];have e8:x%2^8%2^7=x%2^7:=by omega
   rw[e8];simp only[KW,OY,Sg];refine⟨?_,by rw[Qi,Rt 1]⟩;rw[<-hdiv,Qi,Rt (x%2^7*2^(7*i))]
def K8{x:Nat}(h:x<2^64)(rest:List Nat):E3 (uv x++rest)=(x,(uv x).length,0):=by
 have:=zf 9 0 0 x rest (by have:(2:Nat)^64<=128^10:=(by decide);omega) J (by simpa using h) (.inr J);simpa[E3,uv]using this
def rb(l:List Nat)(i:Nat):Nat:=l.getD (i/8) 0/2^(7-i%8)%2
def M4(l:List Nat)(i:Nat):rb l i<2:=R4 _ (by decide)
def bvN(l:List Nat)(a:Nat):Nat->Nat
 |0=>0
 |m+1=>2*bvN l a m+rb l (a+m)
def nC(l:List Nat)(a:Nat):∀ m,bvN l a m<2^m
 |0=>by simp[bvN]
 |m+1=>by have:=nC l a m;have:=M4 l (a+m);rw[bvN,PG];omega
def vK:∀ (b0 b1 b2 b3 b4 b5 b6 b7:Bool) (j:Fin 8),(gl b0 128|||(gl b1 64|||(gl b2 32|||(gl b3 16|||(gl b4 8|||(gl b5 4|||(gl b6 2|||gl b7 1)))))))/2^(7-j.val)%2=([b0,b1,b2,b3,b4,b5,b6,b7].getD j.val false).toNat:=by decide+kernel
def xY(l:List Bool)(k j:Nat)(hj:j<8):dc l k/2^(7-j)%2=(cz l (8*k+j)).toNat:=by
 have h:=vK (cz l (8*k)) (cz l (8*k+1)) (cz l (8*k+2)) (cz l (8*k+3)) (cz l (8*k+4)) (cz l (8*k+5)) (cz l (8*k+6)) (cz l (8*k+7)) ⟨j,hj⟩;unfold dc;refine h.trans (If Bool.toNat ?_)
 match j,hj with
 |0,_=>rfl
 |1,_=>rfl
 |2,_=>rfl
 |3,_=>rfl
 |4,_=>rfl
 |5,_=>rfl
 |6,_=>rfl
 |7,_=>rfl
def zg{l:List Bool}{i:Nat}(h:i<l.length):rb (bE l) i=(cz l i).toNat:=by
 have hg:(bE l)[i/8]? =some (dc l (i/8)):=by
  unfold bE;rw[OT,Rg (by omega)];rfl
 have hd:(bE l).getD (i/8) 0=dc l (i/8):=by rw[LW,hg];rfl
 rw[rb,hd,xY l _ _ (R4 _ (by decide))];congr 2;omega
def mw(x:Nat):∀ (m k:Nat),k<m->(bZ x m)[k]? =some (decide (x/2^(m-1-k)%2=1))
 |0,k,h=>by omega
 |m+1,0,_=>by simp[bZ]
 |m+1,k+1,h=>by
  have:=mw x m k (by omega);rw[bZ,QH,this,show m+1-1-(k+1)=m-1-k by omega]
def xZ(A B:List Bool)(x m:Nat)(hx:x<2^m):∀ k,k<=m->bvN (bE (A++bZ x m++B)) A.length k=x/2^(m-k)
 |0,_=>by rw[bvN,QT,Rk hx]
 |k+1,hk=>by
  have ih:=xZ A B x m hx k (by omega);have hl:(A++bZ x m++B).length=A.length+m+B.length:=by simp[aK,Qi]
  have hbit:cz (A++bZ x m++B) (A.length+k)=decide (x/2^(m-1-k)%2=1):=by
   rw[cz,LW,No,OU (by omega),PH,OO (by rw[aK];omega),mw x m k (by omega)];rfl
  rw[bvN,ih,zg (by omega),hbit];have e:m-k=(m-(k+1))+1:=by omega
  have e2:m-1-k=m-(k+1):=by omega
  rw[e2,e,PG,<-Nat.div_div_eq_div_mul];generalize x/2^(m-(k+1))=q;by_cases h:q%2=1
  ·rw[OL h];simp;omega
  ·rw[KG h];simp;omega
def eV{v:Nat}(h0:0<v)(h:v<2^64):1<=Lib.bitLen v/\2^(Lib.bitLen v-1)<=v/\v<2^Lib.bitLen v:=Lib.bitLenAux_bounds 64 v h (by omega)
def kg(v:Nat):List Bool:=bZ 0 (Lib.bitLen v-1)++bZ v (Lib.bitLen v)
def kh(v:Nat):List Bool:=kg (Lib.bitLen v)++bZ v (Lib.bitLen v-1)
def my(v:Nat):(kg v).length=Lib.bitLen v-1+Lib.bitLen v:=by simp[kg,aK]
def mz(v:Nat):(kh v).length=(Lib.bitLen (Lib.bitLen v)-1+Lib.bitLen (Lib.bitLen v))+(Lib.bitLen v-1):=by simp[kh,my,aK]
def H2{v:Nat}(h:v<2^32):(kh v).length<=42:=by
 rw[mz];have h1:=bitLen_le h;have h2:Lib.bitLen (Lib.bitLen v)<=6:=bitLen_le (by omega);omega
def zh(v:Nat):∀ m k,m<=k->bZ (v%2^k) m=bZ v m
 |0,_,_=>rfl
 |m+1,k,h=>by
  rw[bZ,bZ,zh v m k (by omega)];congr 2;have e:v%2^k/2^m%2^1=v/2^m%2^1:=by
   obtain⟨d,rfl⟩:∃ d,k=m+1+d:=⟨k-(m+1),by omega⟩;rw[Re,PG,Qj,Nat.mod_mul_right_div_self];rw[Nat.mod_mul_right_mod]
  rw[e]
def IB(A B:List Bool)(x m k:Nat)(hk:k<m):rb (bE (A++(bZ x m++B))) (A.length+k)=x/2^(m-1-k)%2:=by
 have hl:(A++(bZ x m++B)).length=A.length+m+B.length:=by simp[aK,Qi]
 rw[zg (by omega),cz,LW,OU (by omega),PH,OO (by rw[aK];omega),mw x m k hk];rw[QZ];rcases Qk (x/2^(m-1-k))with h|h
 ·rw[h,KG (by omega)];rfl
 ·rw[h,OL J];rfl
def H3(A B:List Bool){v k:Nat}(hk:k<Lib.bitLen v-1):rb (bE (A++(kg v++B))) (A.length+k)=0:=by
 unfold kg;rw[No,IB A _ 0 _ k hk,Nat.zero_div]
def H4(A B:List Bool){v:Nat}(h0:0<v)(h:v<2^64):rb (bE (A++(kg v++B))) (A.length+(Lib.bitLen v-1))=1:=by
 obtain⟨h1,h2,h3⟩:=eV h0 h;unfold kg;have e:A++(bZ 0 (Lib.bitLen v-1)++bZ v (Lib.bitLen v)++B)=(A++bZ 0 (Lib.bitLen v-1))++(bZ v (Lib.bitLen v)++B):=by simp[No]
 have e2:A.length+(Lib.bitLen v-1)=(A++bZ 0 (Lib.bitLen v-1)).length+0:=by simp[aK]
 rw[e,e2,IB _ _ _ _ 0 (by omega),QT];have h4:v/2^(Lib.bitLen v-1)=1:=by
  have e3:Lib.bitLen v=(Lib.bitLen v-1)+1:=by omega
  rw[e3,PG]at h3;exact Nat.div_eq_of_lt_le (by omega) (by omega)
 rw[h4]
def H5(A B:List Bool){v:Nat}(h0:0<v)(h:v<2^64):bvN (bE (A++(kg v++B))) (A.length+(Lib.bitLen v-1)) (Lib.bitLen v)=v:=by
 obtain⟨h1,h2,h3⟩:=eV h0 h;unfold kg;have e:A++(bZ 0 (Lib.bitLen v-1)++bZ v (Lib.bitLen v)++B)=(A++bZ 0 (Lib.bitLen v-1))++bZ v (Lib.bitLen v)++B:=by simp[No]
 have e2:A.length+(Lib.bitLen v-1)=(A++bZ 0 (Lib.bitLen v-1)).length:=by simp[aK]
 rw[e,e2,xZ _ _ _ _ h3 _ (KP _),PX,Sf,Nat.div_one]
def H6(A B:List Bool)(v m:Nat):bvN (bE (A++(bZ v m++B))) A.length m=v%2^m:=by
 rw[<-zh v m m (KP _),<-No,xZ A B _ m (R4 _ (QO m)) m (KP _),PX,Sf,Nat.div_one]
def H7{v:Nat}(h0:0<v)(h:v<2^64):2^(Lib.bitLen v-1)+v%2^(Lib.bitLen v-1)=v:=by
 obtain⟨h1,h2,h3⟩:=eV h0 h;have e3:Lib.bitLen v=(Lib.bitLen v-1)+1:=by omega
 have h4:v/2^(Lib.bitLen v-1)=1:=by
  rw[e3,PG]at h3;exact Nat.div_eq_of_lt_le (by omega) (by omega)
 have:=Nat.div_add_mod v (2^(Lib.bitLen v-1));rw[h4]at this;omega
def IC(l:List Nat)(a x:Nat):Prop:=(∀ k,k<Lib.bitLen x-1->rb l (a+k)=0)/\rb l (a+(Lib.bitLen x-1))=1/\bvN l (a+(Lib.bitLen x-1)) (Lib.bitLen x)=x
def M5(l:List Nat)(a x:Nat):Prop:=IC l a (Lib.bitLen x)/\bvN l (a+(2*(Lib.bitLen (Lib.bitLen x)-1)+1)) (Lib.bitLen x-1)=x%2^(Lib.bitLen x-1)
def E4(A B:List Bool){x:Nat}(h0:0<x)(h:x<2^64):IC (bE (A++(kg x++B))) A.length x:=
 ⟨λ k hk=>H3 A B hk,H4 A B h0 h,H5 A B h0 h⟩
def E5(A B:List Bool){x:Nat}(h0:0<x)(h:x<2^64):M5 (bE (A++(kh x++B))) A.length x:=by
 obtain⟨h1,h2,h3⟩:=eV h0 h;have h4:=bitLen_le64 x;have h5:=(eV (v:=Lib.bitLen x) (by omega) (by omega)).1;have e:A++(kh x++B)=A++(kg (Lib.bitLen x)++(bZ x (Lib.bitLen x-1)++B)):=by unfold kh;simp only[No]
 refine⟨by rw[e];exact E4 A _ (by omega) (by omega),?_⟩;have e2:A++(kh x++B)=(A++kg (Lib.bitLen x))++(bZ x (Lib.bitLen x-1)++B):=by rw[e,No]
 have e3:A.length+(2*(Lib.bitLen (Lib.bitLen x)-1)+1)=(A++kg (Lib.bitLen x)).length:=by rw[AT,my];omega
 rw[e2,e3,H6]
def cH:Nat->List Nat->List Bool
 |_,[]=>[]
 |bf,p::r=>kh (p+1-bf)++cH (p+1) r
def K9(bf:Nat)(l:List Nat):Nat:=l.foldl (λ _ p=>p+1) bf
def E6(bf:Nat)(l:List Nat)(p:Nat):K9 bf (l++[p])=p+1:=by simp[K9]
def qj:∀ (l:List Nat) (bf p:Nat),cH bf (l++[p])=cH bf l++kh (p+1-K9 bf l)
 |[],bf,p=>by simp[cH,K9]
 |q::r,bf,p=>by
  rw[PE,cH,cH,qj r,No];rfl
def tD:∀ (l r:List Nat) (bf:Nat),cH bf (l++r)=cH bf l++cH (K9 bf l) r
 |[],r,bf=>rfl
 |q::l,r,bf=>by rw[PE,cH,cH,tD l r,No];rfl
structure OkP(l:List Nat):Prop where
 len:l.length<=4096
 asc:l.Pairwise (· < ·)
 lt:∀ p∈l,p<4096
def nD:∀ (l:List Nat) (bf:Nat),(∀ p∈l,p<4096)->(cH bf l).length<=42*l.length
 |[],_,_=>IN _
 |p::r,bf,h=>by
  have h1:=nD r (p+1) λ q hq=>h q (Pe _ hq);have h2:(kh (p+1-bf)).length<=42:=H2 (by have:=h p (by simp);omega);rw[cH,AT,KW];omega
def FM(l:List Nat)(i:Nat):Nat:=K9 0 (l.take i)
def qk{l:List Nat}{i p:Nat}(h:l[i]? =some p):FM l (i+1)=p+1:=by unfold FM;rw[aB h,E6]
def E7{l:List Nat}(h:OkP l){i p:Nat}(hp:l[i]? =some p):FM l i<=p:=by
 cases i with
 |zero=>exact IN _
 |succ i=>
  have hi:=dH hp;obtain⟨q,hq⟩:∃ q,l[i]? =some q:=⟨_,py (by omega)⟩;rw[qk hq];have h1:=sp.1 hq;have h2:=sp.1 hp;have:=PU.1 h.asc i (i+1) (by omega) hi (by omega);rw[h1.2,h2.2]at this;exact this
def mW(l:List Nat):Nat->List (Nat×Nat)
 |0=>[]
 |i+1=>if i%16=0 then mW l i++[(l.getD i 0,(cH 0 (l.take i)).length)]else mW l i
def mA(l:List Nat):∀ i,(mW l i).length=(i+15)/16
 |0=>rfl
 |i+1=>by
  unfold mW;have:=mA l i;split
  ·rw[AT,this,KV];omega
  ·rw[this];omega
def tE(l:List Nat):∀ i k x,(mW l i)[k]? =some x->x=(l.getD (16*k) 0,(cH 0 (l.take (16*k))).length)/\16*k<i
 |0,k,x,h=>by simp[mW]at h
 |i+1,k,x,h=>by
  unfold mW at h;split at h
  ·rename_i h16
   rcases OI k (mW l i).length with h1|h1
   ·rw[OO h1]at h;have:=tE l i k x h;exact⟨this.1,by omega⟩
   ·rw[OU h1]at h;have h2:=dH h;have e:k-(mW l i).length=0:=by simp at h2;omega
    rw[e]at h;cases h;rw[mA]at h1 e;have e2:16*k=i:=by omega
    rw[e2];exact⟨J,by omega⟩
  ·have:=tE l i k x h;exact⟨this.1,by omega⟩
def ug(s:List (Nat×Nat)):Nat->List Nat
 |0=>[]
 |k+1=>if k=0 then[]else ug s k++uv ((s.getD k (0,0)).1-(s.getD (k-1) (0,0)).1)++uv ((s.getD k (0,0)).2-(s.getD (k-1) (0,0)).2)
def E8(s:List (Nat×Nat)):∀ k,∀ x∈ug s k,x<256
 |0,x,h=>by cases h
 |k+1,x,h=>by
  unfold ug at h;split at h
  ·cases h
  ·rcases OM.1 h with h|h
   ·rcases OM.1 h with h|h
    ·exact E8 s k x h
    ·exact fw _ x h
   ·exact fw _ x h
def zi(s:List (Nat×Nat)):∀ k,(ug s k).length<=20*k
 |0=>IN _
 |k+1=>by
  unfold ug;split
  ·exact IN _
  ·have h1:=zi s k;have h2:=aN ((s.getD k (0,0)).1-(s.getD (k-1) (0,0)).1);have h3:=aN ((s.getD k (0,0)).2-(s.getD (k-1) (0,0)).2);rw[AT,AT];omega
def iJ(l:List Nat):List Nat:=uv l.length++uv (cH 0 l).length++bE (cH 0 l)++ug (mW l l.length) (mW l l.length).length
def tF(l:List Nat):∀ x∈iJ l,x<256:=λ x h=>by
 unfold iJ at h;rcases OM.1 h with h|h
 ·rcases OM.1 h with h|h
  ·rcases OM.1 h with h|h<;>exact fw _ x h
  ·exact pS _ x h
 ·exact E8 _ _ x h
def mB{l:List Nat}(h:OkP l):(iJ l).length<=40000:=by
 unfold iJ;have h1:=aN l.length;have h2:=aN (cH 0 l).length;have h3:=nD l 0 h.lt;have h4:=zi (mW l l.length) (mW l l.length).length;have h5:=h.len;rw[AT,AT,AT,bV];rw[mA]at h4⊢;omega
def dK(s:ByteArray):List Nat:=uv s.size++aF s
def df(l:List Nat):List Nat:=uv l.length++l
def j6(ps:List Pr):List Nat:=uv ps.length++ps.flatMap λ p=>dK p.1++dK p.2
def vL{s t:ByteArray}(h:aF s=aF t):s=t:=by
 unfold aF at h;have:s.data.toList=t.data.toList:=List.map_inj_right (λ a b h=>Rw.1 h)|>.1 h;cases s;cases t;simpa[Array.toList_inj]using this
def M6(p:Pr):Prop:=p.1.size<2^64/\p.2.size<2^64
