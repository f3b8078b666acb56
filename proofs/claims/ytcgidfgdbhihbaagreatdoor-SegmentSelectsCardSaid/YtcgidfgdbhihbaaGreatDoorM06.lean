/-
 M06:corpora as they lie in memory,and which of them are good. No program in sight.
-/
import Derived.Test.YtcgidfgdbhihbaaGreatDoorKc
import Derived.Lib.BitFns
open List renaming length→I,take→J,drop→ww
open ByteArray renaming empty→wt,mk→ws
set_option linter.all false
open Go.Proofs.YtcgidfgdbhihbaaGreatDoor
open List hiding all lt
namespace Go.Kw
abbrev Pr:=ByteArray×ByteArray
def aV:Enc Pr:=⟨2,λ x=>[.string x.1,.string x.2],λ _=>Y,λ x u h=>by simp at h;rcases h with rfl|rfl<;>rfl⟩
structure Tk where
 sv:SV
 ns:List ByteArray
def k8:Enc Tk:=⟨1,λ t=>[t.sv.val],λ _=>Y,λ x u h=>by simp at h;subst h;rfl⟩
structure Iv where
 nm:ByteArray
 b:Int
 e:Int
 sv:SV
 ps:List Pr
def aL:Enc Iv:=⟨4,λ x=>[.string x.nm,.int .i64 x.b,.int .i64 x.e,x.sv.val],λ _=>Y,λ x u h=>by simp at h;rcases h with rfl|rfl|rfl|rfl<;>rfl⟩
structure Nd where
 nm:ByteArray
 b:Int
 e:Int
 p:Int
def bT:Enc Nd:=⟨4,λ x=>[.string x.nm,.int .i64 x.b,.int .i64 x.e,.int .i64 x.p],λ _=>Y,λ x u h=>by simp at h;rcases h with rfl|rfl|rfl|rfl<;>rfl⟩
structure Co where
 va:Value
 vt:Value
 vx:Value
 vr:Value
 vn:Value
 vh:Value
 vl:Value
 at_:List (ByteArray×Bool)
 tk:List Tk
 tx:List Iv
 rg:List Iv
 nd:List Nd
 hd:List Int
 rl:List ByteArray
@[reducible] def Co.val(c:Co):Value:=.agg #[c.va,c.vt,c.vx,c.vr,c.vn,c.vh,c.vl]
structure RdC(w:World)(c:Co):Prop where
 a:RdL w c.va cj c.at_
 t:RdL w c.vt k8 c.tk
 x:RdL w c.vx aL c.tx
 r:RdL w c.vr aL c.rg
 n:RdL w c.vn bT c.nd
 h:RdL w c.vh (encI .i64) c.hd
 l:RdL w c.vl aw c.rl
 tr:∀ t∈c.tk,RdL w t.sv.val aw t.ns
 xr:∀ t∈c.tx,RdL w t.sv.val aV t.ps
 rr:∀ t∈c.rg,RdL w t.sv.val aV t.ps
theorem RdC.E{w w':World}{c:Co}(h:RdC w c)(he:Ext w w'):RdC w' c:=
 ⟨h.a.E he,h.t.E he,h.x.E he,h.r.E he,h.n.E he,h.h.E he,h.l.E he,λ t H=>(h.tr t H).E he,λ t H=>(h.xr t H).E he,λ t H=>(h.rr t H).E he⟩
def jJ(s:ByteArray):Bool:=decide (s.size<=120)&&(dA s&&((dh s.data.toList).all (λ u=>decide (31<u.r/\u.r≠127))&&s.data.toList.all λ c=>decide (32<=c.toNat/\c.toNat≠127)))
def lL(s:List UInt8):Nat->Nat×List (List UInt8)
 |0=>(1,[])
 |i+1=>if 0<i/\s[i]? =some 124 then(i+1,(lL s i).2++[(J i s).drop (lL s i).1])else lL s i
def De(s:List UInt8):∀ i,(lL s i).1<=max 1 i
 |0=>KM _
 |i+1=>by
  have:=De s i;unfold lL;split
  ·simp only;omega
  ·omega
def uf(s:ByteArray):Prop:=jJ s=true/\s.data.toList[0]? =some 124/\s.data.toList[s.size-1]? =some 124/\(∀ i,1<=i->s.data.toList[i]? =some 124->(lL s.data.toList i).1≠i)/\∀ i x y,(lL s.data.toList s.size).2[i]? =some x->(lL s.data.toList s.size).2[i+1]? =some y->x<y
def okV(a:ByteArray×Bool)(v:ByteArray):Prop:=(a.2=false->jJ v=true)/\(a.2=true->uf v)
theorem okV.val{a:ByteArray×Bool}{v:ByteArray}(h:okV a v):jJ v=true:=by
 cases H:a.2 with
 |false=>exact h.1 H
 |true=>exact(h.2 H).1
def okPs(ps:List Pr):Prop:=I ps<=8/\(∀ p∈ps,bF p.1=true/\jJ p.2=true)/\∀ i p q,ps[i]? =some p->ps[i+1]? =some q->SLt p.1 q.1
def ug:okPs []:=⟨bw,bw,bw⟩
def uh{p:Pr}(h1:bF p.1=true)(h2:jJ p.2=true):okPs [p]:=⟨bw,by simpa using⟨h1,h2⟩,λ i p q _ H=>by simp at H⟩
instance(a b:ByteArray):Decidable (SLt a b):=inferInstanceAs (Decidable (a.data.toList<b.data.toList))
def fw(a b:ByteArray):Int:=if SLt a b then-1 else if SLt b a then 1 else 0
def eM(a b:Int):Int:=if a<b then-1 else if b<a then 1 else 0
def kW:List Pr->List Pr->Int
 |[],[]=>0
 |[],_::_=> -1
 |_::_,[]=>1
 |p::r,q::t=>if fw p.1 q.1≠0 then fw p.1 q.1 else if fw p.2 q.2≠0 then fw p.2 q.2 else kW r t
def fk(x y:Iv):Int:=if eM x.b y.b≠0 then eM x.b y.b else if eM y.e x.e≠0 then eM y.e x.e else if fw x.nm y.nm≠0 then fw x.nm y.nm else kW x.ps y.ps
def xo(a b:Int):eM a b= -eM b a:=by unfold eM;split<;>split<;>omega
def qN(a b:ByteArray):fw a b= -fw b a:=by
 unfold fw;by_cases h:SLt a b
 ·rw[Xp h,Xn h.Uf,Xp h]
 ·by_cases k:SLt b a
  ·rw[Xn h,Xp k,Xp k];rfl
  ·rw[Xn h,Xn k,Xn k,Xn h];rfl
def Hl{a b:ByteArray}(h:fw a b=0):a=b:=by
 unfold fw at h;by_cases H:SLt a b
 ·rw[Xp H]at h;omega
 ·by_cases g:SLt b a
  ·rw[Xn H,Xp g]at h;omega
  ·exact Decidable.byContradiction λ d=>g (SLt.ML H d)
def mZ(a:ByteArray):fw a a=0:=by unfold fw;rw[Xn (SLt.vJ a),Xn (SLt.vJ a)]
def xp:∀ a b:List Pr,kW a b= -kW b a
 |[],[]=>rfl
 |[],_::_=>rfl
 |_::_,[]=>rfl
 |p::r,q::t=>by
  unfold kW;rw[qN p.1 q.1,qN p.2 q.2,xp r t];by_cases H:fw q.1 p.1=0
  ·by_cases d:fw q.2 p.2=0<;>simp[H,d]
  ·rw[Xp O,Xp H]
def Hm(x y:Iv):fk x y= -fk y x:=by
 unfold fk;rw[xo x.b y.b,xo y.e x.e,qN x.nm y.nm,xp x.ps y.ps];by_cases H:eM y.b x.b=0
 ·by_cases d:eM x.e y.e=0
  ·by_cases g:fw y.nm x.nm=0<;>simp[H,d,g]
  ·simp[H,d]
 ·rw[Xp O,Xp H]
def Ot{x y:Iv}(h:x.b<y.b):fk x y= -1:=by unfold fk eM;rw[Xp h];rfl
def noX(x y:Iv):Prop:=x.nm=y.nm->¬ (x.b<y.e/\y.b<x.e/\¬ (x.b<=y.b/\y.e<=x.e)/\¬ (y.b<=x.b/\x.e<=y.e))
theorem noX.symm{x y:Iv}(h:noX x y):noX y x:=λ e k=>h e.symm ⟨k.2.1,k.1,k.2.2.2,k.2.2.1⟩
def noX.ends{x y:Iv}(h:x.e<=y.b):noX x y:=λ _ k=>by omega
structure okTx(n:Int)(l:List Iv):Prop where
 nm:∀ x∈l,bF x.nm=true/\okPs x.ps/\0<=x.b/\x.b<x.e/\x.e<=n
 nd:∀ (i j:Nat) x y,l[i]? =some x->l[j]? =some y->j<i->y.nm≠x.nm
 first:∀ x,l[0]? =some x->x.b=0
 next:∀ (i:Nat) x y,l[i]? =some x->l[i+1]? =some y->y.b=x.e
 last:∀ (i:Nat) x,l[i]? =some x->i+1=I l->x.e=n
 none_:l=[]↔n=0
def inT(l:List Iv)(b e:Int):Prop:=∃ t∈l,t.b<=b/\b<e/\e<=t.e
structure okRg(tx rg:List Iv):Prop where
 el:∀ x∈rg,bF x.nm=true/\inT tx x.b x.e/\okPs x.ps
 asc:∀ (i:Nat) x y,rg[i]? =some x->rg[i+1]? =some y->fk x y<=0
 nox:∀ x∈rg,∀ y∈rg,noX x y
structure okNd(tx:List Iv)(nd:List Nd):Prop where
 el:∀ x∈nd,bF x.nm=true/\inT tx x.b x.e
 par:∀ (i:Nat) x,nd[i]? =some x->x.p= -1\/(x.p+1=i/\0<i/\∀ y,nd[i-1]? =some y->y.p= -1/\y.b<=x.b/\x.e<=y.e)
 sib:∀ (s i:Nat) x y,nd[s]? =some y->nd[i]? =some x->s<i->y.p=x.p->y.e<=x.b
structure okHd(n:Nat)(tx:List Iv)(hd:List Int)(rl:List ByteArray):Prop where
 len:I hd=n/\I rl=n
 bare:∃ i:Nat,(∃ h,hd[i]? =some h/\h≠-1)\/∃ s,rl[i]? =some s/\s≠wt
 el:∀ (i:Nat) h,hd[i]? =some h->h= -1\/∃ t∈tx,t.b<=i/\(i:Int)<t.e/\t.b<=h/\h<t.e
 nm:∀ s∈rl,s=wt\/bF s=true
 rk:∃ rank:Nat->Nat,∀ (i:Nat) h,hd[i]? =some h->0<=h->rank h.toNat<rank i
def qO:List ByteArray:=[ws #[97],ws #[98],ws #[99],ws #[65],ws #[97,98],ws #[]]
def xq:List ByteArray:=[ws #[88],ws #[89]]
def oz:List ByteArray:=[ws #[124],ws #[124,112,124],ws #[124,112,124,113,124],ws #[124,113,124]]
def Ba:Nat->List ByteArray
 |0=>qO++[ws #[120]]
 |1=>xq
 |_=>oz
def Kf(i:Nat):I (Ba i)<=7:=by
 unfold Ba;split<;>decide
structure OkC(k:Nat)(c:Co):Prop where
 at_:atsOk c.at_
 voc:∀ t∈c.tk,∀ (i:Nat) v,t.ns[i]? =some v->v∈Ba i
 tk:∀ t∈c.tk,I t.ns=I c.at_/\∀ (i:Nat) v a,t.ns[i]? =some v->c.at_[i]? =some a->okV a v
 tx:okTx (I c.tk) c.tx
 rg:okRg c.tx c.rg
 nd:okNd c.tx c.nd
 hd:(c.hd=[]/\c.rl=[])\/okHd (I c.tk) c.tx c.hd c.rl
 ntk:I c.tk<=12*k
 ntx:I c.tx<=k
 nrg:I c.rg<=8*k
 nnd:I c.nd<=8*k
def n0(n:Int)(x:Iv):Iv:={x with b:=x.b+n,e:=x.e+n}
def C6(n m:Int)(x:Nd):Nd:={x with b:=x.b+n,e:=x.e+n,p:=if 0<=x.p then x.p+m else x.p}
def yA(n:Int)(h:Int):Int:=if 0<=h then h+n else h
def kX(c:Co):List Int:=if 0<I c.hd then c.hd else List.replicate (I c.tk) (-1)
def mb(c:Co):List ByteArray:=if 0<I c.hd then c.rl else List.replicate (I c.tk) wt
structure IsCat(a b c:Co):Prop where
 at_:c.at_=a.at_
 tk:c.tk=a.tk++b.tk
 tx:c.tx=a.tx++b.tx.map (n0 (I a.tk))
 rg:c.rg=a.rg++b.rg.map (n0 (I a.tk))
 nd:c.nd=a.nd++b.nd.map (C6 (I a.tk) (I a.nd))
 hd:(0<I a.hd+I b.hd/\c.hd=kX a++(kX b).map (yA (I a.tk))/\c.rl=mb a++mb b)\/(I a.hd+I b.hd=0/\c.hd=[]/\c.rl=[])
def pK{α:Type}{l r:List α}{i:Nat}{x:α}(h:(l++r)[i]? =some x):(i<I l/\l[i]? =some x)\/(I l<=i/\r[i-I l]? =some x):=by
 rcases XI i (I l) with H|H
 ·rw[XK H]at h;exact .inl ⟨H,h⟩
 ·rw[XP H]at h;exact .inr ⟨H,h⟩
def cJ{α β:Type}{l:List β}{r:List α}{f:α->β}{i:Nat}{x:β}(h:(l++r.map f)[i]? =some x):(i<I l/\l[i]? =some x)\/(I l<=i/\∃ y,r[i-I l]? =some y/\x=f y):=by
 rcases pK h with h|⟨h1,h2⟩
 ·exact .inl h
 ·rw[XF,Yz]at h2;obtain⟨y,H,rfl⟩:=h2;exact .inr ⟨h1,y,H,Y⟩
def gM{α β:Type}{l:List β}{r:List α}{f:α->β}{x:β}(h:x∈l++r.map f):x∈l\/∃ y∈r,x=f y:=by
 rcases XE.1 h with h|h
 ·exact .inl h
 ·obtain⟨y,H,rfl⟩:=Y7.1 h;exact .inr ⟨y,H,Y⟩
theorem dK{α:Type}{l:List α}{i:Nat}{x:α}(h:l[i]? =some x):x∈l:=Xs h
def Ou(n:Int)(x y:Iv):fk (n0 n x) (n0 n y)=fk x y:=by
 have e:∀ a b:Int,eM (a+n) (b+n)=eM a b:=λ a b=>by
  unfold eM;by_cases H:a<b
  ·rw[Xp H,Xp O]
  ·rw[Xn H,Xn O];by_cases d:b<a
   ·rw[Xp d,Xp O]
   ·rw[Xn d,Xn O]
 unfold fk n0;simp only[e]
theorem okTx.cat{n m:Nat}{l r:List Iv}(d:okTx n l)(g:okTx m r)(hd:∀ x∈r,∀ y∈l,y.nm≠x.nm):okTx ((n+m:Nat):Int) (l++r.map (n0 n)) where
 nm x hx:=by
  rcases gM hx with h|⟨y,hy,rfl⟩
  ·have:=d.nm x h;exact⟨this.1,this.2.1,this.2.2.1,this.2.2.2.1,by have:=this.2.2.2.2;omega⟩
  ·have:=g.nm y hy;exact⟨this.1,this.2.1,a0C,a0C,a0C⟩
 nd i j x y hx hy hji:=by
  rcases cJ hx with⟨k,H⟩|⟨k,z,hz,rfl⟩
  ·rcases cJ hy with⟨o,p⟩|⟨o,z',hz',rfl⟩
   ·exact d.nd i j x y H p hji
   ·omega
  ·rcases cJ hy with⟨o,p⟩|⟨o,z',hz',rfl⟩
   ·exact hd z (dK hz) y (dK p)
   ·exact g.nd _ _ z z' hz hz' O
 first x hx:=by
  rcases cJ hx with⟨k,H⟩|⟨k,z,hz,rfl⟩
  ·exact d.first x H
  ·have q:l=[]:=XM O;have:=d.none_.1 q;rw[q]at hz;have:=g.first z hz;unfold n0;simp only;omega
 next i x y hx hy:=by
  rcases cJ hx with⟨k,H⟩|⟨k,z,hz,rfl⟩
  ·rcases cJ hy with⟨o,p⟩|⟨o,z',hz',rfl⟩
   ·exact d.next i x y H p
   ·have E:=d.last i x H O;have:i+1-I l=0:=O
    rw[this]at hz';have:=g.first z' hz';unfold n0;simp only;omega
  ·rcases cJ hy with⟨o,p⟩|⟨o,z',hz',rfl⟩
   ·omega
   ·have e:i+1-I l=i-I l+1:=O
    rw[e]at hz';have:=g.next _ z z' hz hz';unfold n0;simp only;omega
 last i x hx hi:=by
  simp only[AT,Xu]at hi;rcases cJ hx with⟨k,H⟩|⟨k,z,hz,rfl⟩
  ·have q:r=[]:=XM O;have:=g.none_.1 q;have:=d.last i x H O;omega
  ·have:=g.last _ z hz O;unfold n0;simp only;omega
 none_:=by
  rw[append_eq_nil_iff,map_eq_nil_iff,d.none_,g.none_];omega
theorem inT.left{l r:List Iv}{b e:Int}(h:inT l b e):inT (l++r) b e:=let ⟨t,d,H⟩:=h;⟨t,YM _ d,H⟩
theorem inT.right{l r:List Iv}{n b e:Int}(h:inT r b e):inT (l++r.map (n0 n)) (b+n) (e+n):=let ⟨t,H,d,g,i⟩:=h
 ⟨n0 n t,Yb _ (Ye H),a0C,O,a0C⟩
theorem inT.bd{n b e:Int}{l:List Iv}(h:inT l b e)(o:okTx n l):0<=b/\b<e/\e<=n:=by
 obtain⟨t,H,d,g,i⟩:=h;have:=(o.nm t H).2.2;omega
theorem okRg.cat{n m:Nat}{l r T tr:List Iv}(t:okTx n T)(o:okTx m tr)(H:okRg T l)(d:okRg tr r):okRg (T++tr.map (n0 n)) (l++r.map (n0 n)) where
 el x hx:=by
  rcases gM hx with h|⟨y,hy,rfl⟩
  ·have:=H.el x h;exact⟨this.1,this.2.1.left,this.2.2⟩
  ·have:=d.el y hy;exact⟨this.1,this.2.1.right,this.2.2⟩
 asc i x y hx hy:=by
  rcases cJ hx with⟨w,q⟩|⟨w,z,hz,rfl⟩
  ·rcases cJ hy with⟨j,u⟩|⟨j,z',hz',rfl⟩
   ·exact H.asc i x y q u
   ·have E:=(H.el x (dK q)).2.1.bd t;have p:=(d.el z' (dK hz')).2.1.bd o;rw[Ot a0C];omega
  ·rcases cJ hy with⟨j,u⟩|⟨j,z',hz',rfl⟩
   ·omega
   ·have e:i+1-I l=i-I l+1:=O
    rw[e]at hz';rw[Ou];exact d.asc _ z z' hz hz'
 nox x hx y hy:=by
  rcases gM hx with h|⟨z,hz,rfl⟩
  ·rcases gM hy with g|⟨z',hz',rfl⟩
   ·exact H.nox x h y g
   ·have E:=(H.el x h).2.1.bd t;have p:=(d.el z' hz').2.1.bd o;exact .ends a0C
  ·rcases gM hy with g|⟨z',hz',rfl⟩
   ·have E:=(H.el y g).2.1.bd t;have p:=(d.el z hz).2.1.bd o;exact noX.symm (.ends a0C)
   ·intro e k;exact d.nox z hz z' hz' e (by unfold n0 at k;simp only at k;omega)
theorem okNd.cat{n m:Nat}{l r:List Nd}{t tr:List Iv}(w:okTx n t)(u:okTx m tr)(j:okNd t l)(d:okNd tr r):okNd (t++tr.map (n0 n)) (l++r.map (C6 n (I l))) where
 el x hx:=by
  rcases gM hx with h|⟨y,H,rfl⟩
  ·have:=j.el x h;exact⟨this.1,this.2.left⟩
  ·have:=d.el y H;exact⟨this.1,this.2.right⟩
 par i x hx:=by
  rcases cJ hx with⟨k,o⟩|⟨k,z,hz,rfl⟩
  ·rcases j.par i x o with h|⟨h,h0,hp⟩
   ·exact .inl h
   ·refine .inr ⟨h,h0,λ y H=>hp y ?_⟩;rw[XK O]at H;exact H
  ·rcases d.par _ z hz with h|⟨h,h0,hp⟩
   ·exact .inl (by unfold C6;simp only;rw[Xn O];exact h)
   ·refine .inr ⟨by unfold C6;simp only;rw[Xp O];omega,O,λ y H=>?_⟩;rcases cJ H with⟨g,_⟩|⟨g,z',hz',rfl⟩
    ·omega
    ·have e:i-1-I l=i-I l-1:=O
     rw[e]at hz';have:=hp z' hz';unfold C6;simp only;rw[Xn O];omega
 sib s i x y H hx hsi hp:=by
  rcases cJ hx with⟨k,o⟩|⟨k,z,hz,rfl⟩
  ·rcases cJ H with⟨g,p⟩|⟨g,z',hz',rfl⟩
   ·exact j.sib s i x y p o hsi hp
   ·omega
  ·rcases cJ H with⟨g,p⟩|⟨g,z',hz',rfl⟩
   ·have E:=(j.el y (dK p)).2.bd w;have K:=(d.el z (dK hz)).2.bd u;unfold C6;simp only;omega
   ·have q:=d.sib _ _ z z' hz' hz O (by
     unfold C6 at hp;simp only at hp;have A:=d.par _ z hz;have D:=d.par _ z' hz';split at hp<;>split at hp<;>omega)
    unfold C6;simp only;omega
structure okHw(n:Nat)(tx:List Iv)(hd:List Int)(rl:List ByteArray):Prop where
 len:I hd=n/\I rl=n
 el:∀ (i:Nat) h,hd[i]? =some h->h= -1\/∃ t∈tx,t.b<=i/\(i:Int)<t.e/\t.b<=h/\h<t.e
 nm:∀ s∈rl,s=wt\/bF s=true
 rk:∃ rank:Nat->Nat,∀ (i:Nat) h,hd[i]? =some h->0<=h->rank h.toNat<rank i
def okHw.none(n:Nat)(tx:List Iv):okHw n tx (List.replicate n (-1)) (List.replicate n wt):=by
 have e:∀ (i:Nat) (h:Int),(List.replicate n (-1:Int))[i]? =some h->h= -1:=λ i h H=>(Za (dK H));exact⟨bw,λ i h H=>.inl (e i h H),λ s d=>.inl (Za d),λ _=>0,λ i h H g=>by have:=e i h H;omega⟩
theorem okHw.cat{n m:Nat}{T tr:List Iv}{q u:List Int}{w y:List ByteArray}(K:okTx n T)(D:okTx m tr)(H:okHw n T q w)(R:okHw m tr u y):okHw (n+m) (T++tr.map (n0 n)) (q++u.map (yA n)) (w++y) where
 len:=by simp[H.len,R.len]
 el i h l:=by
  rcases cJ l with⟨d,k⟩|⟨d,z,hz,rfl⟩
  ·rcases H.el i h k with h|⟨t,ht',h3⟩
   ·exact .inl h
   ·exact .inr ⟨t,YM _ ht',h3⟩
  ·rw[H.len.1]at d hz;rcases R.el _ z hz with h|⟨t,ht',h3,h4,h5,h6⟩
   ·exact .inl (by unfold yA;rw[Xn O];exact h)
   ·have j:=(D.nm t ht').2.2.1;refine .inr ⟨n0 n t,Yb _ (Ye ht'),?_⟩;unfold yA n0;rw[Xp O];simp only;omega
 nm s hs':=by
  rcases XE.1 hs' with h|h
  ·exact H.nm s h
  ·exact R.nm s h
 rk:=by
  obtain⟨r,o⟩:=H.rk;obtain⟨rb,p⟩:=R.rk;refine⟨λ i=>if i<n then r i else rb (i-n),λ i h l j=>?_⟩;rcases cJ l with⟨d,k⟩|⟨d,z,hz,rfl⟩
  ·have:=o i h k j;have A:h<(n:Int):=by
    rcases H.el i h k with e|⟨t,ht',h3⟩
    ·omega
    ·have:=(K.nm t ht').2.2.2.2;omega
   rw[H.len.1]at d;show(if h.toNat<n then r h.toNat else rb (h.toNat-n))<if i<n then r i else rb (i-n)
   rw[Xp O,Xp d];exact this
  ·rw[H.len.1]at d hz;have g:0<=z:=by unfold yA at j;split at j<;>omega
   have:=p _ z hz g;have e:yA n z=z+n:=by unfold yA;rw[Xp g]
   show(if(yA n z).toNat<n then r (yA n z).toNat else rb ((yA n z).toNat-n))<if i<n then r i else rb (i-n)
   rw[e,Xn O,Xn O];have E:(z+(n:Int)).toNat-n=z.toNat:=O
   rw[E];exact this
def OkC.hw{k:Nat}{c:Co}(h:OkC k c):okHw (I c.tk) c.tx (kX c) (mb c):=by
 unfold kX mb;rcases h.hd with⟨H,g⟩|H
 ·rw[H,Xn bw,Xn bw];exact .none _ _
 ·by_cases d:0<I c.hd
  ·rw[Xp d,Xp d];exact⟨H.len,H.el,H.nm,H.rk⟩
  ·rw[Xn d,Xn d];exact .none _ _
theorem OkC.cat{j k:Nat}{a b c:Co}(H:OkC j a)(g:OkC k b)(he:a.at_=b.at_)(hd:∀ x∈b.tx,∀ y∈a.tx,y.nm≠x.nm)(d:IsCat a b c):OkC (j+k) c where
 at_:=d.at_▸H.at_
 tk t ht:=by
  rw[d.tk]at ht;rw[d.at_];rcases XE.1 ht with h|h
  ·exact H.tk t h
  ·rw[he];exact g.tk t h
 voc t ht:=by
  rw[d.tk]at ht;rcases XE.1 ht with h|h
  ·exact H.voc t h
  ·exact g.voc t h
 tx:=by rw[d.tk,d.tx,AT];exact H.tx.cat g.tx hd
 rg:=by rw[d.tx,d.rg];exact okRg.cat H.tx g.tx H.rg g.rg
 nd:=by rw[d.tx,d.nd];exact okNd.cat H.tx g.tx H.nd g.nd
 hd:=by
  rcases d.hd with⟨A,u,w⟩|⟨_,u,w⟩
  ·right;have hw:=okHw.cat H.tx g.tx H.hw g.hw;rw[d.tk,d.tx,u,w,AT];refine⟨hw.len,?_,hw.el,hw.nm,hw.rk⟩;rcases XI 0 (I a.hd) with r|r
   ·rcases H.hd with⟨q,_⟩|q
    ·rw[q]at r;simp at r
    ·obtain⟨i,⟨h,o,l⟩|⟨s,o,l⟩⟩:=q.bare
     ·refine⟨i,.inl ⟨h,?_,l⟩⟩;unfold kX;rw[Xp r,XK (KC.1 o).1];exact o
     ·refine⟨i,.inr ⟨s,?_,l⟩⟩;unfold mb;rw[Xp r,XK (KC.1 o).1];exact o
   ·have p:0<I b.hd:=O
    rcases g.hd with⟨q,_⟩|q
    ·rw[q]at p;simp at p
    ·obtain⟨i,⟨h,o,l⟩|⟨s,o,l⟩⟩:=q.bare
     ·refine⟨I a.tk+i,.inl ⟨yA (I a.tk) h,?_,?_⟩⟩
      ·rw[XP (by rw[H.hw.len.1];omega),H.hw.len.1,Yk,XF];unfold kX;rw[Xp p,o];rfl
      ·unfold yA;rcases q.el i h o with e|⟨t,ht,e⟩
       ·exact absurd e l
       ·have:=(g.tx.nm t ht).2.2.1;rw[Xp O];omega
     ·refine⟨I a.tk+i,.inr ⟨s,?_,l⟩⟩;rw[XP (by rw[H.hw.len.2];omega),H.hw.len.2,Yk];unfold mb;rw[Xp p,o]
  ·exact .inl ⟨u,w⟩
 ntk:=by rw[d.tk,AT];have:=H.ntk;have:=g.ntk;omega
 ntx:=by rw[d.tx,AT,Xu];have:=H.ntx;have:=g.ntx;omega
 nrg:=by rw[d.rg,AT,Xu];have:=H.nrg;have:=g.nrg;omega
 nnd:=by rw[d.nd,AT,Xu];have:=H.nnd;have:=g.nnd;omega
def Df(l:List Iv):Prop:=∀ (i:Nat) x y,l[i]? =some x->l[i+1]? =some y->fk x y<=0
def Kg:Df []:=λ i x y h=>by simp at h
def Kh{m:List Iv}{x:Iv}{k:Nat}(h:Df m)(q:k<=I m)(h1:∀ y,0<k->m[k-1]? =some y->fk y x<=0)(h2:∀ y,m[k]? =some y->0<fk y x):Df (J k m++x::ww k m):=by
 have l:I (J k m)=k:=by rw[Xo];omega
 intro i a b o H;rcases pK o with⟨g,d⟩|⟨g,d⟩
 ·rw[l]at g;rw[Yu,Xp O]at d;rcases pK H with⟨d1,d2⟩|⟨d1,d2⟩
  ·rw[l]at d1;rw[Yu,Xp O]at d2;exact h i a b d d2
  ·rw[l]at d1 d2;have e:i+1-k=0:=O
   rw[e]at d2;cases d2;have E:k-1=i:=O
   exact h1 a O (E▸d)
 ·rw[l]at g d;rcases pK H with⟨d1,d2⟩|⟨d1,d2⟩
  ·rw[l]at d1;omega
  ·rw[l]at d1 d2;rcases Yv (i-k)with e|e
   ·rw[e]at d;cases d;have E:i+1-k=1:=O
    rw[E]at d2;simp only[ZX,YI,YP]at d2;have:=h2 b d2;rw[Hm];omega
   ·obtain⟨j,p⟩:∃ j,i-k=j+1:=⟨i-k-1,O⟩;have E:i+1-k=j+2:=O
    rw[p]at d;rw[E]at d2;simp only[ZX,YI]at d d2;exact h _ a b d (by rw[YG];exact d2)
def Ki{α:Type}(m l:List α)(x:α)(k:Nat)(h:m.Perm l):(J k m++x::ww k m).Perm (l++[x]):=by
 have H:(J k m++x::ww k m).Perm (x::m):=by
  refine a2x.trans ?_;rw[XV]
 exact H.trans ((h.cons x).trans<|(perm_append_singleton x l).symm)
structure ndI(at_:Int)(l:List Nd):Prop where
 el:∀ x∈l,bF x.nm=true/\0<=x.b/\x.b<x.e/\x.e<=at_
 par:∀ (i:Nat) x,l[i]? =some x->x.p= -1\/(x.p+1=i/\0<i/\∀ y,l[i-1]? =some y->y.p= -1/\y.b<=x.b/\x.e<=y.e)
 sib:∀ (s i:Nat) x y,l[s]? =some y->l[i]? =some x->s<i->y.p=x.p->y.e<=x.b
def Ov(z:Int):ndI z []:=⟨bw,bw,bw⟩
def gN{α:Type}{l:List α}{i:Nat}{x y:α}(h:(l++[y])[i]? =some x):(i<I l/\l[i]? =some x)\/(i=I l/\x=y):=by
 rcases pK h with h|⟨h1,h2⟩
 ·exact .inl h
 ·have:=(KC.1 h2).1;have e:i-I l=0:=by simp at this;omega
  rw[e]at h2;cases h2;exact .inr ⟨O,Y⟩
def ndI.top{at_ b e:Int}{l:List Nd}{nm:ByteArray}(h:ndI at_ l)(k:bF nm=true)(h0:0<=at_)(h1:at_<=b)(h2:b<e):ndI e (l++[⟨nm,b,e,-1⟩]) where
 el x H:=by
  rcases XE.1 H with H|H
  ·have:=h.el x H;exact⟨this.1,O,O,O⟩
  ·rw[XJ.1 H];exact⟨k,a0H,h2,a1u _⟩
 par i x H:=by
  rcases gN H with⟨g,j⟩|⟨g,rfl⟩
  ·rcases h.par i x j with q|⟨q1,q2,q3⟩
   ·exact .inl q
   ·exact .inr ⟨q1,q2,λ y d=>q3 y (by rw[XK O]at d;exact d)⟩
  ·exact .inl Y
 sib s i x y d H hsi hp:=by
  rcases gN H with⟨g,j⟩|⟨g,rfl⟩
  ·rcases gN d with⟨d1,d2⟩|⟨d1,rfl⟩
   ·exact h.sib s i x y d2 j hsi hp
   ·omega
  ·rcases gN d with⟨d1,d2⟩|⟨d1,rfl⟩
   ·have:=h.el y (dK d2);simp only;omega
   ·omega
theorem ndI.MM{at_ b e c d:Int}{l:List Nd}{nm p:ByteArray}(h:ndI e (l++[⟨nm,b,e,-1⟩]))(r:bF p=true)(h1:b<=c)(h2:c<d)(o:d<=e):ndI e ((l++[⟨nm,b,e,-1⟩])++[⟨p,c,d,I l⟩]) where
 el x H:=by
  rcases XE.1 H with H|H
  ·exact h.el x H
  ·rw[XJ.1 H];have:=h.el ⟨nm,b,e,-1⟩ bw;exact⟨r,by simp only at this⊢;omega,h2,o⟩
 par i x H:=by
  rcases gN H with⟨j,k⟩|⟨j,rfl⟩
  ·rcases h.par i x k with q|⟨q1,q2,q3⟩
   ·exact .inl q
   ·exact .inr ⟨q1,q2,λ y g=>q3 y (by rw[XK O]at g;exact g)⟩
  ·simp only[AT,KP]at j;refine .inr ⟨a0H,O,λ y g=>?_⟩;have E:i-1=I l:=O
   rw[E,KW,XP (KM _),Y4]at g;cases g;exact⟨Y,h1,o⟩
 sib s i x y g H hsi hp:=by
  rcases gN H with⟨j,k⟩|⟨j,rfl⟩
  ·rcases gN g with⟨d1,d2⟩|⟨d1,rfl⟩
   ·exact h.sib s i x y d2 k hsi hp
   ·omega
  ·rcases gN g with⟨d1,d2⟩|⟨d1,rfl⟩
   ·simp only[AT,KP]at j d1;simp only at hp;rcases h.par s y d2 with q|⟨q1,q2,_⟩<;>omega
   ·omega
theorem ndI.ok{at_ n:Int}{l:List Nd}{t:Iv}(h:ndI at_ l)(h1:at_<=n)(d:t.b=0)(he:t.e=n):okNd [t] l:=
 ⟨λ x H=>⟨(h.el x H).1,t,bw,a3s,a3s,a3s⟩,h.par,h.sib⟩
structure ordI(i:Nat)(o:List Nat):Prop where
 nd:o.Nodup
 len:I o=i
 lt:∀ x∈o,x<i
 all:∀ x,x<i->x∈o
def Kj:ordI 0 []:=⟨bw,Y,bw,bw⟩
theorem ordI.ins{i:Nat}{o:List Nat}(h:ordI i o)(k:Nat)(g:k<=i):ordI (i+1) (J k o++[i]++ww k o):=by
 have p:(J k o++[i]++ww k o).Perm (i::o):=by
  rw[KW,singleton_append];refine a2x.trans ?_;rw[XV]
 refine⟨p.nodup_iff.2 (a2i.2 ⟨λ d=>by have:=h.lt i d;omega,h.nd⟩),by rw[p.length_eq,No,h.len],λ x H=>?_,λ x H=>p.mem_iff.2 (Xr.2 ((XI x i).elim (λ q=>.inr (h.all x q)) λ q=>.inl O))⟩;rcases Xr.1 (p.mem_iff.1 H)with rfl|H
 ·omega
 ·have:=h.lt x H;omega
structure hdI(n:Nat)(o:List Nat)(j:Nat)(hd:List Int)(rl:List ByteArray)(some_:Bool):Prop where
 len:I hd=n/\I rl=n
 el:∀ (r x:Nat),r<j->o[r]? =some x->hd[x]? =some (-1)\/∃ (q y:Nat),q<r/\o[q]? =some y/\hd[x]? =some (y:Int)
 nm:∀ s∈rl,s=wt\/bF s=true
 bare:some_=true->∃ r x:Nat,r<j/\o[r]? =some x/\((∃ h,hd[x]? =some h/\h≠-1)\/∃ s,rl[x]? =some s/\s≠wt)
def Hn{n:Nat}{o:List Nat}:hdI n o 0 (List.replicate n 0) (List.replicate n wt) false:=
 ⟨bw,λ r x h=>absurd h O,λ s H=>.inl (Za H),λ h=>by cases h⟩
def pL{α:Type}{l:List α}{i j:Nat}{x:α}(h:i<I l):(l.set i x)[j]? =if i=j then some x else l[j]? :=by
 by_cases e:i=j
 ·subst e;rw[Xp Y,Yi h]
 ·rw[Xn e,Zn e]
def xu{α:Type}{l:List α}(h:l.Nodup):∀ {i j:Nat} {x:α},l[i]? =some x->l[j]? =some x->i=j:=by
 induction l with
 |nil=>intro i j x H;simp at H
 |cons a l o=>
  intro i j x H d;obtain⟨g,k⟩:=a2i.1 h;cases i with
  |zero=>
   cases j with
   |zero=>rfl
   |succ j=>simp at H d;subst H;exact absurd (dK d) g
  |succ i=>
   cases j with
   |zero=>simp at H d;subst d;exact absurd (dK H) g
   |succ j=>simp at H d;exact If (· +1) (o k H d)
def hdI.step{n:Nat}{o:List Nat}{j x:Nat}{hd:List Int}{R:List ByteArray}{w A:Bool}(h:hdI n o j hd R w)(u:ordI n o)(l:o[j]? =some x)(v:Int)(s:ByteArray)(P:v= -1\/∃ q y:Nat,q<j/\o[q]? =some y/\v=(y:Int))(N:s=wt\/bF s=true)
  (K:A=true->w=true\/v≠-1\/s≠wt):hdI n o (j+1) (hd.set x v) (R.set x s) A:=by
 have d:=u.lt x (dK l);have i:∀ r y:Nat,r<j->o[r]? =some y->x≠y:=λ r y k g e=>by
  subst e;have:=xu u.nd l g;omega
 refine⟨by simp[h.len],λ r y k g=>?_,λ t p=>?_,λ D=>?_⟩
 ·rw[pL a3z];rcases XI r j with H|H
  ·rw[Xn (i r y H g)];exact h.el r y H g
  ·have e:r=j:=O
   subst e;rw[l]at g;cases g;rw[Xp Y];rcases P with rfl|⟨q,z,hq,hz,rfl⟩
   ·exact .inl Y
   ·exact .inr ⟨q,z,hq,hz,Y⟩
 ·rcases YT p with p|rfl
  ·exact h.nm t p
  ·exact N
 ·rcases K D with H|H
  ·obtain⟨r,y,k,g,E⟩:=h.bare H;refine⟨r,y,O,g,?_⟩;rw[pL a3z,pL (by rw[h.len.2];exact d),Xn (i r y k g),Xn (i r y k g)];exact E
  ·refine⟨j,x,O,l,?_⟩;rw[pL a3z,pL (by rw[h.len.2];exact d),Xp Y,Xp Y];rcases H with H|H
   ·exact .inl ⟨v,Y,H⟩
   ·exact .inr ⟨s,Y,H⟩
theorem hdI.ok{n:Nat}{o:List Nat}{hd:List Int}{R:List ByteArray}{t:Iv}(h:hdI n o n hd R true)(j:ordI n o)(K:t.b=0)(he:t.e=n):okHd n [t] hd R where
 len:=h.len
 bare:=by
  obtain⟨r,x,_,_,w⟩:=h.bare Y;exact⟨x,w⟩
 el i v g:=by
  have H:=(KC.1 g).1;rw[h.len.1]at H;obtain⟨r,l⟩:=Y9 (j.all i H);have d:=(KC.1 l).1;rw[j.len]at d;rcases h.el r i d l with e|⟨q,y,hq,hy,e⟩
  ·rw[g]at e;cases e;exact .inl Y
  ·rw[g]at e;cases e;have:=j.lt y (dK hy);exact .inr ⟨t,bw,O,O,O,O⟩
 nm:=h.nm
 rk:=by
  refine⟨λ x=>o.idxOf x,λ i v g E=>?_⟩;have H:=(KC.1 g).1;rw[h.len.1]at H;obtain⟨r,l⟩:=Y9 (j.all i H);have d:=(KC.1 l).1;rw[j.len]at d;have ix:∀ (x k:Nat),o[k]? =some x->o.idxOf x=k:=λ x k p=>by
   have D:=dK p;have u:=idxOf_lt_length_of_mem D;have A:o[o.idxOf x]? =some x:=by rw[py u,getElem_idxOf u]
   exact xu j.nd A p
  show o.idxOf v.toNat<o.idxOf i;rw[ix i r l];rcases h.el r i d l with e|⟨q,y,hq,hy,e⟩
  ·rw[g]at e;cases e;omega
  ·rw[g]at e;cases e;show o.idxOf (y:Int).toNat<r;rw[Zi,ix y q hy];exact hq
def qP(s:List UInt8):Bool:=s.all λ c=>decide (32<=c.toNat/\c.toNat<127)
def jt{s:List UInt8}(h:qP s=true):∀ (k i:Nat),I s-i<=k->∀ u∈cv s i,32<=u.r/\u.r<127
 |0,i,hk,u,hu=>by rw[eB O]at hu;cases hu
 |k+1,i,hk,u,hu=>by
  rcases XI i (I s) with H|H
  ·have g:=Y6.1 h _ (a0m H);have g:=XR g;have hd:dec (ww i s)=((s[i]).toNat,1):=by
    unfold dec;have e:gb (ww i s) 0=(s[i]).toNat:=by rw[pE,YP];unfold gb;rw[KV,py H];rfl
    rw[e];unfold Lib.decodeN;rw[Xp O]
   rw[gn H,hd]at hu;rcases Xr.1 hu with rfl|hu
   ·exact⟨g.1,g.2⟩
   ·exact jt h k _ O u hu
  ·rw[eB O]at hu;cases hu
def fP{s:ByteArray}(h1:s.size<=120)(h:qP s.data.toList=true):jJ s=true:=by
 have d:∀ u∈dh s.data.toList,32<=u.r/\u.r<127:=jt h _ 0 (KM _);unfold jJ;rw[LW h1,a1e,Xz,Xz];refine⟨Y6.2 λ u H=>?_,Y6.2 λ u H=>?_,Y6.2 λ c H=>?_⟩
 ·have:=d u H;unfold Un.ok;rw[Bool.or_eq_true];left;exact bne_iff_ne.2 O
 ·have:=d u H;exact LW ⟨O,O⟩
 ·have:=XR (Y6.1 h c H);exact LW ⟨this.1,O⟩
def cR:List (ByteArray×Bool):=[(ws #[119,111,114,100],false),(ws #[116,97,103],false),(ws #[102,101,97,116],true)]
def Ho:∀ s∈qO,jJ s=true:=λ s H=>by
 refine fP ?_ ?_
 ·exact(by decide:∀ s∈qO.map (·.size),s<=120) _ (Ye H)
 ·exact(by decide:∀ s∈qO.map (λ s=>qP s.data.toList),s=true) _ (Ye (f:=λ s:ByteArray=>qP s.data.toList) H)
def Kk:∀ s∈xq,jJ s=true:=λ s H=>by
 refine fP ?_ ?_
 ·exact(by decide:∀ s∈xq.map (·.size),s<=120) _ (Ye H)
 ·exact(by decide:∀ s∈xq.map (λ s=>qP s.data.toList),s=true) _ (Ye (f:=λ s:ByteArray=>qP s.data.toList) H)
def Sd:List (List UInt8)->Bool
 |x::y::r=>decide (x<y)&&Sd (y::r)
 |_=>true
def Bb:∀ (l:List (List UInt8)),Sd l=true->∀ (i:Nat) x y,l[i]? =some x->l[i+1]? =some y->x<y
 |[],_,i,x,y,hx,_=>by simp at hx
 |[a],_,i,x,y,_,hy=>by simp at hy
 |a::b::r,h,0,x,y,hx,hy=>by
  simp at hx hy;subst hx hy;exact XR (Xz _ _▸h).1
 |a::b::r,h,i+1,x,y,hx,hy=>Bb (b::r) (Xz _ _▸h).2 i x y hx hy
def Ow(s:List UInt8):Bool:=decide (s[0]? =some 124)&&(decide (s[I s-1]? =some 124)&&(((List.range (I s)).all λ i=>decide (1<=i->s[i]? =some 124->(lL s i).1≠i))&&Sd (lL s (I s)).2))
def Ox{s:ByteArray}(h:jJ s=true)(t:Ow s.data.toList=true):uf s:=by
 unfold Ow at t;simp only[Xz,XS,Y6,Zt]at t;obtain⟨d,g,j,k⟩:=t;exact⟨h,d,g,λ i l H=>j i (KC.1 H).1 l H,Bb _ k⟩
def xv:∀ s∈oz,uf s:=λ s H=>by
 refine Ox (fP ?_ ?_) ?_
 ·exact(by decide:∀ s∈oz.map (·.size),s<=120) _ (Ye H)
 ·exact(by decide:∀ s∈oz.map (λ s=>qP s.data.toList),s=true) _ (Ye (f:=λ s:ByteArray=>qP s.data.toList) H)
 ·exact(by decide:∀ s∈oz.map (λ s=>Ow s.data.toList),s=true) _ (Ye (f:=λ s:ByteArray=>Ow s.data.toList) H)
def Kl:atsOk cR:=by
 refine⟨λ i x d=>?_,bl,bl⟩;have H:=(KC.1 d).1;have H:i<3:=H;rcases(by omega:i=0\/i=1\/i=2)with rfl|rfl|rfl<;>(cases d;exact⟨bl,bl⟩)
def Se(N:List ByteArray):Prop:=∃ a b c,N=[a,b,c]/\a∈qO/\b∈xq/\c∈oz
def Oy{N:List ByteArray}(h:Se N):I N=I cR/\∀ (i:Nat) v a,N[i]? =some v->cR[i]? =some a->okV a v:=by
 obtain⟨a,b,c,rfl,g,j,k⟩:=h;refine⟨Y,λ i v x H d=>?_⟩;have l:i<3:=(KC.1 H).1;rcases(by omega:i=0\/i=1\/i=2)with rfl|rfl|rfl
 ·cases H;cases d;exact⟨λ _=>Ho _ g,λ h=>by cases h⟩
 ·cases H;cases d;exact⟨λ _=>Kk _ j,λ h=>by cases h⟩
 ·cases H;cases d;exact⟨(λ h=>by cases h),λ _=>xv _ k⟩
def X2(n:Int)(x:Iv):Prop:=bF x.nm=true/\okPs x.ps/\0<=x.b/\x.b<x.e/\x.e<=n
def Sf{c:Co}{n:Nat}{t:Iv}{at_:Int}(h0:0<n)(h1:n<=12)(d:c.at_=cR)(l:I c.tk=n)(k:∀ t∈c.tk,Se t.ns)(H:c.tx=[t])(T:t.b=0)(q:t.e=n)(R:bF t.nm=true)(W:okPs t.ps)
  (P:∀ x∈c.rg,X2 n x) (Q:Df c.rg) (X:∀ x∈c.rg,∀ y∈c.rg,noX x y) (o:I c.rg<=8) (K:ndI at_ c.nd) (A:at_<=n) (N:I c.nd<=8) (D:(c.hd=[]/\c.rl=[])\/okHd n [t] c.hd c.rl):OkC 1 c where
 at_:=d▸Kl
 tk t ht:=by rw[d];exact Oy (k t ht)
 voc t ht i v hv:=by
  obtain⟨a,b,e,w,h1,r,u⟩:=k t ht;rw[w]at hv;have hi:i<3:=(KC.1 hv).1;rcases(by omega:i=0\/i=1\/i=2)with rfl|rfl|rfl
  ·cases hv;exact YM _ h1
  ·cases hv;exact r
  ·cases hv;exact u
 tx:=by
  rw[H,l];have g:∀ {i:Nat} {x:Iv},[t][i]? =some x->i=0/\x=t:=λ{i x} h=>by
   cases i with
   |zero=>cases h;exact⟨Y,Y⟩
   |succ i=>simp at h
  refine⟨λ x H=>?_,λ i j x y H p E=>?_,λ x h=>(g h).2▸T,λ i x y H p=>?_,λ i x h _=>(g h).2▸q,?_⟩
  ·rw[XJ.1 H];exact⟨R,W,O,O,O⟩
  ·have:=g H;omega
  ·have:=g p;omega
  ·constructor
   ·intro h;cases h
   ·intro h;omega
 rg:=by
  rw[H];refine⟨λ x o=>?_,Q,X⟩;have:=P x o;exact⟨this.1,⟨t,bw,a3t,a3t,a3t⟩,this.2.1⟩
 nd:=H▸K.ok O T q
 hd:=by rw[l,H];exact D
 ntk:=O
 ntx:=by rw[H];exact KM _
 nrg:=O
 nnd:=O
def pM:Nat->Nat->List Nat
 |0,v=>[v%256]
 |f+1,v=>if v<128 then[v%256]else(v%256|||128)::pM f (v/128)
def uv(v:Nat):List Nat:=pM 9 v
def Bc:∀ (f v:Nat),v<128^(f+1)->pM (f+1) v=pM f v
 |0,v,h=>by simp only[pM];rw[Xp O]
 |f+1,v,h=>by
  have H:v/128<128^(f+1):=by rw[YA]at h;omega
  rw[pM]
  conv=>rhs;rw[pM]
  rw[Bc f (v/128) H]
def ED(v:Nat)(H:v<2^64)(h:128<=v):uv v=(v%2^8|||128)::uv (v/2^7):=by
 unfold uv;rw[Bc 8 (v/2^7) O];rw[pM,Xn O]
def Bd(v:Nat)(h:v<128):uv v=[v%2^8]:=by unfold uv;rw[pM,Xp h]
def Km:∀ (f v:Nat),I (pM f v)<=f+1
 |0,v=>by simp[pM]
 |f+1,v=>by
  rw[pM];split
  ·simp
  ·simp;exact Km f _
def aF(v:Nat):I (uv v)<=10:=Km 9 v
def Oz:∀ (f v:Nat),1<=I (pM f v)
 |0,v=>by simp[pM]
 |f+1,v=>by rw[pM];split<;>simp
def Kn(v:Nat):1<=I (uv v):=Oz 9 v
def Ko:∀ (f v:Nat),∀ x∈pM f v,x<256
 |0,v=>by simp[pM];omega
 |f+1,v=>by
  rw[pM];split
  ·simp;omega
  ·intro x H;rcases Xr.1 H with rfl|H
   ·exact Zz (n:=8) O O
   ·exact Ko f _ x H
def dG(v:Nat):∀ x∈uv v,x<256:=Ko 9 v
def ie(b:Bool)(m:Nat):Nat:=if b then m else 0
def dj(l:List Bool)(i:Nat):Bool:=l.getD i false
def cU(l:List Bool)(k:Nat):Nat:=
 ie (dj l (8*k)) 128|||(ie (dj l (8*k+1)) 64|||(ie (dj l (8*k+2)) 32|||(ie (dj l (8*k+3)) 16|||
  (ie (dj l (8*k+4)) 8|||(ie (dj l (8*k+5)) 4|||(ie (dj l (8*k+6)) 2|||ie (dj l (8*k+7)) 1))))))
def aI(l:List Bool):List Nat:=(List.range ((I l+7)/8)).map (cU l)
def aO(l:List Bool):I (aI l)=(I l+7)/8:=by simp[aI]
def ui(l:List Bool)(x:Bool)(i:Nat):dj (l++[x]) i=if i=I l then x else dj l i:=by
 unfold dj;simp only[KV];rcases ZU i (I l) with h|h|h
 ·rw[XK h,Xn O]
 ·subst h;simp
 ·rw[Xn O,XQ cf,XQ O]
def eO(l:List Bool)(i:Nat)(h:I l<=i):dj l i=false:=by
 unfold dj;rw[KV,XQ h];rfl
def gO(l:List Bool)(x:Bool)(k:Nat):cU (l++[x]) k=if k=I l/8 then cU l k|||ie x (128/2^(I l%8))else cU l k:=by
 by_cases d:k=I l/8
 ·rw[Xp d];have E:I l%8<8:=Zp _ bl;have p:I l=8*k+I l%8:=O
  have o:∀ j,I l%8<=j->dj l (8*k+j)=false:=λ j i=>eO l _ O;unfold cU;simp only[ui];have g:=o 0;have q:=o 1;have t:=o 2;have u:=o 3;have w:=o 4;have y:=o 5;have A:=o 6;have D:=o 7;rw[YP]at g;generalize I l%8=r at*;have H:r=0\/r=1\/r=2\/r=3\/r=4\/r=5\/r=6\/r=7:=O
  rcases H with rfl|rfl|rfl|rfl|rfl|rfl|rfl|rfl<;>
   simp[p,g,q,t,u,w,y,A,D,ie,Nat.or_assoc]
 ·rw[Xn d];have e:∀ j,j<8->dj (l++[x]) (8*k+j)=dj l (8*k+j):=λ j i=>by rw[ui,Xn O]
  unfold cU;rw[show dj (l++[x]) (8*k)=dj l (8*k)from e 0 O,e 1 O,e 2 O,e 3 O,e 4 O,e 5 O,e 6 O,e 7 O]
def uj(l:List Bool)(k:Nat)(h:I l<=8*k):cU l k=0:=by
 unfold cU;simp[eO l (8*k) O,eO l (8*k+1) O,eO l (8*k+2) O,eO l (8*k+3) O,eO l (8*k+4) O,eO l (8*k+5) O,
  eO l (8*k+6) O,eO l (8*k+7) O,ie]
def n1(l:List Bool)(k:Nat):cU l k<256:=by
 have h:∀ (b:Bool) (m:Nat),m<256->ie b m<2^8:=λ b m g=>by cases b<;>simp[ie,g]
 unfold cU;have:=λ a b (H:a<2^8) (d:b<2^8)=>Zz H d;exact this _ _ (h _ _ bl) (this _ _ (h _ _ bl) (this _ _ (h _ _ bl) (this _ _ (h _ _ bl) (this _ _ (h _ _ bl) (this _ _ (h _ _ bl) (this _ _ (h _ _ bl) (h _ _ bl)))))))
def j0(l:List Bool):∀ x∈aI l,x<256:=λ x H=>by
 obtain⟨k,_,rfl⟩:=Y7.1 H;exact n1 l k
def j1(l:List Bool):List Nat:=if I l%8=0 then aI l++[0]else aI l
def pN(l:List Bool):j1 l=(List.range (I l/8+1)).map (cU l):=by
 unfold j1 aI;split
 ·rename_i h
  rw[show(I l+7)/8=I l/8 by omega,YK,Y0];simp only[XZ,Zy];rw[uj l _ O]
 ·rw[show(I l+7)/8=I l/8+1 by omega]
def uk(l:List Bool)(x:Bool):aI (l++[x])=(List.range (I l/8+1)).map (cU (l++[x])):=by
 unfold aI;rw[AT,KP,show(I l+1+7)/8=I l/8+1 by omega]
def Be(l:List Bool):aI (l++[false])=j1 l:=by
 rw[uk,pN];apply Zl;intro k _;rw[gO];split<;>simp[ie]
def kY(l:List Bool):I (j1 l)=I l/8+1:=by rw[pN];simp
def Hp(l:List Bool):(j1 l)[I l/8]? =some (cU l (I l/8)):=by rw[pN];simp
def Dg(l:List Bool):aI (l++[true])=(j1 l).set (I l/8) (cU l (I l/8)|||128/2^(I l%8)):=by
 rw[uk,pN,YK,Y0,Y0,Y2 _ _ bw];simp only[XZ,Zy,Xu,a0r,Y4,set_cons_zero];congr 1
 ·apply Zl;intro k H;rw[gO,Xn (by have:=Zt.1 H;omega)]
 ·rw[gO,Xp Y];simp[ie]
def aY(x:Nat):Nat->List Bool
 |0=>[]
 |m+1=>decide (x/2^m%2^1=1)::aY x m
def aK(x:Nat):∀ m,I (aY x m)=m
 |0=>rfl
 |m+1=>by simp[aY,aK x m]
def ao{α:Type}{l:List α}{k:Nat}{x:α}(h:l[k]? =some x):J (k+1) l=J k l++[x]:=by
 rw[ZD,h];rfl
def b8{α:Type}{l:List α}{k:Nat}{x:α}(h:l[k]? =some x):k<I l:=(KC.1 h).1
def a8{α:Type}{l:List α}{k:Nat}{x:α}(h:l[k]? =some x):x∈l:=Xs h
def bitLenAux_le:∀ (f v n:Nat),v<2^n->Lib.bitLenAux f v<=n
 |0,_,_,_=>KD _
 |f+1,v,n,h=>by
  unfold Lib.bitLenAux;split
  ·exact KD _
  ·cases n with
   |zero=>simp at h;omega
   |succ n=>
    have:=bitLenAux_le f (v/2) n (by rw[YA]at h;omega);omega
def bitLen_le{v n:Nat}(h:v<2^n):Lib.bitLen v<=n:=bitLenAux_le 64 v n h
def ju:∀ (f v:Nat),Lib.bitLenAux f v<=f
 |0,_=>KM _
 |f+1,v=>by unfold Lib.bitLenAux;split;(omega);(have:=ju f (v/2);omega)
def bitLen_le64(v:Nat):Lib.bitLen v<=64:=ju 64 v
theorem okTx.le{n:Int}{l:List Iv}(h:okTx n l):∀ (d i:Nat) x y,l[i]? =some x->l[i+d+1]? =some y->x.e<=y.b
 |0,i,x,y,hx,hy=>by have:=h.next i x y hx hy;omega
 |d+1,i,x,y,hx,hy=>by
  have o:=(KC.1 hy).1;obtain⟨z,H⟩:=ut l (i+d+1) O;have g:=okTx.le h d i x z hx H;have j:=h.next (i+d+1) z y H hy;have k:=(h.nm z (a8 H)).2.2;omega
def okTx.uniq{n:Int}{l:List Iv}(h:okTx n l){i j:Nat}{x y:Iv}{p:Int}(H:l[i]? =some x)(d:l[j]? =some y)(h1:x.b<=p/\p<x.e)(h2:y.b<=p/\p<y.e):i=j:=by
 rcases ZU i j with q|q|q
 ·have:=h.le (j-i-1) i x y H (by rw[show i+(j-i-1)+1=j by omega];exact d);omega
 ·exact q
 ·have:=h.le (i-j-1) j y x d (by rw[show j+(i-j-1)+1=i by omega];exact H);omega
theorem okTx.same{n:Int}{l:List Iv}(h:okTx n l){x y:Iv}{p:Int}(g:x∈l)(k:y∈l)(h1:x.b<=p/\p<x.e)(h2:y.b<=p/\p<y.e):x=y:=by
 obtain⟨i,d⟩:=Y9 g;obtain⟨j,H⟩:=Y9 k;have:=h.uniq d H h1 h2;subst this;rw[d]at H;cases H;rfl
def okTx.cover{n:Int}{l:List Iv}(h:okTx n l){p:Int}(h0:0<=p)(h1:p<n):∃ t∈l,t.b<=p/\p<t.e:=by
 have K:∀ (k:Nat),k<I l->(∃ t∈l,t.b<=p/\p<t.e)\/∀ x,l[k]? =some x->x.e<=p:=by
  intro k;induction k with
  |zero=>
   intro g;obtain⟨x,H⟩:=ut l 0 g;have e:=h.first x H;rcases(by omega:p<x.e\/x.e<=p)with q|q
   ·exact .inl ⟨x,a8 H,O,q⟩
   ·exact .inr λ y d=>by rw[H]at d;cases d;exact q
  |succ k j=>
   intro g;rcases j O with q|q
   ·exact .inl q
   ·obtain⟨x,H⟩:=ut l k O;obtain⟨y,d⟩:=ut l (k+1) g;have e:=h.next k x y H d;have E:=q x H;rcases(by omega:p<y.e\/y.e<=p)with r|r
    ·exact .inl ⟨y,a8 d,O,r⟩
    ·exact .inr λ z i=>by rw[d]at i;cases i;exact r
 have u:0<I l:=by
  rcases Yv (I l) with q|q
  ·have:=h.none_.1 (XM q);omega
  ·exact q
 rcases K (I l-1) O with q|q
 ·exact q
 ·obtain⟨x,H⟩:=ut l (I l-1) O;have o:=h.last _ x H O;have E:=q x H;omega
def okTx.lens{n:Nat}{l:List Iv}(h:okTx n l):(!(decide (I l=0)==decide (n=0)))=false:=by
 have H:=h.none_;by_cases q:n=0
 ·have:l=[]:=H.2 O;subst this;simp[q]
 ·have:I l≠0:=λ e=>q (by have:=H.1 (XM e);omega);simp[q,this]
theorem atsOk.no{l:List (ByteArray×Bool)}(h:atsOk l){k j:Nat}{x y:ByteArray×Bool}(g:l[k]? =some x)(d:(ww 0 (J k l))[j]? =some y):y.1≠x.1:=λ e=>by
 have H:=(h.1 k x g).2;rw[any_eq_false]at H;exact H y (by rw[YR]at d;exact a8 d) (by simpa using e)
def Sg{l:List (ByteArray×Bool)}(h:atsOk l){k j:Nat}{x y:ByteArray×Bool}(H:l[k]? =some x)(d:(ww 0 (J k l))[j]? =some y):y.1≠x.1:=h.no H d
def um{α:Type}{l:List α}{k j:Nat}{y:α}(h:(ww 0 (J k l))[j]? =some y):j<k/\l[j]? =some y:=by
 rw[YR,Yu]at h;split at h
 ·exact⟨a0D,h⟩
 ·cases h
def OA{n:Int}{l:List Iv}(h:okTx n l){t x y:Iv}{i j:Nat}{p q:Int}(k:t∈l)(o:l[i]? =some x)(r:l[j]? =some y)(h1:t.b<=p/\p<t.e)(h2:t.b<=q/\q<t.e)(d:x.b<=p/\p<x.e)(g:y.b<=q/\q<y.e):i=j:=by
 obtain⟨m,H⟩:=Y9 k;rw[<-h.uniq H o h1 d,<-h.uniq H r h2 g]
structure HdF(n:Nat)(hd:List Int):Prop where
 rg:∀ (i:Nat) h,hd[i]? =some h->h= -1\/(0<=h/\h<(I hd:Int))
 rk:∃ rank:Nat->Nat,∀ (i:Nat) h,hd[i]? =some h->0<=h->rank h.toNat<rank i
def OkC.Xd{n:Nat}{c:Co}(h:OkC n c):HdF (I c.tk) c.hd:=by
 rcases h.hd with⟨e,_⟩|q
 ·rw[e];exact⟨λ i h H=>by simp at H,⟨id,λ i h H=>by simp at H⟩⟩
 ·refine⟨λ i x g=>(q.el i x g).elim .inl λ⟨t,d,j,k,l,o⟩=>.inr ?_,q.rk⟩;have:=(h.tx.nm t d).2.2;rw[q.len.1];omega
def OkC.nK{n:Nat}{c:Co}(h:OkC n c):I c.hd=I c.rl/\(0<I c.hd->okHd (I c.tk) c.tx c.hd c.rl):=by
 rcases h.hd with⟨e,E⟩|q
 ·rw[e,E];exact⟨Y,λ h=>by simp at h⟩
 ·exact⟨by rw[q.len.1,q.len.2],λ _=>q⟩
def Dh{l:List Iv}{k m:Nat}{x y:Iv}(g:k<=m)(d:l[m]? =some x)(H:l[k]? =some y)(h:¬ y.nm=x.nm):k+1<=m:=by
 rcases XI k m with q|q
 ·exact q
 ·have e:k=m:=O
  subst e;rw[d]at H;cases H;exact absurd Y h
def ka{α:Type}{l:List α}{k:Nat}{x:α}{Q:Nat->α->Prop}(o:∀ (j:Nat) t,j<k->l[j]? =some t->Q j t)(d:l[k]? =some x)(h:Q k x):∀ (j:Nat) t,j<k+1->l[j]? =some t->Q j t:=λ j t g H=>by
 rcases XI j k with q|q
 ·exact o j t q H
 ·have e:j=k:=O
  subst e;rw[d]at H;cases H;exact h
def OB{nd:List Nd}{E:List Int}{k:Nat}{x:Nd}(H:∀ (q:Nat) z,E[q]? =some z->z=0\/∃ (s:Nat) (y:Nd),s<k/\nd[s]? =some y/\y.p+1=(q:Int)/\y.e=z)(g:nd[k]? =some x)(j: -1<=x.p):∀ (q:Nat) z,(E.set (x.p+1).toNat x.e)[q]? =some z->z=0\/∃ (s:Nat) (y:Nd),s<k+1/\nd[s]? =some y/\y.p+1=(q:Int)/\y.e=z:=λ q z h=>by
 rw[YQ]at h;split at h
 ·split at h
  ·cases h;exact .inr ⟨k,x,O,g,O,Y⟩
  ·cases h
 ·exact(H q z h).imp_right λ⟨s,y,i,d⟩=>⟨s,y,O,d⟩
def OC{dp:List Nat}{k d:Nat}(p:∀ (q:Nat) d,dp[q]? =some d->d<=q)(hd:d<=k):∀ (q:Nat) e,(dp.set (k+1) (d+1))[q]? =some e->e<=q:=λ q e h=>by
 rw[YQ]at h;split at h
 ·split at h
  ·cases h;omega
  ·cases h
 ·exact p q e h
def Kp{dp:List Nat}{k d:Nat}(p:∀ (q:Nat) d,dp[q]? =some d->d<=q+1/\(k<=q->d=0))(hd:d<=k):(∀ (q:Nat) e,(dp.set k d)[q]? =some e->q≠k->e<=q+1/\(k<=q->e=0))/\∀ e,(dp.set k d)[k]? =some e->e<=k:=by
 refine⟨λ q e h H=>?_,λ e h=>?_⟩
 ·rw[Zn (Ne.symm H)]at h;exact p q e h
 ·rw[YQ]at h;split at h
  ·split at h
   ·cases h;exact hd
   ·cases h
  ·omega
def Kq{dp:List Nat}{k d:Nat}(p:(∀ (q:Nat) d,dp[q]? =some d->q≠k->d<=q+1/\(k<=q->d=0))/\∀ d,dp[k]? =some d->d<=k)(hd:d<=k):∀ (q:Nat) e,(dp.set k (d+1))[q]? =some e->e<=q+1/\(k+1<=q->e=0):=λ q e h=>by
 by_cases H:k=q
 ·subst H;rw[YQ]at h;split at h
  ·split at h
   ·cases h;exact⟨O,λ h=>by omega⟩
   ·cases h
  ·omega
 ·rw[Zn H]at h;have:=p.1 q e h (Ne.symm H);exact⟨this.1,λ h=>this.2 O⟩
def UP{hd:List Int}{r:List ByteArray}{k:Nat}(he:I hd=I r)(o:∀ (j:Nat) t,j<k->hd[j]? =some t->t= -1/\r[j]? =some (ws #[]))(p:I hd<=k)(g:∃ i:Nat,(∃ h,hd[i]? =some h/\h≠-1)\/∃ s,r[i]? =some s/\s≠wt):False:=by
 obtain⟨i,⟨h,H,d⟩|⟨s,H,d⟩⟩:=g
 ·have:=(KC.1 H).1;exact d (o i h O H).1
 ·have q:=(KC.1 H).1;obtain⟨t,l⟩:=ut hd i O;have:=(o i t O l).2;rw[H]at this;cases this;exact d Y
def OD(d:List Nat)(z:Int):∃ s,(0<=z/\z<(I d:Int))->d[z.toNat]? =some s:=by
 by_cases h:z.toNat<I d
 ·exact⟨d[z.toNat],λ _=>py h⟩
 ·exact⟨0,λ q=>absurd q O⟩
def Sh{d:List Nat}{z:Int}{n k s:Nat}{r:Nat->Nat}(g: -1<=z/\z<(n:Int))(l:I d=n)(i:(0<=z/\z<(I d:Int))->d[z.toNat]? =some s)(H:∀ (j:Nat) v,d[j]? =some v->v<=k+1/\(v=k+1->0<=z->r z.toNat<r j)):((z<0\/(n:Int)<=z)\/s≠k+1)\/False:=by
 rcases(by omega:z<0\/0<=z)with q|q
 ·exact .inl (.inl (.inl q))
 ·refine .inl (.inr λ e=>?_);have:=(H _ s (i ⟨q,O⟩)).2 e q;omega
def OE{hd:List Int}{p:List Nat}{z x:Int}{k:Nat}{r:Nat->Nat}(g:∀ (j:Nat) v,p[j]? =some v->v<=k+1/\(v=k+1->0<=z->r z.toNat<r j))(H:∀ (i:Nat) h,hd[i]? =some h->0<=h->r h.toNat<r i)(o:hd[z.toNat]? =some x)(q:0<=z):∀ (j:Nat) v,(p.set z.toNat (k+1))[j]? =some v->v<=k+1/\(v=k+1->0<=x->r x.toNat<r j):=λ j v h=>by
 rw[YQ]at h;split at h
 ·rename_i e
  split at h
  ·cases h;refine⟨KM _,λ _ d=>?_⟩;have:=H _ x o d;rw[e]at this;exact this
  ·cases h
 ·have l:=g j v h;exact⟨l.1,λ e d=>by have:=l.2 e q;have:=H _ x o d;omega⟩
