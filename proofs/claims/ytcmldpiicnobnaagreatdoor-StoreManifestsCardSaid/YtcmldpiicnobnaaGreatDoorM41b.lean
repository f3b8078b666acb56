/-
 M41b:the bytes of a whole corpus (over the bytes X of a lexicon and T of a stream of numbers),and that they tell the corpus. No program in sight.
-/
import Derived.Test.YtcmldpiicnobnaaGreatDoorM06
set_option linter.all false
open Go.Proofs.YtcmldpiicnobnaaGreatDoor
open List
namespace Go.Kw
def bH(vs:List ByteArray):List Nat:=vs.map (ei (ab vs))
def dd(ns:List Nat)(n:Nat):List Nat:=(List.range ns.length).filter λ i=>decide (ns[i]? =some n)
def jy{ns:List Nat}{n i:Nat}:i∈dd ns n↔ns[i]? =some n:=by
 unfold dd;rw[Q4,mem_range,PI];exact⟨λ h=>h.2,λ h=>⟨(sp.1 h).1,h⟩⟩
def mK{ns:List Nat}(n:Nat)(h:ns.length<=4096):OkP (dd ns n):=by
 refine⟨?_,?_,λ p hp=>?_⟩
 ·have:=length_filter_le (λ i=>decide (ns[i]? =some n)) (List.range ns.length);rw[Sl]at this;exact Pb this h
 ·exact(pairwise_lt_range (n:=ns.length)).filter _
 ·have:=(sp.1 (jy.1 hp)).1;omega
def BM(ns:List Nat)(x n:Nat):dd (ns++[x]) n=if x=n then dd ns n++[ns.length]else dd ns n:=by
 unfold dd;rw[AT,KV,Si,Qm];have e:(List.range ns.length).filter (λ i=>decide ((ns++[x])[i]? =some n))=(List.range ns.length).filter λ i=>decide (ns[i]? =some n):=by
  apply filter_congr;intro i hi;rw[OO (mem_range.1 hi)]
 rw[e];by_cases h:x=n
 ·rw[Ow h];simp[h]
 ·rw[OB h];simp[h]
def tP{vs:List ByteArray}:∀ x∈bH vs,x<(ab vs).length:=λ x hx=>by
 obtain⟨v,hv,rfl⟩:=Ps.1 hx;exact(sp.1 (lj hv)).1
where mem_get' {α:Type} {l:List α} {i:Nat} {x:α} (h:l[i]? =some x):x∈l:=OD h
section
variable (X:List ByteArray->List Nat) (T:List Nat->List Nat)
def ye(ns:List Nat)(k:Nat):List Nat:=(List.range k).flatMap λ n=>df (aq (iJ (dd ns n)))
def nL(a:ByteArray×Bool)(vs:List ByteArray):List Nat:=dK a.1++(uv (if a.2 then 1 else 0)++(df (X vs)++(df (T (bH vs))++ye (bH vs) (ab vs).length)))
def gP(at_:List (ByteArray×Bool))(tk:List (List ByteArray))(k:Nat):List Nat:=(List.range k).flatMap λ i=>nL X T (at_.getD i (ByteArray.empty,false)) (tk.map λ t=>t.getD i ByteArray.empty)
abbrev rq:=ByteArray×Int×Int×List Pr
def Iv.v(x:Iv):rq:=(x.nm,x.b,x.e,x.ps)
def tx1(x:rq):List Nat:=dK x.1++(uv (x.2.2.1-x.2.1).toNat++j6 x.2.2.2)
def Ki(bf:Int)(x:rq):List Nat:=dK x.1++(uv (x.2.1-bf).toNat++(uv (x.2.2.1-x.2.1).toNat++j6 x.2.2.2))
def cf:Int->List rq->List Nat
 |_,[]=>[]
 |bf,x::r=>Ki bf x++cf x.2.1 r
def Kj(bf:Int)(l:List rq):Int:=l.foldl (λ _ x=>x.2.1) bf
def su:∀ (l:List rq) (bf:Int) (x:rq),cf bf (l++[x])=cf bf l++Ki (Kj bf l) x
 |[],bf,x=>by simp[cf,Kj]
 |y::l,bf,x=>by rw[PE,cf,cf,su l,No];rfl
def ot(x:Nd):List Nat:=dK x.nm++(uv (x.p+1).toNat++(uv x.b.toNat++uv (x.e-x.b).toNat))
def j4(x:Int×ByteArray):List Nat:=uv (x.1+1).toNat++dK x.2
structure oM where
 at_:List (ByteArray×Bool)
 tk:List (List ByteArray)
 tx:List rq
 rg:List rq
 nd:List Nd
 hd:List Int
 rl:List ByteArray
def Co.v(c:Co):oM:=⟨c.at_,c.tk.map (·.ns),c.tx.map Iv.v,c.rg.map Iv.v,c.nd,c.hd,c.rl⟩
def bm(c:oM):List Nat:=[67,83,49]++(uv c.at_.length++(gP X T c.at_ c.tk c.at_.length++(uv c.tx.length++(c.tx.flatMap tx1++(uv c.rg.length++(cf 0 c.rg++(uv c.nd.length++(c.nd.flatMap ot++(uv c.hd.length++(c.hd.zip c.rl).flatMap j4)))))))))
end
def wm{p:List Nat}:(aq p).length=p.length+4:=aX p
def BN{p q:List Nat}(h:aq p=aq q):p=q:=by
 have:=If List.length h;rw[wm,wm]at this;unfold aq at h;exact(append_inj h (by omega)).1
def Mg(us:List ByteArray):Prop:=(us.length<=1024/\(ab us).length<=8)/\∀ v∈us,v.size<=120
section
variable {X:List ByteArray->List Nat} {T:List Nat->List Nat}
def Kk:Int->List rq->Prop
 |_,[]=>True
 |z,x::r=>x.2.1=z/\Kk x.2.2.1 r
def IL:Int->List rq->Prop
 |_,[]=>True
 |z,x::r=>z<=x.2.1/\IL x.2.1 r
def Oh(x:rq):Prop:=x.1.size<2^64/\x.2.2.2.length<2^64/\(∀ p∈x.2.2.2,M6 p)/\0<=x.2.1/\x.2.1<=x.2.2.1/\x.2.2.1<4611686018427387904
structure OkV(a:oM):Prop where
 an:1<=a.at_.length/\a.at_.length<=8
 as:∀ x∈a.at_,x.1.size<2^64
 tn:a.tk.length<=1024
 tw:∀ i,(ab (a.tk.map λ t=>t.getD i ByteArray.empty)).length<=8
 tr:∀ r∈a.tk,r.length=a.at_.length/\∀ v∈r,v.size<=120
 xs:∀ x∈a.tx,Oh x
 xc:Kk 0 a.tx
 rs:∀ x∈a.rg,Oh x
 rc:IL 0 a.rg
 ns:∀ x∈a.nd,x.nm.size<2^64/\-1<=x.p/\x.p<4611686018427387904/\0<=x.b/\x.b<=x.e/\x.e<4611686018427387904
 hl:a.hd.length=a.rl.length
 hs:∀ x∈a.hd.zip a.rl,-1<=x.1/\x.1<4611686018427387904/\x.2.size<2^64
 ls:a.tx.length<2^64/\a.rg.length<2^64/\a.nd.length<2^64/\a.hd.length<2^64
end
def bG{s:ByteArray}(h:aU s=true):s.size<=32:=by
 unfold aU at h;exact Pl (OK _ _▸h).1
def k7{s:ByteArray}(h:iX s=true):s.size<=120:=by
 unfold iX at h;exact Pl (OK _ _▸h).1
theorem okPs.sz{ps:List Pr}(h:okPs ps):∀ p∈ps,M6 p:=λ p hp=>by
 have h1:=bG (h.2.1 p hp).1;have h2:=k7 (h.2.1 p hp).2;exact⟨by omega,by omega⟩
def Ho{x y:Iv}(h:fq x y<=0):x.b<=y.b:=by
 rcases(by omega:y.b<x.b\/x.b<=y.b)with q|q
 ·unfold fq ek at h;rw[OB (show¬ x.b<y.b by omega),Ow q,Ow (by omega)]at h;omega
 ·exact q
def IM:∀ (l:List Iv) (z:Int),(∀ x,l[0]? =some x->x.b=z)->(∀ (i:Nat) x y,l[i]? =some x->l[i+1]? =some y->y.b=x.e)->Kk z (l.map Iv.v)
 |[],_,_,_=>trivial
 |x::l,z,h1,h2=>⟨h1 x J,IM l x.e (λ y hy=>h2 0 x y J (by simpa using hy)) λ i a b ha hb=>h2 (i+1) a b (by simpa using ha) (by simpa using hb)⟩
def IP:∀ (l:List Iv) (z:Int),(∀ x,l[0]? =some x->z<=x.b)->(∀ (i:Nat) x y,l[i]? =some x->l[i+1]? =some y->x.b<=y.b)->IL z (l.map Iv.v)
 |[],_,_,_=>trivial
 |x::l,z,h1,h2=>⟨h1 x J,IP l x.b (λ y hy=>h2 0 x y J (by simpa using hy)) λ i a b ha hb=>h2 (i+1) a b (by simpa using ha) (by simpa using hb)⟩
def wq:∀ (l V:List ByteArray),l.Nodup->(∀ x∈l,x∈V)->l.length<=V.length
 |[],_,_,_=>IN _
 |x::r,V,hn,h=>by
  obtain⟨h1,h2⟩:=nodup_cons.1 hn;have hx:=h x (by simp);have h3:=wq r (V.filter λ y=> !decide (y=x)) h2 λ y hy=>Q4.2 ⟨h y (Pe _ hy),by
   have hne:¬ y=x:=λ e=>by subst e;exact h1 hy
   rw[KG hne];rfl⟩
  have h4:(V.filter λ y=> !decide (y=x)).length<V.length:=length_filter_lt_length_iff_exists.2 ⟨x,hx,by simp⟩;rw[KW];omega
def EN{vs V:List ByteArray}(h:∀ v∈vs,v∈V):(ab vs).length<=V.length:=
 wq _ _ (List.Pairwise.imp (R:=SLt) (S:=λ a b=>a≠b) (λ h e=>by subst e;exact SLt.C3 _ h) (eW vs)) λ x hx=>h x (dX.1 hx)
def OkC.N2{k:Nat}{c:Co}(h:OkC k c)(i:Nat):(ab (c.tk.map λ t=>t.ns.getD i ByteArray.empty)).length<=8:=by
 refine Pb (EN (V:=ByteArray.empty::GJ i) λ v hv=>?_) (Nat.succ_le_succ (DB i));obtain⟨t,ht,rfl⟩:=Ps.1 hv;rw[LW];cases he:t.ns[i]? with
 |none=>exact Pu ..
 |some u=>exact Pe _ (h.voc t ht i u he)
def OkC.NJ{k:Nat}{c:Co}(h:OkC k c)(hk:k<=80):OkV c.v:=by
 have hn:=h.ntk;have bd:∀ {b e:Int},inT c.tx b e->0<=b/\b<=e/\e<4611686018427387904:=λ q=>by
  have:=q.bd h.tx;omega
 have hdl:c.hd.length=c.rl.length/\c.hd.length<=4096:=by
  rcases h.hd with⟨a,b⟩|a
  ·rw[a,b];exact⟨J,IN _⟩
  ·have:=a.len;omega
 refine⟨h.at_.2,λ x hx=>?_,?_,λ i=>by show(ab ((c.tk.map (·.ns)).map _)).length<=8;rw[QU];exact h.N2 i,λ r hr=>?_,λ x hx=>?_,IM _ _ h.tx.first h.tx.next,λ x hx=>?_,IP _ _ (λ x hx=>?_) (λ i x y hx hy=>Ho (h.rg.asc i x y hx hy)),λ x hx=>?_,hdl.1,λ x hx=>?_,?_⟩
 ·obtain⟨i,hi⟩:=OV hx;have:=bG (h.at_.1 i x hi).1;omega
 ·show(c.tk.map (·.ns)).length<=1024;rw[OC];omega
 ·obtain⟨t,ht,rfl⟩:=Ps.1 hr;have q:=h.tk t ht;refine⟨q.1,λ v hv=>?_⟩;obtain⟨i,hi⟩:=OV hv;have hl:=(sp.1 hi).1;exact k7 (q.2 i v _ hi (py (by omega))).val
 ·obtain⟨t,ht,rfl⟩:=Ps.1 hx;obtain⟨q1,q2,q3,q4,q5⟩:=h.tx.nm t ht;have:=bG q1;exact⟨by show t.nm.size<_;omega,by show t.ps.length<_;have:=q2.1;omega,q2.sz,q3,by show t.b<=t.e;omega,by show t.e<_;omega⟩
 ·obtain⟨t,ht,rfl⟩:=Ps.1 hx;obtain⟨q1,q2,q3⟩:=h.rg.el t ht;have:=bG q1;have q4:=bd q2;exact⟨by show t.nm.size<_;omega,by show t.ps.length<_;have:=q3.1;omega,q3.sz,q4.1,q4.2.1,q4.2.2⟩
 ·exact(bd (h.rg.el x (OD hx)).2.1).1
 ·have q:=h.nd.el x hx;have:=bG q.1;have q4:=bd q.2;obtain⟨i,hi⟩:=OV hx;have hil:i<c.nd.length:=(sp.1 hi).1;have:=h.nnd;have q5:=h.nd.par i x hi;exact⟨by omega,by omega,by omega,q4⟩
 ·obtain⟨i,hi⟩:=OV hx;rw[show c.v.hd=c.hd from J,show c.v.rl=c.rl from J,Sb]at hi;rcases h.hd with⟨a,b⟩|a
  ·rw[a]at hi;simp at hi
  ·have q1:=a.el i x.1 hi.1;have q2:=a.nm x.2 (OD hi.2);refine⟨?_,?_,?_⟩
   ·rcases q1 with e|⟨t,ht,e⟩
    ·omega
    ·have:=h.tx.nm t ht;omega
   ·rcases q1 with e|⟨t,ht,e⟩
    ·omega
    ·have:=h.tx.nm t ht;omega
   ·rcases q2 with e|e
    ·rw[e];exact QO 64
    ·have:=bG e;omega
 ·have h1:=h.ntx;have h2:=h.nrg;have h3:=h.nnd;refine⟨?_,?_,?_,?_⟩
  ·show(c.tx.map Iv.v).length<_;rw[OC];omega
  ·show(c.rg.map Iv.v).length<_;rw[OC];omega
  ·show c.nd.length<_;omega
  ·show c.hd.length<_;omega
