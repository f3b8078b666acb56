/-
 M41t:what the decoder reads at the bytes of a good corpus,part by part. No program in sight.
-/
import Derived.Test.YthffkcnbdehceaaGreatM41r
set_option linter.all false
open Go.Proofs.YthffkcnbdehceaaGreat
open List
namespace Go.Kw
def Ps(x:mr):Prop:=x.1.size<=1073741824/\x.2.2.2.length<=1073741824/\(∀ p∈x.2.2.2,QM p)/\0<=x.2.1/\x.2.1<=x.2.2.1/\x.2.2.1<=1073741824
def NV{X:Bool}{s:RS}{r:List Nat}{l:List mr}(h:At X s (uv l.length++(l.flatMap im++r)))(hl:l.length<=1073741824)(hx:∀ x∈l,Ps x)(hc:Po 0 l):At X (eD s 0).2.1 r/\((eD s 0).2.1.1=true->s.1=true/\(eD s 0).1=l):=by
 obtain⟨h1,h2⟩:=iO h hl;let G:List mr->RS×Nat->Prop:=λ l p=>At X p.1 (l.flatMap im++r)/\(p.1.1=true->Po (p.2:Int) l);have h0:∀ (s:RS×Nat) (l:List mr),xN s=false->G l s->G [] s:=λ s l q g=>⟨g.1.off q,λ q2=>(by rw[show s.1.1=false from q]at q2;cases q2)⟩;have key:=tm (ok:=xN) (f:=BJ) (val:=id) (G:=G) h0 (m:=(aV s).1) (s:=((aV s).2,0)) (λ q=>(h2 q).2) ⟨h1,λ _=>hc⟩ (pG (ok:=xN) (f:=BJ) (val:=id) (okb:=Ps) h0 (λ p x l hx g=>by
  obtain⟨a1,a2,a3,a4,a5,a6⟩:=hx;have g':At X p.1 (ct x.1++(uv (x.2.2.1-x.2.1).toNat++(qj x.2.2.2++(l.flatMap im++r)))):=by
   have e:(x::l).flatMap im++r=ct x.1++(uv (x.2.2.1-x.2.1).toNat++(qj x.2.2.2++(l.flatMap im++r))):=by rw[TK,show im x=ct x.1++(uv (x.2.2.1-x.2.1).toNat++qj x.2.2.2)from Y];simp only[KV]
   rw[<-e];exact g.1
  obtain⟨b1,b2⟩:=tj g' a1;obtain⟨c1,c2⟩:=iO b1 (by omega);obtain⟨d1,d2⟩:=My c1 a2 a3;have key:(BJ p).2.1.1=true->p.1.1=true/\(bh p.1).1=x.1/\(aV (bh p.1).2).1=(x.2.2.1-x.2.1).toNat/\(qk (aV (bh p.1).2).2).1=x.2.2.2:=λ q=>by
   obtain⟨q1,q2⟩:=d2 q;obtain⟨q3,q4⟩:=c2 q1;obtain⟨q5,q6⟩:=b2 q3;exact⟨q5,q6,q4,q2⟩
  refine⟨⟨d1,λ q=>?_⟩,λ q=>?_⟩
  ·obtain⟨q1,q2,q3,q4⟩:=key q;have h9:=g.2 q1;have e:((BJ p).2.2:Int)=x.2.2.1:=by
    show((p.2+(aV (bh p.1).2).1:Nat):Int)=_;have:=h9.1;rw[q3];omega
   rw[e];exact h9.2
  ·obtain⟨q1,q2,q3,q4⟩:=key q;have h9:=(g.2 q1).1;refine⟨q1,?_⟩;show((bh p.1).1,((p.2:Nat):Int),((p.2+(aV (bh p.1).2).1:Nat):Int),(qk (aV (bh p.1).2).2).1)=x;rw[q2,q3,q4];exact Ug Y (Ug h9.symm (Ug (by simp only;omega) Y))) l ((aV s).2,0) hx ⟨h1,λ _=>hc⟩)
 refine⟨key.1.1,λ q=>?_⟩;obtain⟨k1,k2⟩:=key.2 q;rw[map_id]at k2;exact⟨(h2 k1).1,k2⟩
def NW{X:Bool}{s:RS}{r:List Nat}{l:List mr}(h:At X s (uv l.length++(fX 0 l++r)))(hl:l.length<=1073741824)(hx:∀ x∈l,Ps x)(hc:OU 0 l):At X (eS s 0).2.1 r/\((eS s 0).2.1.1=true->s.1=true/\(eS s 0).1=l):=by
 obtain⟨h1,h2⟩:=iO h hl;let G:List mr->RS×Nat->Prop:=λ l p=>At X p.1 (fX (p.2:Int) l++r)/\(p.1.1=true->OU (p.2:Int) l);have h0:∀ (s:RS×Nat) (l:List mr),xN s=false->G l s->G [] s:=λ s l q g=>⟨g.1.off q,λ q2=>(by rw[show s.1.1=false from q]at q2;cases q2)⟩;have key:=tm (ok:=xN) (f:=zU) (val:=id) (G:=G) h0 (m:=(aV s).1) (s:=((aV s).2,0)) (λ q=>(h2 q).2) ⟨h1,λ _=>hc⟩ (pG (ok:=xN) (f:=zU) (val:=id) (okb:=Ps) h0 (λ p x l hx g=>by
  obtain⟨a1,a2,a3,a4,a5,a6⟩:=hx;have g':At X p.1 (ct x.1++(uv (x.2.1-(p.2:Int)).toNat++(uv (x.2.2.1-x.2.1).toNat++(qj x.2.2.2++(fX x.2.1 l++r))))):=by
   have e:fX (p.2:Int) (x::l)++r=ct x.1++(uv (x.2.1-(p.2:Int)).toNat++(uv (x.2.2.1-x.2.1).toNat++(qj x.2.2.2++(fX x.2.1 l++r)))):=by rw[fX];unfold Mt;simp only[KV]
   rw[<-e];exact g.1
  obtain⟨b1,b2⟩:=tj g' a1;obtain⟨c1,c2⟩:=iO b1 (by omega);obtain⟨e1,e2⟩:=iO c1 (by omega);obtain⟨d1,d2⟩:=My e1 a2 a3;have key:(zU p).2.1.1=true->p.1.1=true/\(bh p.1).1=x.1/\(aV (bh p.1).2).1=(x.2.1-(p.2:Int)).toNat/\(aV (aV (bh p.1).2).2).1=(x.2.2.1-x.2.1).toNat/\(qk (aV (aV (bh p.1).2).2).2).1=x.2.2.2:=λ q=>by
   obtain⟨q1,q2⟩:=d2 q;obtain⟨q7,q8⟩:=e2 q1;obtain⟨q3,q4⟩:=c2 q7;obtain⟨q5,q6⟩:=b2 q3;exact⟨q5,q6,q4,q8,q2⟩
  have hat:(zU p).2.1.1=true->((zU p).2.2:Int)=x.2.1:=λ q=>by
   obtain⟨q1,q2,q3,q4,q5⟩:=key q;have h9:=(g.2 q1).1;show((p.2+(aV (bh p.1).2).1:Nat):Int)=_;rw[q3];omega
  refine⟨⟨?_,λ q=>?_⟩,λ q=>?_⟩
  ·rcases UQ (zU p).2.1.1 with q|q
   ·rw[hat q];exact d1
   ·exact At.off d1 q
  ·obtain⟨q1,_⟩:=key q;rw[hat q];exact(g.2 q1).2
  ·obtain⟨q1,q2,q3,q4,q5⟩:=key q;have h9:=(g.2 q1).1;refine⟨q1,?_⟩;show((bh p.1).1,((p.2+(aV (bh p.1).2).1:Nat):Int),((p.2+(aV (bh p.1).2).1+(aV (aV (bh p.1).2).2).1:Nat):Int),(qk (aV (aV (bh p.1).2).2).2).1)=x;rw[q2,q3,q4,q5];exact Ug Y (Ug (by simp only;omega) (Ug (by simp only;omega) Y))) l ((aV s).2,0) hx ⟨h1,λ _=>hc⟩)
 refine⟨key.1.1,λ q=>?_⟩;obtain⟨k1,k2⟩:=key.2 q;rw[map_id]at k2;exact⟨(h2 k1).1,k2⟩
def Pu(x:Nd):Prop:=x.nm.size<=1073741824/\-1<=x.p/\x.p<1073741824/\0<=x.b/\x.b<=x.e/\x.e<=1073741824
def NX{X:Bool}{s:RS}{r:List Nat}{l:List Nd}(h:At X s (uv l.length++(l.flatMap tf++r)))(hl:l.length<=1073741824)(hx:∀ x∈l,Pu x):At X (fC s).2 r/\((fC s).2.1=true->s.1=true/\(fC s).1=l):=by
 obtain⟨h1,h2⟩:=iO h hl;let G:List Nd->RS->Prop:=λ l p=>At X p (l.flatMap tf++r);have h0:∀ (s:RS) (l:List Nd),s.1=false->G l s->G [] s:=λ s l q g=>At.off g q;have key:=tm (ok:=Prod.fst) (f:=Ix) (val:=id) (G:=G) h0 (m:=(aV s).1) (λ q=>(h2 q).2) h1 (pG (ok:=Prod.fst) (f:=Ix) (val:=id) (okb:=Pu) h0 (λ p x l hx g=>by
  obtain⟨a1,a2,a3,a4,a5,a6⟩:=hx;have g':At X p (ct x.nm++(uv (x.p+1).toNat++(uv x.b.toNat++(uv (x.e-x.b).toNat++(l.flatMap tf++r))))):=by
   have e:(x::l).flatMap tf++r=ct x.nm++(uv (x.p+1).toNat++(uv x.b.toNat++(uv (x.e-x.b).toNat++(l.flatMap tf++r)))):=by rw[TK];unfold tf;simp only[KV]
   rw[<-e];exact g
  obtain⟨b1,b2⟩:=tj g' a1;obtain⟨c1,c2⟩:=iO b1 (by omega);obtain⟨d1,d2⟩:=iO c1 (by omega);obtain⟨e1,e2⟩:=iO d1 (by omega);refine⟨e1,λ q=>?_⟩;obtain⟨q1,q2⟩:=e2 q;obtain⟨q3,q4⟩:=d2 q1;obtain⟨q5,q6⟩:=c2 q3;obtain⟨q7,q8⟩:=b2 q5;refine⟨q7,?_⟩;show(⟨(bh p).1,((aV (aV (bh p).2).2).1:Int),(((aV (aV (bh p).2).2).1+(aV (aV (aV (bh p).2).2).2).1:Nat):Int),((aV (bh p).2).1:Int)-1⟩:Nd)=x;rw[q2,q4,q6,q8];obtain⟨x1,x2,x3,x4⟩:=x;simp only at a2 a3 a4 a5 a6⊢;rw[Nd.mk.injEq];exact⟨Y,by omega,by omega,by omega⟩) l (aV s).2 hx h1)
 refine⟨key.1,λ q=>?_⟩;obtain⟨k1,k2⟩:=key.2 q;rw[map_id]at k2;exact⟨(h2 k1).1,k2⟩
def Pv(x:Int×ByteArray):Prop:= -1<=x.1/\x.1<1073741824/\x.2.size<=1073741824
def NY{X:Bool}{s:RS}{r:List Nat}{l:List (Int×ByteArray)}(h:At X s (uv l.length++(l.flatMap tJ++r)))(hl:l.length<=1073741824)(hx:∀ x∈l,Pv x):At X (iy s).2 r/\((iy s).2.1=true->s.1=true/\(iy s).1=l):=by
 obtain⟨h1,h2⟩:=iO h hl;let G:List (Int×ByteArray)->RS->Prop:=λ l p=>At X p (l.flatMap tJ++r);have h0:∀ (s:RS) (l:List (Int×ByteArray)),s.1=false->G l s->G [] s:=λ s l q g=>At.off g q;have key:=tm (ok:=Prod.fst) (f:=D9) (val:=id) (G:=G) h0 (m:=(aV s).1) (λ q=>(h2 q).2) h1 (pG (ok:=Prod.fst) (f:=D9) (val:=id) (okb:=Pv) h0 (λ p x l hx g=>by
  obtain⟨a1,a2,a3⟩:=hx;have g':At X p (uv (x.1+1).toNat++(ct x.2++(l.flatMap tJ++r))):=by
   have e:(x::l).flatMap tJ++r=uv (x.1+1).toNat++(ct x.2++(l.flatMap tJ++r)):=by rw[TK];unfold tJ;simp only[KV]
   rw[<-e];exact g
  obtain⟨b1,b2⟩:=iO g' (by omega);obtain⟨c1,c2⟩:=tj b1 a3;refine⟨c1,λ q=>?_⟩;obtain⟨q1,q2⟩:=c2 q;obtain⟨q3,q4⟩:=b2 q1;refine⟨q3,?_⟩;show(((aV p).1:Int)-1,(bh (aV p).2).1)=x;rw[q2,q4];exact Ug (by simp only;omega) Y) l (aV s).2 hx h1)
 refine⟨key.1,λ q=>?_⟩;obtain⟨k1,k2⟩:=key.2 q;rw[map_id]at k2;exact⟨(h2 k1).1,k2⟩
def IF(c:Co):List Nat:=uv c.tx.length++(c.tx.flatMap (λ x=>im x.v)++(uv c.rg.length++(fX 0 (c.rg.map Iv.v)++Fy c.nd c.hd c.rl)))
def NZ(X:List ByteArray->List Nat)(T:List Nat->List Nat)(c:Co):kc X T c.v=[67,83,49]++(uv c.at_.length++(fe X T c.v.at_ c.v.tk c.at_.length++IF c)):=ot X T c
def MB{x:Iv}(h1:bF x.nm=true)(h2:okPs x.ps)(h3:0<=x.b/\x.b<=x.e/\x.e<=1073741824):Ps x.v:=by
 have a1:=bt h1;refine⟨by show x.nm.size<=_;omega,by show x.ps.length<=_;have:=h2.1;omega,λ p hp=>?_,h3⟩;have h4:=h2.2.1 p hp;have:=bt h4.1;have:=iN h4.2;exact⟨by omega,by omega⟩
def tail_at{X:Bool}{s:RS}{n:Nat}{c:Co}(ho:OkC n c)(hn:n<=3)(h:At X s (IF c)):At X (iy (fC (eS (eD s 0).2.1 0).2.1).2).2 []/\((iy (fC (eS (eD s 0).2.1 0).2.1).2).2.1=true->s.1=true/\(eD s 0).1=c.tx.map Iv.v/\(eS (eD s 0).2.1 0).1=c.rg.map Iv.v/\(fC (eS (eD s 0).2.1 0).2.1).1=c.nd/\(iy (fC (eS (eD s 0).2.1 0).2.1).2).1=c.hd.zip c.rl):=by
 have h1:=ho.ntk;have h2:=ho.ntx;have h3:=ho.nrg;have h4:=ho.nnd;have h5:=ho.Jd hn;have hv:=ho.R7 (RV hn (by decide));have e1:(c.tx.map Iv.v).length=c.tx.length:=Rq ..;have e2:(c.rg.map Iv.v).length=c.rg.length:=Rq ..;have e3:(c.tx.map Iv.v).flatMap im=c.tx.flatMap λ x=>im x.v:=VP ..;have e4:(c.hd.zip c.rl).length=c.hd.length:=by rw[length_zip];omega
 unfold IF at h;rw[<-e1,<-e3,<-e2]at h;obtain⟨A1,B1⟩:=NV h (by omega) (λ x hx=>by
  obtain⟨y,hy,rfl⟩:=Sk.1 hx;obtain⟨q1,q2,q3,q4,q5⟩:=ho.tx.nm y hy;exact MB q1 q2 ⟨q3,by omega,by omega⟩) hv.xc
 obtain⟨A2,B2⟩:=NW A1 (by omega) (λ x hx=>by
  obtain⟨y,hy,rfl⟩:=Sk.1 hx;obtain⟨q1,q2,q3⟩:=ho.rg.el y hy;have:=q2.bd ho.tx;exact MB q1 q3 ⟨by omega,by omega,by omega⟩) hv.rc
 unfold Fy at A2;obtain⟨A3,B3⟩:=NX A2 (by omega) (λ x hx=>by
  obtain⟨q1,q2⟩:=ho.nd.el x hx;have q3:=q2.bd ho.tx;obtain⟨i,hi⟩:=Sd hx;have q4:=ho.nd.par i x hi;have q5:=(IN.1 hi).1;have q6:=bt q1;exact⟨by omega,by omega,by omega,by omega,by omega,by omega⟩)
 rw[<-e4,<-SO ((c.hd.zip c.rl).flatMap tJ)]at A3;obtain⟨A4,B4⟩:=NY A3 (by omega) (λ x hx=>by
  obtain⟨i,hi⟩:=Sd hx;rw[UJ]at hi;have:=ho.Qt hn hi.1 hi.2;exact⟨by omega,by omega,by omega⟩)
 refine⟨A4,λ q=>?_⟩;obtain⟨q1,q2⟩:=B4 q;obtain⟨q3,q4⟩:=B3 q1;obtain⟨q5,q6⟩:=B2 q3;obtain⟨q7,q8⟩:=B1 q5;exact⟨q7,q8,q6,q4,q2⟩
def QN{c:Co}{as_:List (ByteArray×Bool)}{S:List (SV×List ByteArray)}{tx rg:List Iv}{nd:List Nd}{hz:List (Int×ByteArray)}{va vt vx vr vn vh vl:Value}(h1:as_=c.at_)(h2:S.map Prod.snd=c.tk.map (·.ns))(h3:tx.map Iv.v=c.tx.map Iv.v)(h4:rg.map Iv.v=c.rg.map Iv.v)(h5:nd=c.nd)(h6:hz=c.hd.zip c.rl)(h7:c.hd.length=c.rl.length):
  c.v=(Co.mk va vt vx vr vn vh vl as_ (S.map λ p=>(⟨p.1,p.2⟩:Tk)) tx rg nd (hz.map Prod.fst) (hz.map Prod.snd)).v:=by
 have e1:(S.map λ p=>(⟨p.1,p.2⟩:Tk)).map (·.ns)=c.tk.map (·.ns):=by rw[U4,<-h2];rfl
 have e2:hz.map Prod.fst=c.hd:=by rw[h6,map_fst_zip (by omega)]
 have e3:hz.map Prod.snd=c.rl:=by rw[h6,map_snd_zip (by omega)]
 unfold Co.v;simp only;rw[h1,e1,h3,h4,h5,e2,e3]
def Pw{w:World}{v:Value}{S:List (SV×List ByteArray)}(h:RdL w v (bu ByteArray) S):RdL w v ja (S.map λ p=>(⟨p.1,p.2⟩:Tk)):=by
 have e:ja.all (S.map λ p=>(⟨p.1,p.2⟩:Tk))=(bu ByteArray).all S:=by
  unfold Enc.all;rw[VP];rfl
 unfold RdL at h⊢;rw[e,Rq];exact h
