/-
 M41t:what the decoder reads at the bytes of a good corpus,part by part. No program in sight.
-/
import Derived.Test.YtcgidfgdbhihbaaGreatDoorM41r
open List renaming length→I
set_option linter.all false
open Go.Proofs.YtcgidfgdbhihbaaGreatDoor
open List
namespace Go.Kw
def V6(x:nI):Prop:=x.1.size<=1073741824/\I x.2.2.2<=1073741824/\(∀ p∈x.2.2.2,WC p)/\0<=x.2.1/\x.2.1<=x.2.2.1/\x.2.2.1<=1073741824
def SI{X:Bool}{s:RS}{r:List Nat}{l:List nI}(h:At X s (uv (I l)++(l.flatMap jc++r)))(hl:I l<=1073741824)(o:∀ x∈l,V6 x)(y:Vd 0 l):At X (eD s 0).2.1 r/\((eD s 0).2.1.1=true->s.1=true/\(eD s 0).1=l):=by
 obtain⟨u,w⟩:=jx h hl;let G:List nI->RS×Nat->Prop:=λ l p=>At X p.1 (l.flatMap jc++r)/\(p.1.1=true->Vd (p.2:Int) l);have t:∀ (s:RS×Nat) (l:List nI),zx s=false->G l s->G [] s:=λ s l q g=>⟨g.1.off q,λ Q=>(by rw[show s.1.1=false from q]at Q;cases Q)⟩;have k:=uI (ok:=zx) (f:=Du) (val:=id) (G:=G) t (m:=(aW s).1) (s:=((aW s).2,0)) (λ q=>(w q).2) ⟨u,λ _=>y⟩ (qV (ok:=zx) (f:=Du) (val:=id) (okb:=V6) t (λ p x l o g=>by
  obtain⟨A,D,E,a4,a5,a6⟩:=o;have W:At X p.1 (cI x.1++(uv (x.2.2.1-x.2.1).toNat++(rS x.2.2.2++(l.flatMap jc++r)))):=by
   have e:(x::l).flatMap jc++r=cI x.1++(uv (x.2.2.1-x.2.1).toNat++(rS x.2.2.2++(l.flatMap jc++r))):=by rw[Zs,show jc x=cI x.1++(uv (x.2.2.1-x.2.1).toNat++rS x.2.2.2)from Y];simp only[KW]
   rw[<-e];exact g.1
  obtain⟨N,P⟩:=uH W A;obtain⟨R,T⟩:=jx N O;obtain⟨d1,d2⟩:=Qq R D E;have k:(Du p).2.1.1=true->p.1.1=true/\(aU p.1).1=x.1/\(aW (aU p.1).2).1=(x.2.2.1-x.2.1).toNat/\(rN (aW (aU p.1).2).2).1=x.2.2.2:=λ q=>by
   obtain⟨d,Q⟩:=d2 q;obtain⟨i,j⟩:=T d;obtain⟨q5,q6⟩:=P i;exact⟨q5,q6,j,Q⟩
  refine⟨⟨d1,λ q=>?_⟩,λ q=>?_⟩
  ·obtain⟨d,Q,i,j⟩:=k q;have H:=g.2 d;have e:((Du p).2.2:Int)=x.2.2.1:=by
    show((p.2+(aW (aU p.1).2).1:Nat):Int)=_;have:=H.1;rw[i];omega
   rw[e];exact H.2
  ·obtain⟨d,Q,i,j⟩:=k q;have H:=(g.2 d).1;refine⟨d,?_⟩;show((aU p.1).1,((p.2:Nat):Int),((p.2+(aW (aU p.1).2).1:Nat):Int),(rN (aW (aU p.1).2).2).1)=x;rw[Q,i,j];exact ZR Y (ZR H.symm (ZR a0H Y))) l ((aW s).2,0) o ⟨u,λ _=>y⟩)
 refine⟨k.1.1,λ q=>?_⟩;obtain⟨k1,K⟩:=k.2 q;rw[map_id]at K;exact⟨(w k1).1,K⟩
def SJ{X:Bool}{s:RS}{r:List Nat}{l:List nI}(h:At X s (uv (I l)++(gV 0 l++r)))(hl:I l<=1073741824)(H:∀ x∈l,V6 x)(A:Um 0 l):At X (eW s 0).2.1 r/\((eW s 0).2.1.1=true->s.1=true/\(eW s 0).1=l):=by
 obtain⟨w,y⟩:=jx h hl;let G:List nI->RS×Nat->Prop:=λ l p=>At X p.1 (gV (p.2:Int) l++r)/\(p.1.1=true->Um (p.2:Int) l);have u:∀ (s:RS×Nat) (l:List nI),zx s=false->G l s->G [] s:=λ s l q g=>⟨g.1.off q,λ d=>(by rw[show s.1.1=false from q]at d;cases d)⟩;have k:=uI (ok:=zx) (f:=Bu) (val:=id) (G:=G) u (m:=(aW s).1) (s:=((aW s).2,0)) (λ q=>(y q).2) ⟨w,λ _=>A⟩ (qV (ok:=zx) (f:=Bu) (val:=id) (okb:=V6) u (λ p x l H g=>by
  obtain⟨D,E,N,a4,a5,a6⟩:=H;have g':At X p.1 (cI x.1++(uv (x.2.1-(p.2:Int)).toNat++(uv (x.2.2.1-x.2.1).toNat++(rS x.2.2.2++(gV x.2.1 l++r))))):=by
   have e:gV (p.2:Int) (x::l)++r=cI x.1++(uv (x.2.1-(p.2:Int)).toNat++(uv (x.2.2.1-x.2.1).toNat++(rS x.2.2.2++(gV x.2.1 l++r)))):=by rw[gV];unfold QA;simp only[KW]
   rw[<-e];exact g.1
  obtain⟨P,R⟩:=uH g' D;obtain⟨T,W⟩:=jx P O;obtain⟨e1,e2⟩:=jx T O;obtain⟨d1,d2⟩:=Qq e1 E N;have k:(Bu p).2.1.1=true->p.1.1=true/\(aU p.1).1=x.1/\(aW (aU p.1).2).1=(x.2.1-(p.2:Int)).toNat/\(aW (aW (aU p.1).2).2).1=(x.2.2.1-x.2.1).toNat/\(rN (aW (aW (aU p.1).2).2).2).1=x.2.2.2:=λ q=>by
   obtain⟨Q,d⟩:=d2 q;obtain⟨q7,q8⟩:=e2 Q;obtain⟨i,j⟩:=W q7;obtain⟨o,q6⟩:=R i;exact⟨o,q6,j,q8,d⟩
  have t:(Bu p).2.1.1=true->((Bu p).2.2:Int)=x.2.1:=λ q=>by
   obtain⟨Q,d,i,j,o⟩:=k q;have h9:=(g.2 Q).1;show((p.2+(aW (aU p.1).2).1:Nat):Int)=_;rw[i];omega
  refine⟨⟨?_,λ q=>?_⟩,λ q=>?_⟩
  ·rcases YC (Bu p).2.1.1 with q|q
   ·rw[t q];exact d1
   ·exact At.off d1 q
  ·obtain⟨Q,_⟩:=k q;rw[t q];exact(g.2 Q).2
  ·obtain⟨Q,d,i,j,o⟩:=k q;have h9:=(g.2 Q).1;refine⟨Q,?_⟩;show((aU p.1).1,((p.2+(aW (aU p.1).2).1:Nat):Int),((p.2+(aW (aU p.1).2).1+(aW (aW (aU p.1).2).2).1:Nat):Int),(rN (aW (aW (aU p.1).2).2).2).1)=x;rw[d,i,j,o];exact ZR Y (ZR a0H (ZR a0H Y))) l ((aW s).2,0) H ⟨w,λ _=>A⟩)
 refine⟨k.1.1,λ q=>?_⟩;obtain⟨k1,K⟩:=k.2 q;rw[map_id]at K;exact⟨(y k1).1,K⟩
def V7(x:Nd):Prop:=x.nm.size<=1073741824/\-1<=x.p/\x.p<1073741824/\0<=x.b/\x.b<=x.e/\x.e<=1073741824
def SL{X:Bool}{s:RS}{r:List Nat}{l:List Nd}(h:At X s (uv (I l)++(l.flatMap vj++r)))(W:I l<=1073741824)(H:∀ x∈l,V7 x):At X (fL s).2 r/\((fL s).2.1=true->s.1=true/\(fL s).1=l):=by
 obtain⟨i,j⟩:=jx h W;let G:List Nd->RS->Prop:=λ l p=>At X p (l.flatMap vj++r);have d:∀ (s:RS) (l:List Nd),s.1=false->G l s->G [] s:=λ s l q g=>At.off g q;have k:=uI (ok:=Prod.fst) (f:=La) (val:=id) (G:=G) d (m:=(aW s).1) (λ q=>(j q).2) i (qV (ok:=Prod.fst) (f:=La) (val:=id) (okb:=V7) d (λ p x l H g=>by
  obtain⟨A,o,t,u,w,y⟩:=H;have T:At X p (cI x.nm++(uv (x.p+1).toNat++(uv x.b.toNat++(uv (x.e-x.b).toNat++(l.flatMap vj++r))))):=by
   have e:(x::l).flatMap vj++r=cI x.nm++(uv (x.p+1).toNat++(uv x.b.toNat++(uv (x.e-x.b).toNat++(l.flatMap vj++r)))):=by rw[Zs];unfold vj;simp only[KW]
   rw[<-e];exact g
  obtain⟨D,E⟩:=uH T A;obtain⟨N,P⟩:=jx D O;obtain⟨d1,d2⟩:=jx N O;obtain⟨Q,R⟩:=jx d1 O;refine⟨Q,λ q=>?_⟩;obtain⟨q1,q2⟩:=R q;obtain⟨q3,q4⟩:=d2 q1;obtain⟨q5,q6⟩:=P q3;obtain⟨q7,q8⟩:=E q5;refine⟨q7,?_⟩;show(⟨(aU p).1,((aW (aW (aU p).2).2).1:Int),(((aW (aW (aU p).2).2).1+(aW (aW (aW (aU p).2).2).2).1:Nat):Int),((aW (aU p).2).1:Int)-1⟩:Nd)=x;rw[q2,q4,q6,q8];obtain⟨x1,x2,x3,x4⟩:=x;simp only at o t u w y⊢;rw[Nd.mk.injEq];exact⟨Y,O,O,O⟩) l (aW s).2 H i)
 refine⟨k.1,λ q=>?_⟩;obtain⟨k1,K⟩:=k.2 q;rw[map_id]at K;exact⟨(j k1).1,K⟩
def V8(x:Int×ByteArray):Prop:= -1<=x.1/\x.1<1073741824/\x.2.size<=1073741824
def SM{X:Bool}{s:RS}{r:List Nat}{l:List (Int×ByteArray)}(h:At X s (uv (I l)++(l.flatMap vM++r)))(D:I l<=1073741824)(H:∀ x∈l,V8 x):At X (ig s).2 r/\((ig s).2.1=true->s.1=true/\(ig s).1=l):=by
 obtain⟨i,j⟩:=jx h D;let G:List (Int×ByteArray)->RS->Prop:=λ l p=>At X p (l.flatMap vM++r);have d:∀ (s:RS) (l:List (Int×ByteArray)),s.1=false->G l s->G [] s:=λ s l q g=>At.off g q;have k:=uI (ok:=Prod.fst) (f:=F0) (val:=id) (G:=G) d (m:=(aW s).1) (λ q=>(j q).2) i (qV (ok:=Prod.fst) (f:=F0) (val:=id) (okb:=V8) d (λ p x l H g=>by
  obtain⟨T,W,A⟩:=H;have y:At X p (uv (x.1+1).toNat++(cI x.2++(l.flatMap vM++r))):=by
   have e:(x::l).flatMap vM++r=uv (x.1+1).toNat++(cI x.2++(l.flatMap vM++r)):=by rw[Zs];unfold vM;simp only[KW]
   rw[<-e];exact g
  obtain⟨o,t⟩:=jx y O;obtain⟨u,w⟩:=uH o A;refine⟨u,λ q=>?_⟩;obtain⟨Q,N⟩:=w q;obtain⟨P,R⟩:=t Q;refine⟨P,?_⟩;show(((aW p).1:Int)-1,(aU (aW p).2).1)=x;rw[N,R];exact ZR a0H Y) l (aW s).2 H i)
 refine⟨k.1,λ q=>?_⟩;obtain⟨E,K⟩:=k.2 q;rw[map_id]at K;exact⟨(j E).1,K⟩
def Lk(c:Co):List Nat:=uv (I c.tx)++(c.tx.flatMap (λ x=>jc x.v)++(uv (I c.rg)++(gV 0 (c.rg.map Iv.v)++HX c.nd c.hd c.rl)))
def SN(X:List ByteArray->List Nat)(T:List Nat->List Nat)(c:Co):ji X T c.v=[67,83,49]++(uv (I c.at_)++(fV X T c.v.at_ c.v.tk (I c.at_)++Lk c)):=pW X T c
def Qu{x:Iv}(h1:bF x.nm=true)(h2:okPs x.ps)(d:0<=x.b/\x.b<=x.e/\x.e<=1073741824):V6 x.v:=by
 have A:=bD h1;refine⟨by show x.nm.size<=_;omega,by show I x.ps<=_;have:=h2.1;omega,λ p g=>?_,d⟩;have H:=h2.2.1 p g;have:=bD H.1;have:=jE H.2;exact⟨O,O⟩
def tail_at{X:Bool}{s:RS}{n:Nat}{c:Co}(o:OkC n c)(k:n<=4)(h:At X s (Lk c)):At X (ig (fL (eW (eD s 0).2.1 0).2.1).2).2 []/\((ig (fL (eW (eD s 0).2.1 0).2.1).2).2.1=true->s.1=true/\(eD s 0).1=c.tx.map Iv.v/\(eW (eD s 0).2.1 0).1=c.rg.map Iv.v/\(fL (eW (eD s 0).2.1 0).2.1).1=c.nd/\(ig (fL (eW (eD s 0).2.1 0).2.1).2).1=c.hd.zip c.rl):=by
 have h1:=o.ntk;have h2:=o.ntx;have h3:=o.nrg;have h4:=o.nnd;have h5:=o.Mz k;have u:=o.WR (XL k bl);have T:I (c.tx.map Iv.v)=I c.tx:=Xu ..;have W:I (c.rg.map Iv.v)=I c.rg:=Xu ..;have e3:(c.tx.map Iv.v).flatMap jc=c.tx.flatMap λ x=>jc x.v:=a2w ..;have e4:I (c.hd.zip c.rl)=I c.hd:=by rw[length_zip];omega
 unfold Lk at h;rw[<-T,<-e3,<-W]at h;obtain⟨D,K⟩:=SI h O (λ x H=>by
  obtain⟨y,l,rfl⟩:=Y7.1 H;obtain⟨Q,d,j,p,r⟩:=o.tx.nm y l;exact Qu Q d ⟨j,O,O⟩) u.xc
 obtain⟨A,N⟩:=SJ D O (λ x H=>by
  obtain⟨y,l,rfl⟩:=Y7.1 H;obtain⟨Q,d,j⟩:=o.rg.el y l;have:=d.bd o.tx;exact Qu Q j ⟨O,O,O⟩) u.rc
 unfold HX at A;obtain⟨t,P⟩:=SL A O (λ x H=>by
  obtain⟨Q,d⟩:=o.nd.el x H;have j:=d.bd o.tx;obtain⟨i,g⟩:=Y9 H;have p:=o.nd.par i x g;have r:=(KC.1 g).1;have w:=bD Q;exact⟨O,O,O,O,O,O⟩)
 rw[<-e4,<-Yr ((c.hd.zip c.rl).flatMap vM)]at t;obtain⟨E,R⟩:=SM t O (λ x H=>by
  obtain⟨i,g⟩:=Y9 H;rw[a03]at g;have:=o.Wg k g.1 g.2;exact⟨O,O,O⟩)
 refine⟨E,λ q=>?_⟩;obtain⟨Q,d⟩:=R q;obtain⟨j,p⟩:=P Q;obtain⟨r,w⟩:=N j;obtain⟨q7,q8⟩:=K r;exact⟨q7,q8,w,p,d⟩
def WD{c:Co}{A:List (ByteArray×Bool)}{S:List (SV×List ByteArray)}{tx rg:List Iv}{nd:List Nd}{H:List (Int×ByteArray)}{o u w t r q vl:Value}(h1:A=c.at_)(h2:S.map Prod.snd=c.tk.map (·.ns))(j:tx.map Iv.v=c.tx.map Iv.v)(k:rg.map Iv.v=c.rg.map Iv.v)(l:nd=c.nd)(d:H=c.hd.zip c.rl)(y:I c.hd=I c.rl):
  c.v=(Co.mk o u w t r q vl A (S.map λ p=>(⟨p.1,p.2⟩:Tk)) tx rg nd (H.map Prod.fst) (H.map Prod.snd)).v:=by
 have E:(S.map λ p=>(⟨p.1,p.2⟩:Tk)).map (·.ns)=c.tk.map (·.ns):=by rw[ZT,<-h2];rfl
 have g:H.map Prod.fst=c.hd:=by rw[d,map_fst_zip O]
 have i:H.map Prod.snd=c.rl:=by rw[d,map_snd_zip O]
 unfold Co.v;simp only;rw[h1,E,j,k,l,g,i]
def uL:Co:=⟨.slice none 0 0,.slice none 0 0,.slice none 0 0,.slice none 0 0,.slice none 0 0,.slice none 0 0,.slice none 0 0,[],[],[],[],[],[],[]⟩
def yS(w:World):RdC w uL:=⟨RdL.nil _ _,RdL.nil _ _,RdL.nil _ _,RdL.nil _ _,RdL.nil _ _,RdL.nil _ _,RdL.nil _ _,λ t h=>a2T,λ t h=>a2T,λ t h=>a2T⟩
def V9{w:World}{v:Value}{S:List (SV×List ByteArray)}(h:RdL w v (bz ByteArray) S):RdL w v k8 (S.map λ p=>(⟨p.1,p.2⟩:Tk)):=by
 have e:k8.all (S.map λ p=>(⟨p.1,p.2⟩:Tk))=(bz ByteArray).all S:=by
  unfold Enc.all;rw[a2w];rfl
 unfold RdL at h⊢;rw[e,Xu];exact h
