/-
 M41k:bytes read by the reference's reader:what is met,and what is left. No program in sight.
-/
import Derived.Test.YtcmldpiicnobnaaGreatDoorF03
set_option linter.all false
set_option maxRecDepth 100000
open Go.Proofs.YtcmldpiicnobnaaGreatDoor
open List hiding count
namespace Go.Kw
def RdL.re{α:Type}{w:World}{v:Value}{E:Enc α}{l l':List α}(h:RdL w v E l)(e:l=l'):RdL w v E l':=e▸h
def k8{R a r:List Nat}(h:B8 R)(e:R=a++r):B8 r:=λ x hx=>h x (by rw[e];exact Qo _ hx)
def IQ{a r:List Nat}{n m:Nat}(hn:n=a.length)(hm:m=(a++r).length):((a++r).take m).drop n=r:=by subst hn;subst hm;rw[P7,drop_left]
def Mh{a r:List Nat}{n:Nat}(hn:n=a.length):((a++r).take n).drop 0=a:=by subst hn;rw[take_left];rfl
def Nz{m r:List Nat}:df m++r=uv m.length++(m++r):=by unfold df;rw[No]
def Oi{s:ByteArray}{r:List Nat}:dK s++r=uv (aF s).length++(aF s++r):=by unfold dK;rw[No,aj]
def xf(p:Pr):List Nat:=dK p.1++dK p.2
def Kn{ps:List Pr}{k:Nat}{p:Pr}{r:List Nat}(hp:ps[k]? =some p):(ps.drop k).flatMap xf++r=dK p.1++(dK p.2++((ps.drop (k+1)).flatMap xf++r)):=by
 obtain⟨h1,h2⟩:=sp.1 hp;rw[OZ h1,h2,PM];unfold xf;simp only[No]
def Hw{ps:List Pr}{k:Nat}{p:Pr}{r:List Nat}(hp:ps[k]? =some p):(ps.drop k).flatMap xf++r=df (aF p.1)++(df (aF p.2)++((ps.drop (k+1)).flatMap xf++r)):=by
 rw[Kn hp,Oi,Oi,Nz,Nz]
def Hx{ps:List Pr}{r:List Nat}:j6 ps++r=uv ps.length++((ps.drop 0).flatMap xf++r):=by unfold j6;rw[No];rfl
def dY{α:Type}{l:List α}{k:Nat}{x:α}(h:l[k]? =some x):l.take k++[x]=l.take (k+1):=by rw[QF,h];rfl
def EU{B S:List Nat}{i:Nat}(h:i<8*B.length):rb (B++S) i=rb B i:=by
 unfold rb;rw[LW,LW,OO (by omega)]
def zQ{B S:List Nat}{a:Nat}:∀ {m:Nat},a+m<=8*B.length->bvN (B++S) a m=bvN B a m
 |0,_=>rfl
 |m+1,h=>by rw[bvN,bvN,zQ (by omega),EU (by omega)]
def wy{P:List Nat}{a:Nat}:∀ m,bvN P a (m+1)=rb P a*2^m+bvN P (a+1) m
 |0=>by simp[bvN]
 |m+1=>by
  have h1:=wy (P:=P) (a:=a) m;have h2:bvN P a (m+1+1)=2*bvN P a (m+1)+rb P (a+(m+1)):=rfl;have h3:bvN P (a+1) (m+1)=2*bvN P (a+1) m+rb P (a+1+m):=rfl;have h4:rb P a*2^(m+1)=2*(rb P a*2^m):=by rw[PG,Ru (2^m) 2,Nat.mul_left_comm]
  rw[h2,h1,h3,h4,show a+(m+1)=a+1+m by omega];omega
def oA(l:List Nat):List Nat:=bE (cH 0 l)++ug (mW l l.length) (mW l l.length).length
def zR(l:List Nat):iJ l=uv l.length++(uv (cH 0 l).length++oA l):=by unfold iJ oA;simp only[No]
def ga(l:List Nat)(i:Nat):Nat:=(cH 0 (l.take i)).length
def mL(l:List Nat)(i:Nat):Nat:=l.getD i 0+1-FM l i
def bA(l:List Nat)(i:Nat):Nat:=Lib.bitLen (mL l i)
def zA(l:List Nat)(i:Nat):Nat:=Lib.bitLen (bA l i)-1
def EV{z v:Nat}(h:v<2^z):1*2^z|||v=2^z+v:=by rw[Nat.or_comm,tC h];omega
structure GapOk(l:List Nat)(i q:Nat):Prop where
 b1:1<=bA l i
 b2:bA l i<=13
 z:zA l i<=3
 nx:ga l i+(2*zA l i+1)+(bA l i-1)=ga l (i+1)
 le:ga l (i+1)<=(cH 0 l).length
 r0:∀ k,k<zA l i->rb (oA l) (ga l i+k)=0
 r1:rb (oA l) (ga l i+zA l i)=1
 m:1*2^zA l i|||bvN (oA l) (ga l i+zA l i+1) (zA l i)=bA l i
 p:(((FM l i:Nat):Int)-1)+((1*2^(bA l i-1)|||bvN (oA l) (ga l i+zA l i+1+zA l i) (bA l i-1):Nat):Int)=(q:Int)
def Ko{l:List Nat}{i q:Nat}(hl:OkP l)(hq:l[i]? =some q):GapOk l i q:=by
 have hi:=(sp.1 hq).1;have hd:l.getD i 0=q:=by rw[LW,hq];rfl
 have hbf:=E7 hl hq;have hq4:=hl.lt q (OD hq);have hg:mL l i=q+1-FM l i:=by unfold mL;rw[hd]
 have hg1:0<mL l i:=by omega
 have hg2:mL l i<2^13:=by omega
 have hb2:bA l i<=13:=bitLen_le hg2;have hb:=eV hg1 (by omega);have hb1:1<=bA l i:=hb.1;have hz4:Lib.bitLen (bA l i)<=4:=bitLen_le (by omega);have hz1:=(eV (v:=bA l i) (by omega) (by omega)).1;have hsp:l=l.take i++q::l.drop (i+1):=by rw[<-(sp.1 hq).2,<-OZ hi,P0]
 have hgp:cH 0 l=cH 0 (l.take i)++(kh (mL l i)++cH (q+1) (l.drop (i+1))):=by
  conv=>lhs;rw[hsp]
  rw[tD,hg];rfl
 have hdl:=mz (mL l i);have hdl2:(kh (mL l i)).length=(2*zA l i+1)+(bA l i-1):=by rw[hdl];show(Lib.bitLen (bA l i)-1+Lib.bitLen (bA l i))+(bA l i-1)=_;unfold zA;omega
 have hnx:ga l (i+1)=ga l i+(2*zA l i+1)+(bA l i-1):=by
  unfold ga;rw[aB hq,qj,AT,show q+1-K9 0 (l.take i)=mL l i from hg.symm,hdl2];omega
 have hle:ga l (i+1)<=(cH 0 l).length:=by rw[hnx,hgp];simp only[AT,hdl2];unfold ga;omega
 have hpl:(cH 0 l).length<=8*(bE (cH 0 l)).length:=by rw[bV];omega
 have hat:=E5 (cH 0 (l.take i)) (cH (q+1) (l.drop (i+1))) hg1 (by omega:mL l i<2^64);rw[<-hgp]at hat;obtain⟨⟨h0,h1,h2⟩,h3⟩:=hat;have e1:∀ k,k<(cH 0 l).length->rb (oA l) k=rb (bE (cH 0 l)) k:=λ k hk=>EU (by omega);have e2:∀ a m,a+m<=(cH 0 l).length->bvN (oA l) a m=bvN (bE (cH 0 l)) a m:=λ a m h=>zQ (by omega);have hr1:rb (oA l) (ga l i+zA l i)=1:=by rw[e1 _ (by omega)];exact h1
 have hm:2^zA l i+bvN (oA l) (ga l i+zA l i+1) (zA l i)=bA l i:=by
  have:=wy (P:=oA l) (a:=ga l i+zA l i) (zA l i);rw[hr1,e2 _ (zA l i+1) (by omega)]at this;have h5:bvN (bE (cH 0 l)) (ga l i+zA l i) (zA l i+1)=bA l i:=by
   have:Lib.bitLen (bA l i)=zA l i+1:=by unfold zA;omega
   rw[<-this];exact h2
  omega
 have hv:bvN (oA l) (ga l i+zA l i+1+zA l i) (bA l i-1)=mL l i%2^(bA l i-1):=by
  rw[e2 _ _ (by omega),show ga l i+zA l i+1+zA l i=ga l i+(2*zA l i+1) by omega];exact h3
 have htl:=H7 hg1 (by omega:mL l i<2^64);exact⟨hb1,hb2,by unfold zA;omega,hnx.symm,hle,λ k hk=>by rw[e1 _ (by omega)];exact h0 k hk,hr1,by rw[EV (nC _ _ _)];exact hm,by
  rw[EV (nC _ _ _),hv,show 2^(bA l i-1)+mL l i%2^(bA l i-1)=mL l i from htl];omega⟩
def wz{p:List Nat}:aF ((strOf (aq p)).extract 0 ((strOf (aq p)).size-4))=aF (strOf p):=by
 have h:(strOf (aq p)).size=p.length+4:=by rw[aI,aX]
 unfold aF;rw[Lib.extract_data,h];unfold strOf aq;simp
structure TokI(c:Co)(k:Nat)(D:Nat->Prop)(S:List (SV×List ByteArray)):Prop where
 len:S.length<=c.tk.length
 full:0<k->S.length=c.tk.length
 yes:∀ (i:Nat) t p,c.tk[i]? =some t->S[i]? =some p->D i->p.2=t.ns.take (k+1)
 no:∀ (i:Nat) t p,c.tk[i]? =some t->S[i]? =some p->¬ D i->p.2=t.ns.take k
 cov:∀ i,D i->i<S.length
theorem TokI.start{c:Co}{k:Nat}{S:List (SV×List ByteArray)}(h0:k=0->S=[])(h:0<k->S.map Prod.snd=c.tk.map λ t=>t.ns.take k):TokI c k (λ _=>False) S:=by
 rcases PB k with hk|hk
 ·rw[h0 hk];exact⟨IN _,λ h9=>absurd h9 (by omega),λ i t p _ h9=>by simp at h9,λ i t p _ h9=>by simp at h9,λ i h9=>h9.elim⟩
 ·have hl:S.length=c.tk.length:=by have:=If List.length (h hk);simpa using this
  refine⟨by omega,λ _=>hl,λ _ _ _ _ _ h9=>h9.elim,λ i t p ht hp _=>?_,λ i h9=>h9.elim⟩;have h9:(S.map Prod.snd)[i]? =some p.2:=by rw[OT,hp];rfl
  rw[h hk,OT,ht]at h9;exact(OG h9).symm
theorem TokI.nil{c:Co}{k:Nat}{D:Nat->Prop}{S:List (SV×List ByteArray)}{sv:SV}(h:TokI c k D S)(hl:S.length<c.tk.length):TokI c k D (S++[(sv,[])]):=by
 have hk:k=0:=by rcases PB k with hk|hk;exact hk;have:=h.full hk;omega
 refine⟨by simp;omega,λ h9=>absurd h9 (by omega),λ i t p ht hp hd=>?_,λ i t p ht hp hd=>?_,λ i hd=>by have:=h.cov i hd;simp;omega⟩
 ·rw[OO (h.cov i hd)]at hp;exact h.yes i t p ht hp hd
 ·rcases OI i S.length with h1|h1
  ·rw[OO h1]at hp;exact h.no i t p ht hp hd
  ·rw[OU h1]at hp;have h2:i-S.length=0:=by have:=(sp.1 hp).1;simp at this;omega
   rw[h2]at hp;cases hp;rw[hk];rfl
theorem TokI.set{c:Co}{k i:Nat}{D D':Nat->Prop}{S:List (SV×List ByteArray)}{p:SV×List ByteArray}{sv:SV}{v:ByteArray}{t:Tk}(h:TokI c k D S)(hp:S[i]? =some p)(ht:c.tk[i]? =some t)(hv:t.ns[k]? =some v)(hD:¬ D i)(hD':∀ j,D' j↔D j\/j=i):TokI c k D' (S.set i (sv,p.2++[v])):=by
 have hi:=(sp.1 hp).1;refine⟨by rw[Oz];exact h.len,λ h9=>by rw[Oz];exact h.full h9,λ j u q hu hq hd=>?_,λ j u q hu hq hd=>?_,λ j hd=>?_⟩
 ·by_cases e:i=j
  ·subst e;rw[P4 hi]at hq;cases hq;rw[ht]at hu;cases hu;rw[h.no i t p ht hp hD,aB hv]
  ·rw[Q7 e]at hq;exact h.yes j u q hu hq (((hD' j).1 hd).resolve_right λ e2=>e e2.symm)
 ·have e:i≠j:=λ e=>hd ((hD' j).2 (.inr e.symm));rw[Q7 e]at hq;exact h.no j u q hu hq λ h9=>hd ((hD' j).2 (.inl h9))
 ·rw[Oz];rcases(hD' j).1 hd with h9|rfl
  ·exact h.cov j h9
  ·exact hi
def TokI.iff{c:Co}{k:Nat}{D D':Nat->Prop}{S:List (SV×List ByteArray)}(h:TokI c k D S)(e:∀ j,D j↔D' j):TokI c k D' S:=
 ⟨h.len,h.full,λ i t p ht hp hd=>h.yes i t p ht hp ((e i).2 hd),λ i t p ht hp hd=>h.no i t p ht hp λ h9=>hd ((e i).1 h9),λ i hd=>h.cov i ((e i).2 hd)⟩
theorem TokI.fin{c:Co}{k:Nat}{D:Nat->Prop}{S:List (SV×List ByteArray)}(h:TokI c k D S)(hD:∀ i,i<c.tk.length->D i):S.map Prod.snd=c.tk.map λ t=>t.ns.take (k+1):=by
 have hl:S.length=c.tk.length:=by
  rcases PB c.tk.length with h0|h0
  ·have:=h.len;omega
  ·have:=h.cov _ (hD (c.tk.length-1) (by omega));have:=h.len;omega
 refine QN λ i=>?_;rcases OI i S.length with h1|h1
 ·have hp:S[i]? =some S[i]:=py h1;have ht:c.tk[i]? =some (c.tk[i]'(by omega)):=py (by omega);rw[OT,OT,hp,ht];exact If some (h.yes i _ _ ht hp (hD i (by omega)))
 ·rw[OX (by simpa using h1),OX (by simp;omega)]
def Dn(l:List Nat)(n j i:Nat):Prop:=∃ q,l[i]? =some q/\(q<n\/(q=n/\∃ e,e<j/\(dd l n)[e]? =some i))
def Hy{l:List Nat}(i:Nat):¬ Dn l 0 0 i:=λ⟨q,_,h⟩=>by
 rcases h with h|⟨_,e,he,_⟩<;>omega
def Hz{l:List Nat}{n j i:Nat}(hi:(dd l n)[j]? =some i)(x:Nat):Dn l n (j+1) x↔Dn l n j x\/x=i:=by
 constructor
 ·rintro⟨q,hq,h|⟨h,e,he,hx⟩⟩
  ·exact .inl ⟨q,hq,.inl h⟩
  ·rcases OI e j with h1|h1
   ·exact .inl ⟨q,hq,.inr ⟨h,e,h1,hx⟩⟩
   ·have:e=j:=by omega
    subst this;rw[hi]at hx;cases hx;exact .inr J
 ·rintro(⟨q,hq,h|⟨h,e,he,hx⟩⟩|rfl)
  ·exact⟨q,hq,.inl h⟩
  ·exact⟨q,hq,.inr ⟨h,e,by omega,hx⟩⟩
  ·exact⟨n,jy.1 (OD hi),.inr ⟨J,j,by omega,hi⟩⟩
def EW{l:List Nat}{n j i:Nat}(hl:l.length<=4096)(hi:(dd l n)[j]? =some i):¬ Dn l n j i:=λ⟨q,hq,h⟩=>by
 have h1:=jy.1 (OD hi);rw[hq]at h1;cases h1;rcases h with h|⟨_,e,he,hx⟩
 ·omega
 ·have h2:=(mK n hl).asc;obtain⟨h3,h4⟩:=sp.1 hi;obtain⟨h5,h6⟩:=sp.1 hx;have:=PU.1 h2 e j h5 h3 he;omega
def Kp{l:List Nat}{n j:Nat}(hj:¬ j<(dd l n).length)(x:Nat):Dn l n j x↔Dn l (n+1) 0 x:=by
 constructor
 ·rintro⟨q,hq,h|⟨h,_⟩⟩
  ·exact⟨q,hq,.inl (by omega)⟩
  ·exact⟨q,hq,.inl (by omega)⟩
 ·rintro⟨q,hq,h|⟨_,e,he,_⟩⟩
  ·rcases OI q n with h1|h1
   ·exact⟨q,hq,.inl h1⟩
   ·have e1:q=n:=by omega
    subst e1;obtain⟨e,he⟩:=OV (jy.2 hq);exact⟨q,hq,.inr ⟨J,e,by have:=(sp.1 he).1;omega,he⟩⟩
  ·omega
def Kq{l:List Nat}{W i:Nat}(h:∀ x∈l,x<W)(hi:i<l.length):Dn l W 0 i:=⟨_,py hi,.inl (h _ (Sa hi))⟩
def Kr{l:List Iv}{q:Nat}{x:Iv}{r:List Nat}(h:l[q]? =some x):(l.drop q).flatMap (λ x=>tx1 x.v)++r=df (aF x.nm)++(uv (x.e-x.b).toNat++(j6 x.ps++((l.drop (q+1)).flatMap (λ x=>tx1 x.v)++r))):=by
 obtain⟨h1,h2⟩:=sp.1 h;rw[OZ h1,h2,PM];unfold tx1 Iv.v dK df;simp only[No,aj]
def Ks{l:List Iv}{q:Nat}{x:Iv}{z:Int}{r:List Nat}(h:l[q]? =some x):cf z ((l.drop q).map Iv.v)++r=df (aF x.nm)++(uv (x.b-z).toNat++(uv (x.e-x.b).toNat++(j6 x.ps++(cf x.b ((l.drop (q+1)).map Iv.v)++r)))):=by
 obtain⟨h1,h2⟩:=sp.1 h;rw[OZ h1,h2,P5,cf];unfold Ki Iv.v dK df;simp only[No,aj]
def Kt{l:List Nd}{q:Nat}{x:Nd}{r:List Nat}(h:l[q]? =some x):(l.drop q).flatMap ot++r=df (aF x.nm)++(uv (x.p+1).toNat++(uv x.b.toNat++(uv (x.e-x.b).toNat++((l.drop (q+1)).flatMap ot++r)))):=by
 obtain⟨h1,h2⟩:=sp.1 h;rw[OZ h1,h2,PM];unfold ot dK df;simp only[No,aj]
def Ku{l:List (Int×ByteArray)}{q:Nat}{x:Int×ByteArray}{r:List Nat}(h:l[q]? =some x):(l.drop q).flatMap j4++r=uv (x.1+1).toNat++(df (aF x.2)++((l.drop (q+1)).flatMap j4++r)):=by
 obtain⟨h1,h2⟩:=sp.1 h;rw[OZ h1,h2,PM];unfold j4 dK df;simp only[No,aj]
def HA{l:List Iv}{q:Nat}{x:Iv}{z:Int}(h:l[q]? =some x)(hc:Kk z ((l.drop q).map Iv.v)):x.b=z/\Kk x.e ((l.drop (q+1)).map Iv.v):=by
 obtain⟨h1,h2⟩:=sp.1 h;rw[OZ h1,h2,P5,Kk]at hc;exact hc
def HB{l:List Iv}{q:Nat}{x:Iv}{z:Int}(h:l[q]? =some x)(hc:IL z ((l.drop q).map Iv.v)):z<=x.b/\IL x.b ((l.drop (q+1)).map Iv.v):=by
 obtain⟨h1,h2⟩:=sp.1 h;rw[OZ h1,h2,P5,IL]at hc;exact hc
def EX{xs l:List Iv}{q:Nat}{x y:Iv}(h:xs.map Iv.v=(l.take q).map Iv.v)(hx:l[q]? =some x)(e:y.v=x.v):(xs++[y]).map Iv.v=(l.take (q+1)).map Iv.v:=by
 rw[Pw,h,Sh,e,aB hx,Pw,Sh]
def EY{P:List Nat}{a:Nat}:bvN P a 1=rb P a:=by simp[bvN]
def HC{l:List Nat}{a j x:Nat}(hx:l[(a+j)/8]? =some x):2*bvN l a j+x/2^(7-(a+j)%8)%2^1=bvN l a (j+1):=by
 have hd:l.getD ((a+j)/8) 0=x:=by rw[LW,hx];rfl
 rw[bvN,rb,hd]
end Go.Kw
namespace Go.Kw
open Go.RowKit
end Go.Kw
namespace Go.Proofs.YtcmldpiicnobnaaGreatDoor
open Go.RowKit Go.Kw
def EZ{vs:List ByteArray}(h:fE vs=0):vs.length<=4096:=by
 unfold fE at h;split at h
 ·cases h
 omega
def yf{l:List ByteArray}{i c:Nat}(h:(aM l)[i]? =some c):1<=c:=by
 unfold aM at h;rw[OT]at h;obtain⟨y,hy,rfl⟩:=P3.1 h;exact H8 (dX.1 (OD hy))
def HD{vs:List ByteArray}(h:fE vs=0):j2 vs=0:=by
 unfold fE at h;split at h
 ·cases h
 split at h
 ·rename_i h1 h2;exact absurd h h2
 rename_i h1 h2;exact Po.1 h2
def eG:List UInt8->List UInt8->Nat
 |x::a,y::b=>if x=y then eG a b+1 else 0
 |_,_=>0
def bJ(a b:ByteArray):Nat:=eG a.data.toList b.data.toList
def zS:∀ (a b:List UInt8),eG a b<=b.length
 |x::a,y::b=>by
  have:=zS a b;unfold eG;split
  ·simp;omega
  omega
 |[],_=>by simp[eG]
 |_::_,[]=>by simp[eG]
def tT(a b:ByteArray):bJ a b<=b.size:=by have:=zS a.data.toList b.data.toList;rw[zl]at this;exact this
def Kv{a b:List UInt8}{k c:Nat}{x y:UInt8}(hx:a[k]? =some x)(hy:b[k]? =some y)(h:c=k+eG (a.drop k) (b.drop k))(e:x.toNat=y.toNat):c=k+1+eG (a.drop (k+1)) (b.drop (k+1)):=by
 have e2:x=y:=Rw.1 e;rw[fc hx,fc hy,eG,Ow e2]at h;omega
def Kx{a b:List UInt8}{k c:Nat}{x y:UInt8}(hx:a[k]? =some x)(hy:b[k]? =some y)(h:c=k+eG (a.drop k) (b.drop k))(e:¬ x.toNat=y.toNat):c=k:=by
 rw[fc hx,fc hy,eG,OB λ e2=>e (by rw[e2])]at h;exact h
def F0{a b:List UInt8}{k c:Nat}(hk:a.length<=k)(h:c=k+eG (a.drop k) (b.drop k)):c=k:=by
 rw[P8 hk]at h;simpa[eG]using h
def F5{a b:List UInt8}{k c:Nat}(hk:b.length<=k)(h:c=k+eG (a.drop k) (b.drop k)):c=k:=by
 rw[P8 hk]at h;cases hd:a.drop k with
 |nil=>rw[hd]at h;simpa[eG]using h
 |cons x r=>rw[hd]at h;simpa[eG]using h
def bF(W:List ByteArray)(k:Nat):ByteArray:=if k=0 then ByteArray.mk #[]else W.getD (k-1) ByteArray.empty
def wA(p x:ByteArray)(c:Nat):List Nat:=uv (bJ p x)++uv (x.size-bJ p x)++aF (x.extract (bJ p x) x.size)++uv (c-1)
def cM(W:List ByteArray)(C:List Nat):Nat->List Nat
 |0=>uv W.length
 |k+1=>cM W C k++wA (bF W k) (W.getD k ByteArray.empty) (C.getD k 0)
def wB(p x:ByteArray)(c:Nat):(wA p x c).length<=x.size+30:=by
 have h1:=aN (bJ p x);have h2:=aN (x.size-bJ p x);have h3:=aN (c-1);unfold wA;simp only[AT,aj,OQ];omega
def mM(W:List ByteArray)(C:List Nat):∀ k,∀ x∈cM W C k,x<256
 |0,x,h=>fw _ x h
 |k+1,x,h=>by
  simp only[cM,wA,OM]at h;rcases h with h|(((h|h)|h)|h)
  ·exact mM W C k x h
  ·exact fw _ x h
  ·exact fw _ x h
  ·exact fe _ x h
  exact fw _ x h
def fz{W:List ByteArray}(C:List Nat)(h:∀ x∈W,x.size<=120):∀ k,k<=W.length->(cM W C k).length<=10+k*150
 |0,_=>by have:=aN W.length;simp only[cM];omega
 |k+1,hk=>by
  have ih:=fz C h k (by omega);have hx:W[k]? =some W[k]:=py (by omega);have h1:=h _ (OD hx);have h2:=wB (bF W k) (W.getD k ByteArray.empty) (C.getD k 0);rw[iL hx]at h2;simp only[cM,AT,iL hx];omega
def sy{W:List ByteArray}{C:List Nat}{k c:Nat}{p x:ByteArray}(hx:W[k]? =some x)(hc:C[k]? =some c)(hp:p=bF W k):cM W C k++uv (bJ p x)++uv (x.size-bJ p x)++aF (x.extract (bJ p x) x.size)++uv (c-1)=cM W C (k+1):=by
 simp only[cM,wA,iL hx,iL hc,<-hp,No]
end Go.Proofs.YtcmldpiicnobnaaGreatDoor
namespace Go.Kw
open Go.RowKit
def Mi:Value->SV
 | .slice a n c=>⟨a,n,c⟩
 |_=>⟨none,0,0⟩
def F6(l:List Nat):qe l 0=q8 l.length 0 []++mV 0 (xd l (gK l.length)):=by simp[qe,xX]
def HE(l:List Nat):qe l 1=q8 l.length 1 (cD l)++mV 1 (vH l (gK l.length)):=by simp[qe,xX]
def wC(n:Nat):q8 n 0 []=uv n++[0]:=by rw[q8,jM (v:=0) (by decide)];simp
def HF(n:Nat)(lens:List Nat):q8 n 1 lens=uv n++[1]++uv lens.length++lens.map (· %2^8):=by rw[q8,jM (v:=1) (by decide)];simp
def zT{l:List Nat}{n k:Nat}(h:k<n):(xd l n)[k]? =some (gu (tA l k),0):=by simp[xd,h]
def zU{l:List Nat}{n k:Nat}(h:k<n):(vH l n)[k]? =some (bE (gn (cD l) (tA l k)),(gn (cD l) (tA l k)).length):=by simp[vH,h]
def tU(l:List Nat)(n:Nat):(xd l n).length=n:=by simp[xd]
def tV(l:List Nat)(n:Nat):(vH l n).length=n:=by simp[vH]
def wD{l:List Nat}{ps:List (SV×List Nat)}(h:ps.map Prod.snd=(List.range (gK l.length)).map (tA l)){k:Nat}{x:SV×List Nat}(hx:ps[k]? =some x):k<gK l.length/\x.2=tA l k:=by
 have hk:k<gK l.length:=by
  have h1:=(sp.1 hx).1;have h2:=If List.length h;simp at h2;omega
 refine⟨hk,?_⟩;have:=If (λ q=>q[k]?) h;simp only[OT,hx,PY,Rg hk]at this;exact OG this
def tW(kind:Nat):∀ (ps:List (List Nat×Nat)) (B:Nat),(∀ p∈ps,p.1.length<=B)->(mV kind ps).length<=(10+B)*ps.length
 |[],B,_=>by simp[mV]
 |p::r,B,h=>by
  have ih:=tW kind r B λ q hq=>h q (by simp[hq]);have hp:=h p (by simp);have hu:=aN (if kind=0 then p.1.length else p.2);have e:mV kind (p::r)=vI kind p++mV kind r:=rfl;rw[e,vI,AT,AT,KW,Nat.mul_add];omega
def tX{l:List Nat}{k:Nat}(hl:OkN l)(hk:k<=1):(qe l k).length<=2000000:=by
 have hn:=hl.len;have hnb:gK l.length<=64:=by unfold gK;omega
 have hs:(if k=1 then cD l else[]).length<=1024:=by
  split
  ·rw[eg];exact hl.mx
  ·simp
 have hh:=l9 l.length k (if k=1 then cD l else[]);have hp:=tW k (if k=1 then vH l (gK l.length)else xd l (gK l.length)) 20000 λ p hp=>by
  split at hp
  ·obtain⟨i,_,rfl⟩:=Ps.1 hp;have h1:=gN (GoodLens.Jh (mo l hl.mx)) (tA l i);have h2:=eU l i;show(bE _).length<=_;rw[bV];omega
  ·obtain⟨i,_,rfl⟩:=Ps.1 hp;have h2:=eU l i;have:=la (tA l i) (by omega);show(gu _).length<=_;omega
 have hq:(if k=1 then vH l (gK l.length)else xd l (gK l.length)).length<=64:=by
  split
  ·rw[tV];exact hnb
  ·rw[tU];exact hnb
 have:=Q3 (10+20000) hq;unfold qe xX;rw[AT];omega
end Go.Kw
namespace Go.Proofs.YtcmldpiicnobnaaGreatDoor
open Go.RowKit Go.Kw
def tY{l:List Nat}{k:Nat}(hk:k<=1):∀ x∈qe l k,x<256:=by
 refine GZ _ _ _ _ λ p hp x hx=>?_;split at hp
 ·obtain⟨i,_,rfl⟩:=Ps.1 hp;exact pS _ x hx
 obtain⟨i,_,rfl⟩:=Ps.1 hp;exact E2 _ _ x hx
end Go.Proofs.YtcmldpiicnobnaaGreatDoor
namespace Go.Kw
def Mj(l:List Nat)(s:List Nat×List (List Nat)×Nat)(x:Nat):List Nat×List (List Nat)×Nat:=
 (if(s.2.1.getD (aD l x) []).length=0 then s.1.set (aD l x) (ny l x)else s.1,s.2.1.set (aD l x) (s.2.1.getD (aD l x) []++[x]),aD l x)
def NA(l ord:List Nat):List Nat×List (List Nat)×Nat:=ord.foldl (Mj l) (List.replicate 16 0,List.replicate 16 [],0)
def NB(l:List Nat):List Nat×List (List Nat)×Nat:=NA l (du l)
def NC(F:List Nat)(S:List (List Nat))(v n k:Nat):Bool:=
 decide (0<(S.getD k []).length)&&decide (v<=(F.getD k 0+(S.getD k []).length-1)/2^(k-n))&&decide (F.getD k 0/2^(k-n)<=v)
def ND(F:List Nat)(S:List (List Nat))(lo v n:Nat):Bool:=(List.range' n (lo+1-n)).any (NC F S v n)
def HG(F:List Nat)(S:List (List Nat))(lo:Nat)(l:List Nat)(N:Nat):Nat->Nat->Nat->Nat->Nat×Nat×Nat
 |0,_,_,pos=>(0,9,pos)
 |f+1,n,v,pos=>
  if N<pos+1 then(0,10,pos)
  else if ND F S lo (2*v+rb l pos) n=false then(0,9,pos+1)
  else if F.getD n 0<=2*v+rb l pos/\2*v+rb l pos-F.getD n 0<(S.getD n []).length then((S.getD n []).getD (2*v+rb l pos-F.getD n 0) 0,0,pos+1)
  else HG F S lo l N f (n+1) (2*v+rb l pos) (pos+1)
def Mk(F:List Nat)(S:List (List Nat))(lo:Nat)(l:List Nat)(N:Nat):Nat->Nat->List Nat->Option (List Nat×Nat)
 |0,pos,acc=>some (acc,pos)
 |c+1,pos,acc=>if(HG F S lo l N 16 1 0 pos).2.1≠0 then none else Mk F S lo l N c (HG F S lo l N 16 1 0 pos).2.2 (acc++[(HG F S lo l N 16 1 0 pos).1])
def Ml(l b:List Nat)(bits count:Nat):Option (List Nat):=
 match Mk (NB l).1 (NB l).2.1 (NB l).2.2 (b.take ((bits+7)/8)) bits count 0 []with
 |none=>none
 |some p=>if p.2=bits then some p.1 else none
end Go.Kw
namespace Go.Proofs.YtcmldpiicnobnaaGreatDoor
open Go.RowKit Go.Kw
