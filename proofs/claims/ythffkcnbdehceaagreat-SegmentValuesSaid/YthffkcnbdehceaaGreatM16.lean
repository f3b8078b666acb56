/-
 M16:streams of numbers in blocks:what the chunks hold,and plain facts. No program in sight.
-/
import Derived.Test.YthffkcnbdehceaaGreatKp
import Derived.Test.YthffkcnbdehceaaGreatM06
import Derived.Lib.ItoaNum
import Derived.Test.YthffkcnbdehceaaGreatKm
set_option linter.all false
open Go.Proofs.YthffkcnbdehceaaGreat
open List
namespace Go.Kw
open Go.RowKit
structure Pt where
 sv:SV
 bits:Nat
 bys:List Nat
def dh:Enc Pt:=⟨2,λ p=>[p.sv.val,.int .i64 (p.bits:Int)],λ _=>Y,λ p u h=>by simp at h;rcases h with rfl|rfl<;>rfl⟩
def cI(ps:List Pt):Chunk:=kq (ps.map λ p=>cL p.sv.val 5 (a8 .u8) p.bys)
section
variable {w0 w:World} {cs:List Chunk}
def Sat.Ag(h:Sat w0 cs w):Sat w0 (cs++[cI []]) w:=by
 have:Sat w0 (cs++kq []::[]) w:=Sat.gK.2 (by simpa using h);exact this
def Sat.vW{A:List Chunk}{s:SV}{b:Nat}{l:List Nat}{ps:List Pt}(h:Sat w0 (A++[cL s.val 5 (a8 .u8) l]) w)(i:Nat)(hi:A[i]? =some (cI ps)):Sat w0 (A.set i (cI (ps++[⟨s,b,l⟩]))) w:=by
 have:=h.push i hi;rw[cI,Si];exact this
def Sat.mb(h:Sat w0 cs w)(i:Nat){ps:List Pt}(hi:cs[i]? =some (cI ps)):∀ p∈ps,RdL w p.sv.val (a8 .u8) p.bys:=λ p hp=>
 Rd.pM ((h.get hi).1 (cL p.sv.val 5 (a8 .u8) p.bys) (Su hp))
end
def eo(l:List Nat)(k:Nat):List Nat:=(l.drop (64*k)).take 64
def cG(n:Nat):Nat:=(n+63)/64
def mL(l:List Nat)(k:Nat):(l.take (min (64*k+64) l.length)).drop (64*k)=eo l k:=by
 rw[eo,drop_take];have:min (64*k+64) l.length-64*k=min 64 (l.length-64*k):=by omega
 rw[this,<-Ry,<-take_eq_take_min]
def cg(l:List Nat)(k:Nat):(eo l k).length=min 64 (l.length-64*k):=by simp[eo]
def iM{l:List Nat}{k x:Nat}(h:x∈eo l k):x∈l:=Sv (RZ h)
def bG(ps:List Pt):List (List Nat×Nat):=ps.map λ p=>(p.bys,p.bits)
def ku(l:List Nat)(k:Nat):List (List Nat×Nat):=(List.range k).map λ i=>(bH (eo l i),0)
def I4(l:List Nat)(k:Nat):ku l (k+1)=ku l k++[(bH (eo l k),0)]:=by simp[ku,To]
def sW(ps:List Pt)(p:Pt):bG (ps++[p])=bG ps++[(p.bys,p.bits)]:=by simp[bG]
def eh(ps:List Pt):(bG ps).length=ps.length:=by simp[bG]
def mh(l:List Nat):Nat:=l.foldl (λ m x=>max m (x+1)) 0
def zJ(l:List Nat)(x:Nat):mh (l++[x])=max (mh l) (x+1):=by simp[mh]
def I5{l:List Nat}{B:Nat}(h:∀ x∈l,x<B):mh l<=B:=by
 have:∀ (l:List Nat) (m:Nat),m<=B->(∀ x∈l,x<B)->l.foldl (λ m x=>max m (x+1)) m<=B:=by
  intro l;induction l with
  |nil=>intro m hm _;exact hm
  |cons x r ih=>intro m hm h;exact ih _ (by have:=h x (by simp);show max m (x+1)<=B;omega) λ y hy=>h y (by simp[hy])
 exact this l 0 (KB _) h
def xh:∀ (l:List Nat),∀ x∈l,x<mh l:=by
 have mono:∀ (l:List Nat) (m:Nat),m<=l.foldl (λ m x=>max m (x+1)) m:=by
  intro l;induction l with
  |nil=>intro m;exact KD _
  |cons x r ih=>intro m;exact RV (Nat.le_max_left _ _) (ih _)
 have:∀ (l:List Nat) (m:Nat),∀ x∈l,x<l.foldl (λ m x=>max m (x+1)) m:=by
  intro l;induction l with
  |nil=>intro m x h;cases h
  |cons y r ih=>
   intro m x h;rcases Rx.1 h with rfl|h
   ·exact TY (by omega:x<max m (x+1)) (mono r _)
   ·exact ih _ x h
 exact λ l=>this l 0
def dF(c:List Nat)(x:Nat):List Nat:=c.set x (c.getD x 0+1)
def k7(m:Nat)(l:List Nat):List Nat:=l.foldl dF (List.replicate m 0)
def vM(m:Nat)(l:List Nat)(x:Nat):k7 m (l++[x])=dF (k7 m l) x:=by simp[k7]
def fV(m:Nat)(l:List Nat):(k7 m l).length=m:=by
 have:∀ (l c:List Nat),(l.foldl dF c).length=c.length:=by
  intro l;induction l with
  |nil=>intro c;rfl
  |cons x r ih=>intro c;rw[TQ,ih];simp[dF]
 rw[k7,this];simp
def CV(m:Nat)(l:List Nat):∀ x∈k7 m l,x<=l.length:=by
 have:∀ (l c:List Nat) (B:Nat),(∀ x∈c,x<=B)->∀ x∈l.foldl dF c,x<=B+l.length:=by
  intro l;induction l with
  |nil=>intro c B h x hx;simpa using h x hx
  |cons y r ih=>
   intro c B h x hx;have:=ih (dF c y) (B+1) (λ z hz=>by
    rcases Tc hz with hz|rfl
    ·have:=h z hz;omega
    ·rw[KP];cases hg:c[y]? with
     |none=>simp
     |some v=>have:=h v (Rv hg);simp;exact this) x hx
   simp only[LW];omega
 have h:=this l (List.replicate m 0) 0 (λ x hx=>by have:=Tu hx;omega);simpa[k7]using h
def I6{m:Nat}{l:List Nat}(hm:∀ x∈l,x<m):∀ x∈l,0<(k7 m l).getD x 0:=by
 have mono:∀ (l c:List Nat) (j:Nat),c.getD j 0<=(l.foldl dF c).getD j 0:=by
  intro l;induction l with
  |nil=>intro c j;exact KD _
  |cons y r ih=>
   intro c j;refine RV ?_ (ih _ j);by_cases h:y=j
   ·subst h;by_cases hl:y<c.length
    ·rw[dF,eP hl];omega
    ·simp[KP,RN (TT hl)]
   ·rw[dF,dE h];exact KD _
 have:∀ (l c:List Nat),(∀ x∈l,x<c.length)->∀ x∈l,0<(l.foldl dF c).getD x 0:=by
  intro l;induction l with
  |nil=>intro c _ x h;cases h
  |cons y r ih=>
   intro c hc x h;have hy:=hc y (by simp);by_cases hx:x=y
   ·subst hx;refine TY ?_ (mono r _ x);rw[dF,eP hy];omega
   ·exact ih (dF c y) (λ z hz=>by simp[dF];exact hc z (by simp[hz])) x ((Rx.1 h).resolve_left hx)
 exact this l _ (by simpa using hm)
def aQ(l:List Nat):List Nat:=cd (k7 (mh l) l)
def cK(l:List Nat):(aQ l).length=mh l:=by rw[aQ,jW,fV]
def fJ(l:List Nat)(h:mh l<=1024):LensOk (k7 (mh l) l) (aQ l):=HP _ (by have:=dK (k7 (mh l) l);rw[fV]at this;omega)
def o4{l:List Nat}(h:mh l<=1024):∀ x∈l,x<(aQ l).length/\0<ak (aQ l) x:=λ x hx=>by
 have h1:=xh l x hx;have h2:=I6 (xh l) x hx;refine⟨by rw[cK];exact h1,?_⟩;have:=(fJ l h).zero x (by rw[fV];exact h1);rw[ak];omega
def j5(l:List Nat)(k:Nat):List (List Nat×Nat):=(List.range k).map λ i=>(aE (bZ (aQ l) (eo l i)),(bZ (aQ l) (eo l i)).length)
def I7(l:List Nat)(k:Nat):j5 l (k+1)=j5 l k++[(aE (bZ (aQ l) (eo l k)),(bZ (aQ l) (eo l k)).length)]:=by simp[j5,To]
def mM(kind:Nat)(p:List Nat×Nat):List Nat:=uv (if kind=0 then p.1.length else p.2)++p.1
def dC(kind:Nat)(ps:List (List Nat×Nat)):List Nat:=ps.flatMap (mM kind)
def fW(kind:Nat)(ps:List (List Nat×Nat))(p:List Nat×Nat):dC kind (ps++[p])=dC kind ps++mM kind p:=by simp[dC]
def jA(n kind:Nat)(lens:List Nat):List Nat:=uv n++uv kind++(if kind=1 then uv lens.length++lens.map (· %2^8)else[])
def k8(n kind:Nat)(lens:List Nat):(jA n kind lens).length<=30+lens.length:=by
 have h1:=aC n;have h2:=aC kind;have h3:=aC lens.length;unfold jA;split<;>simp<;>omega
def ky(n kind:Nat)(lens:List Nat)(ps:List (List Nat×Nat)):List Nat:=jA n kind lens++dC kind ps
def jq{ps:List Pt}{k:Nat}{x:Pt}(h:ps[k]? =some x):(bG ps)[k]? =some (x.bys,x.bits):=by simp[bG,h]
def k9(l:List Nat)(h:l.length<=64):(bH l).length<=10000:=by
 have hw:∀ w,w<=31->∀ l:List Nat,(df w l).2.1.length=l.length*w/\(df w l).2.2.1.length<=20*l.length:=by
  intro w _;refine jY ⟨by simp[df],by simp[df]⟩ λ l x ih=>?_;rw[eJ];have h1:=aC ((df w l).1+1-(df w l).2.2.2.2);have h2:=aC (x/2^w);unfold dQ;simp only[sp,LW,Rp];split<;>simp only[sp,aH]<;>(refine⟨by rw[ih.1,Sp];omega,by omega⟩)
 have hb:=ic l 32;obtain⟨h1,h2⟩:=hw (dr l 32) (by omega) l;have a1:=aC l.length;have a2:=aC (dr l 32);have a3:=aC (df (dr l 32) l).2.2.2.1;have hm:l.length*dr l 32<=64*31:=Vb h (by omega);unfold bH iL;simp only[sp,aK];omega
def vN{ps:List Pt}{q:List (List Nat×Nat)}(h:bG ps=q){C:List Nat×Nat->Prop}(hq:∀ x∈q,C x):∀ p∈ps,C (p.bys,p.bits):=λ p hp=>hq _ (by rw[<-h];exact Su hp)
def Mp{l:List Nat}{ps:List Pt}(h:bG ps=ku l (cG l.length))(hn:l.length<=4096):ps.length<=100/\∀ p∈ps,p.bys.length<=20000/\p.bits<=1000000:=by
 refine⟨by rw[<-eh,h];simp[ku,cG];omega,vN (C:=λ q=>q.1.length<=20000/\q.2<=1000000) h λ x hx=>?_⟩;obtain⟨i,_,rfl⟩:=Sk.1 hx;have:=k9 (eo l i) (by rw[cg];omega);exact⟨by show(bH (eo l i)).length<=20000;omega,by show 0<=1000000;omega⟩
def Mq{l:List Nat}{ps:List Pt}(h:bG ps=j5 l (cG l.length))(hn:l.length<=4096)(hm:mh l<=1024):ps.length<=100/\∀ p∈ps,p.bys.length<=20000/\p.bits<=1000000:=by
 refine⟨by rw[<-eh,h];simp[j5,cG];omega,vN (C:=λ q=>q.1.length<=20000/\q.2<=1000000) h λ x hx=>?_⟩;obtain⟨i,_,rfl⟩:=Sk.1 hx;have h1:=eQ (GoodLens.vV (fJ l hm)) (eo l i);have h2:=cg l i;exact⟨by show(aE (bZ (aQ l) (eo l i))).length<=20000;rw[aK];omega,by show(bZ (aQ l) (eo l i)).length<=1000000;omega⟩
def jB(l:List Nat)(kind:Nat):List Nat:=ky l.length kind (if kind=1 then aQ l else[]) (if kind=1 then j5 l (cG l.length)else ku l (cG l.length))
def bJ(l:List Nat):Nat:=if(jB l 1).length<(jB l 0).length then 1 else 0
def dw(l:List Nat):List Nat:=if bJ l=1 then aQ l else[]
def mi(l:List Nat):List (List Nat×Nat):=if bJ l=1 then j5 l (cG l.length)else ku l (cG l.length)
def Fe{l:List Nat}(h:(jB l 1).length<(jB l 0).length):bJ l=1/\dw l=aQ l/\mi l=j5 l (cG l.length):=by
 have hk:bJ l=1:=by rw[bJ,No h]
 exact⟨hk,by rw[dw,No hk],by rw[mi,No hk]⟩
def BF{l:List Nat}(h:¬ (jB l 1).length<(jB l 0).length):bJ l=0/\dw l=[]/\mi l=ku l (cG l.length):=by
 have hk:bJ l=0:=by rw[bJ,M2 h]
 exact⟨hk,by rw[dw,M2 (by omega)],by rw[mi,M2 (by omega)]⟩
def dJ(l:List Nat):bJ l<=1:=by unfold bJ;split<;>omega
structure OkN(l:List Nat):Prop where
 len:l.length<=4096
 lt:∀ x∈l,x<8
def OkN.QT{l:List Nat}(h:OkN l):mh l<=8:=I5 h.lt
def OkN.mx{l:List Nat}(h:OkN l):mh l<=1024:=RV h.QT (by decide)
def xi{l:List Nat}{ps:List Pt}(h:bG ps=mi l)(hl:OkN l):ps.length<=100/\∀ p∈ps,p.bys.length<=20000/\p.bits<=1000000:=by
 unfold mi at h;split at h
 ·exact Mq h hl.len hl.mx
 ·exact Mp h hl.len
def BG{l:List Nat}(hl:OkN l):(dw l).length<=8:=by
 unfold dw;split
 ·rw[cK];exact hl.QT
 ·simp
def vO{l:List Nat}(hl:OkN l):(dw l).length<=1024:=by
 unfold dw;split
 ·rw[cK];exact hl.mx
 ·simp
theorem xj(l:List Nat):ky l.length (bJ l) (dw l) (mi l)=jB l (bJ l):=rfl
def I8{n kind:Nat}{lens:List Nat}{ps:List Pt}(hll:lens.length<=1024)(h:ps.length<=100)(hb:∀ p∈ps,p.bys.length<=20000/\p.bits<=1000000):(ky n kind lens (bG ps)).length<=3000000:=by
 have h1:=k8 n kind lens;have:∀ ps:List Pt,(∀ p∈ps,p.bys.length<=20000/\p.bits<=1000000)->(dC kind (bG ps)).length<=20010*ps.length:=by
  intro ps;induction ps with
  |nil=>intro _;simp[dC,bG]
  |cons p r ih=>
   intro hb;have h1:=ih λ q hq=>hb q (by simp[hq]);have h2:=hb p (by simp);have e:dC kind (bG (p::r))=mM kind (p.bys,p.bits)++dC kind (bG r):=by simp[dC,bG]
   have h3:=aC (if kind=0 then p.bys.length else p.bits);rw[e,sp,LW,mM,sp];simp only at h3⊢;omega
 have h2:=this ps hb;unfold ky;rw[sp];omega
def CacheOk(l:List Nat)(last:Nat)(blk:List Nat):Prop:=(last=0/\blk=[])\/∃ q,last=q+1/\q<cG l.length/\blk=eo l q
def CacheOk.hit{l blk:List Nat}{k:Nat}(h:CacheOk l (k+1) blk):blk=eo l k:=by
 rcases h with⟨h,_⟩|⟨q,h1,_,h2⟩
 ·omega
 ·rw[h2,show q=k by omega]
def CacheOk.now{l:List Nat}{k:Nat}(h:k<cG l.length):CacheOk l (k+1) (eo l k):=.inr ⟨k,Y,h,Y⟩
def CacheOk.zero(l:List Nat):CacheOk l 0 []:=.inl ⟨Y,Y⟩
def zK{l:List Nat}{ps:List Pt}(h:bG ps=mi l){k:Nat}(hk:k<cG l.length):∃ p,ps[k]? =some p/\(p.bys,p.bits)=if bJ l=1 then(aE (bZ (aQ l) (eo l k)),(bZ (aQ l) (eo l k)).length)else(bH (eo l k),0):=by
 have hl:ps.length=cG l.length:=by rw[<-eh,h];unfold mi;split<;>simp[ku,j5]
 obtain⟨p,hp⟩:∃ p,ps[k]? =some p:=⟨_,py (by omega)⟩;refine⟨p,hp,?_⟩;have h1:=jq hp;rw[h]at h1;unfold mi at h1;split at h1
 ·rename_i h0;rw[No h0]
  rw[j5,Rz,TP hk]at h1;exact(SC h1).symm
 ·rename_i h0;rw[M2 h0]
  rw[ku,Rz,TP hk]at h1;exact(SC h1).symm
def Lf(l:List Nat)(i:Nat):(eo l (i/64))[i%64]? =l[i]? :=by
 rw[eo,UL (TZ _ (by decide)),SZ];congr 1;omega
def I9{n i:Nat}(h:i<n):i/64<cG n:=by unfold cG;omega
end Go.Kw
namespace Go.Kw
def st1(v:Nat):Nat:=if v%2^1=1 then v/2^1^^^2197175160 else v/2^1
def cR(v:Nat):Nat->Nat
 |0=>v
 |n+1=>st1 (cR v n)
def sX(i:Nat):Nat:=cR i 4
def QL(v c:Nat):Nat:=v^^^c
def BH(a:Nat):Nat:=a/2^4^^^sX (a%2^4)
def NK(v c:Nat):Nat:=BH (BH (QL v c))
def zL(l:List Nat):Nat:=l.foldl NK 4294967295
def pw(l:List Nat)(c:Nat):zL (l++[c])=NK (zL l) c:=by simp[zL]
def j0(l:List Nat):Nat:=4294967295^^^zL l
def o5(v:Nat):List Nat:=[v%2^8,v/2^8%2^8,v/2^16%2^8,v/2^24%2^8]
def aN(l:List Nat):List Nat:=l++o5 (j0 l)
def o6(v:Nat):∀ x∈o5 v,x<256:=λ x hx=>by
 simp only[o5,Rx,RF,Sa]at hx;omega
def bQ(l:List Nat):(aN l).length=l.length+4:=by simp[aN,o5]
def js{a b:Nat}(ha:a<4294967296)(hb:b<4294967296):a^^^b<4294967296:=by
 have:=Nat.xor_lt_two_pow (n:=32) (x:=a) (y:=b) (by omega) (by omega);omega
def sY{v:Nat}(h:v<4294967296):st1 v<4294967296:=by
 unfold st1;split
 ·exact js (by omega) (by omega)
 ·omega
def sZ{v:Nat}(h:v<4294967296):∀ n,cR v n<4294967296
 |0=>h
 |n+1=>sY (sZ h n)
def xk{i:Nat}(h:i<16):sX i<4294967296:=sZ (by omega) 4
def qI{a:Nat}(h:a<4294967296):BH a<4294967296:=js (by omega) (xk (by omega))
def Lg:∀ (l:List Nat),(∀ x∈l,x<256)->zL l<4294967296:=by
 refine jY (λ _=>by simp[zL]) λ l c ih h=>?_;rw[pw];have h1:=ih λ x hx=>h x (by simp[hx]);have h2:=h c (by simp);exact qI (qI (js h1 (by omega)))
def o7{l:List Nat}(h:∀ x∈l,x<256):j0 l<4294967296:=js (by omega) (Lg l h)
def px:List Nat:=(List.range 16).map sX
def pz(k:Nat):List Nat:=(List.range k).map sX++List.replicate (16-k) 0
def zM{k:Nat}(h:k<=16):(pz k).length=16:=by simp[pz];omega
def Ia{k:Nat}(h:k<16):(pz k).set k (sX k)=pz (k+1):=by
 unfold pz;rw[Sf _ _ (by simp),show 16-k=(16-(k+1))+1 by omega,TR,To];simp
def Ib:pz 16=px:=by simp[pz,px]
def ta{i:Nat}(h:i<16):px[i]? =some (sX i):=by simp[px,h]
def l7(width:Nat)(l:List Nat):∀ x∈iL width l,x<256:=λ x hx=>by
 have he:∀ l:List Nat,∀ x∈(df width l).2.2.1,x<256:=by
  refine jY (λ x hx=>by simp[df]at hx) λ l y ih x hx=>?_;rw[eJ]at hx;unfold dQ at hx;split at hx
  ·simp only[RE]at hx;rcases hx with(hx|hx)|hx
   ·exact ih x hx
   ·exact de _ x hx
   ·exact de _ x hx
  ·exact ih x hx
 unfold iL at hx;simp only[RE]at hx;rcases hx with(((hx|hx)|hx)|hx)|hx
 ·exact de _ x hx
 ·exact de _ x hx
 ·exact de _ x hx
 ·exact fQ _ x hx
 ·exact he l x hx
def NL(kind:Nat)(ps:List (List Nat×Nat))(h:∀ p∈ps,∀ x∈p.1,x<256):∀ x∈dC kind ps,x<256:=λ x hx=>by
 obtain⟨p,hp,hx⟩:=Tq.1 hx;rcases RE.1 hx with hx|hx
 ·exact de _ x hx
 ·exact h p hp x hx
def CX(n kind:Nat)(lens:List Nat)(ps:List (List Nat×Nat))(h:∀ p∈ps,∀ x∈p.1,x<256):∀ x∈ky n kind lens ps,x<256:=λ x hx=>by
 unfold ky jA at hx;simp only[RE]at hx;rcases hx with((hx|hx)|hx)|hx
 ·exact de _ x hx
 ·exact de _ x hx
 ·split at hx
  ·rcases RE.1 hx with hx|hx
   ·exact de _ x hx
   ·obtain⟨y,_,rfl⟩:=Sk.1 hx;omega
  ·cases hx
 ·exact NL kind ps h x hx
def CY(l:List Nat):∀ p∈mi l,∀ x∈p.1,x<256:=λ p hp x hx=>by
 unfold mi at hp;split at hp
 ·obtain⟨i,_,rfl⟩:=Sk.1 hp;exact fQ _ x hx
 ·obtain⟨i,_,rfl⟩:=Sk.1 hp;exact l7 _ _ x hx
def l8{α:Type}{l:List α}{k:Nat}{x:α}(h:l[k]? =some x):l.drop k=x::l.drop (k+1):=by
 obtain⟨hk,rfl⟩:=IN.1 h;exact SP hk
def Ao:Nat->Nat->List Nat->Nat×Nat×Nat
 |_,_,[]=>(0,0,10)
 |i,v,c::r=>if i=9/\c≠1 then(0,0,9)else if c<128 then(if c=0/\0<i then(0,0,9)else(v+c%2^7*2^(7*i),i+1,0))else Ao (i+1) (v+c%2^7*2^(7*i)) r
def gH(l:List Nat):Nat×Nat×Nat:=Ao 0 0 l
def Ic:∀ (l:List Nat) (i v:Nat),(Ao i v l).2.1<=i+l.length
 |[],i,v=>by simp[Ao]
 |c::r,i,v=>by
  have ih:=Ic r (i+1) (v+c%2^7*2^(7*i));rw[Ao];simp only[LW];split
  ·simp
  ·split
   ·split
    ·simp
    ·simp<;>omega
   ·omega
def pA(l:List Nat):(gH l).2.1<=l.length:=by have:=Ic l 0 0;rw[RX]at this;exact this
def o8{v x k:Nat}(h:v<2^k):v|||x*2^k=v+x*2^k:=by
 rw[Nat.or_comm,V4,<-Nat.shiftLeft_eq,Nat.shiftLeft_add_eq_or_of_lt h]
def Lh{k:Nat}(h:k<=8):2^(7*k)<=2^56:=Sc (by decide) (by omega)
def vP{c k:Nat}(hk:k<=9)(h9:¬ (k=9/\c≠1)):c%2^7*2^(7*k)<2^64:=by
 by_cases h:k=9
 ·have:c=1:=SM λ hc=>h9 ⟨h,hc⟩;subst h;subst this;decide
 ·have:=Lh (by omega:k<=8);have h2:c%2^7*2^(7*k)<=c%2^7*2^56:=UD _ this;omega
def NM{v c k:Nat}(hv:v<2^(7*k))(hk:k<=9)(h9:¬ (k=9/\c≠1)):v|||(c%2^7*2^(7*k)%2^64)=v+c%2^7*2^(7*k):=by
 rw[RR (vP hk h9),o8 hv]
def Ff{v c k:Nat}(hv:v<2^(7*k)):v+c%2^7*2^(7*k)<2^(7*(k+1)):=by
 have e:2^(7*(k+1))=2^7*2^(7*k):=by rw[<-Ul];congr 1;omega
 have h:c%2^7*2^(7*k)<=(2^7-1)*2^(7*k):=SY _ (by omega);rw[Nat.sub_mul]at h;have:2^(7*k)<=2^7*2^(7*k):=Nat.le_mul_of_pos_left _ (by decide);rw[e];omega
def Mr:∀ y,y<256->(y|||128)%2^7=y%2^7/\128<=(y|||128)/\(y|||128)<256:=by decide+kernel
def CZ:∀ (f i v x:Nat) (rest:List Nat),x<128^(f+1)->i+f=9->x*2^(7*i)<2^64->(0<x\/i=0)->Ao i v (nO f x++rest)=(v+x*2^(7*i),i+(nO f x).length,0)
 |0,i,v,x,rest,hx,hi,hb,h0=>by
  have hx1:x<128:=by simpa using hx
  have h9:i=9:=by omega
  subst h9;have hx2:x<=1:=by omega
  have hx3:x=1:=by omega
  subst hx3;simp[nO,Ao]
 |f+1,i,v,x,rest,hx,hi,hb,h0=>by
  rw[nO];by_cases hs:x<128
  ·rw[No hs];have e1:x%2^8=x:=RR (by omega);have e2:x%2^7=x:=RR (by omega);rw[e1,singleton_append,Ao,M2 (by omega),No hs,M2 (by omega),e2];simp
  ·rw[M2 hs,TE];obtain⟨h1,h2,h3⟩:=Mr (x%2^8) (by omega);rw[Ao,M2 (by omega),M2 (Nat.not_lt.2 h2),h1];have hp:2^(7*(i+1))=2^7*2^(7*i):=by rw[<-Ul];congr 1;omega
   have hdiv:x/2^7*2^(7*(i+1))+x%2^7*2^(7*i)=x*2^(7*i):=by
    rw[hp,<-Ty,<-Sp];congr 1;have:=VF x (2^7);omega
   have hx7:x<2^7*128^(f+1):=by rw[T0,Um]at hx;exact hx
   have hb2:x/2^7*2^(7*(i+1))<2^64:=UK (by rw[<-hdiv];exact Vy _ _) hb;have ih:=CZ f (i+1) (v+x%2^8%2^7*2^(7*i)) (x/2^7) rest (Nat.div_lt_of_lt_mul hx7) (by omega) hb2 (.inl (Nat.div_pos (by omega) (by decide)));rw[ih];have e8:x%2^8%2^7=x%2^7:=by omega
   rw[e8];simp only[LW,RW,and_true];refine⟨?_,by rw[Ti,V4 1]⟩;rw[<-hdiv,Ti,V4 (x%2^7*2^(7*i))]
def pB{x:Nat}(h:x<2^64)(rest:List Nat):gH (uv x++rest)=(x,(uv x).length,0):=by
 have:=CZ 9 0 0 x rest (by have:(2:Nat)^64<=128^10:=(by decide);omega) Y (by simpa using h) (.inr Y);simpa[gH,uv]using this
def aX(ok:Bool)(l:List Nat)(lim:Nat):Nat×Bool×List Nat:=
 if ok=false\/(gH l).2.2≠0\/lim<(gH l).1 then(0,false,l)else((gH l).1,true,l.drop (gH l).2.1)
def gI{x lim:Nat}(h:x<2^64)(hl:x<=lim)(rest:List Nat):aX true (uv x++rest) lim=(x,true,rest):=by
 unfold aX;rw[pB h,M2 (by simp;omega)];simp
def lW(ok:Bool)(l:List Nat)(lim:Nat):(aX ok l lim).1<=lim:=by
 unfold aX;split
 ·simp
 ·rename_i h;simp at h;simp;omega
def dY(ok:Bool)(l:List Nat)(lim:Nat):∀ x∈(aX ok l lim).2.2,x∈l:=by
 unfold aX;split
 ·exact λ x h=>h
 ·exact λ x h=>Sv h
def ie(ok:Bool)(l:List Nat)(lim:Nat):(aX ok l lim).2.2.length<=l.length:=by
 unfold aX;split
 ·exact KD _
 ·simp
def rb(l:List Nat)(i:Nat):Nat:=l.getD (i/8) 0/2^(7-i%8)%2
def Ie(l:List Nat)(i:Nat):rb l i<2:=TZ _ (by decide)
def o9(l:List Nat)(a:Nat):Nat->Nat
 |0=>0
 |m+1=>2*o9 l a m+rb l (a+m)
def tc(l:List Nat)(a:Nat):∀ m,o9 l a m<2^m
 |0=>by simp[o9]
 |m+1=>by have:=tc l a m;have:=Ie l (a+m);rw[o9,T0];omega
def Ig{v b:Nat}(hb:b<2)(hv:v<2^63):v*2^1%2^64|||b=2*v+b:=by
 rw[RR (by omega),Nat.or_comm,o8 (k:=1) (by omega)];omega
def zN:∀ (b0 b1 b2 b3 b4 b5 b6 b7:Bool) (j:Fin 8),(gh b0 128|||(gh b1 64|||(gh b2 32|||(gh b3 16|||(gh b4 8|||(gh b5 4|||(gh b6 2|||gh b7 1)))))))/2^(7-j.val)%2=([b0,b1,b2,b3,b4,b5,b6,b7].getD j.val false).toNat:=by decide+kernel
def BI(l:List Bool)(k j:Nat)(hj:j<8):cD l k/2^(7-j)%2=(cM l (8*k+j)).toNat:=by
 have h:=zN (cM l (8*k)) (cM l (8*k+1)) (cM l (8*k+2)) (cM l (8*k+3)) (cM l (8*k+4)) (cM l (8*k+5)) (cM l (8*k+6)) (cM l (8*k+7)) ⟨j,hj⟩;unfold cD;refine h.trans (If Bool.toNat ?_)
 match j,hj with
 |0,_=>rfl
 |1,_=>rfl
 |2,_=>rfl
 |3,_=>rfl
 |4,_=>rfl
 |5,_=>rfl
 |6,_=>rfl
 |7,_=>rfl
def D0{l:List Bool}{i:Nat}(h:i<l.length):rb (aE l) i=(cM l i).toNat:=by
 have hg:(aE l)[i/8]? =some (cD l (i/8)):=by
  unfold aE;rw[Rz,TP (by omega)];rfl
 have hd:(aE l).getD (i/8) 0=cD l (i/8):=by rw[KP,hg];rfl
 rw[rb,hd,BI l _ _ (TZ _ (by decide))];congr 2;omega
def oa(x:Nat):∀ (m k:Nat),k<m->(aT x m)[k]? =some (decide (x/2^(m-1-k)%2=1))
 |0,k,h=>by omega
 |m+1,0,_=>by simp[aT]
 |m+1,k+1,h=>by
  have:=oa x m k (by omega);rw[aT,U8,this,show m+1-1-(k+1)=m-1-k by omega]
def pC(A B:List Bool)(x m:Nat)(hx:x<2^m):∀ k,k<=m->o9 (aE (A++aT x m++B)) A.length k=x/2^(m-k)
 |0,_=>by rw[o9,Uo,UY hx]
 |k+1,hk=>by
  have ih:=pC A B x m hx k (by omega);have hl:(A++aT x m++B).length=A.length+m+B.length:=by simp[aH,Ti]
  have hbit:cM (A++aT x m++B) (A.length+k)=decide (x/2^(m-1-k)%2=1):=by
   rw[cM,KP,KV,RO (by omega),SB,RH (by rw[aH];omega),oa x m k (by omega)];rfl
  rw[o9,ih,D0 (by omega),hbit];have e:m-k=(m-(k+1))+1:=by omega
  have e2:m-1-k=m-(k+1):=by omega
  rw[e2,e,T0,<-Nat.div_div_eq_div_mul];generalize x/2^(m-(k+1))=q;by_cases h:q%2=1
  ·rw[Rr h];simp;omega
  ·rw[AT h];simp;omega
def dL{v:Nat}(h0:0<v)(h:v<2^64):1<=Lib.bitLen v/\2^(Lib.bitLen v-1)<=v/\v<2^Lib.bitLen v:=Lib.bitLenAux_bounds 64 v h (by omega)
def iw(v:Nat):List Bool:=aT 0 (Lib.bitLen v-1)++aT v (Lib.bitLen v)
def fc(v:Nat):List Bool:=iw (Lib.bitLen v)++aT v (Lib.bitLen v-1)
def l9(v:Nat):(iw v).length=Lib.bitLen v-1+Lib.bitLen v:=by simp[iw,aH]
def oe(v:Nat):(fc v).length=(Lib.bitLen (Lib.bitLen v)-1+Lib.bitLen (Lib.bitLen v))+(Lib.bitLen v-1):=by simp[fc,l9,aH]
def D1{v:Nat}(h:v<2^32):(fc v).length<=42:=by
 rw[oe];have h1:=bitLen_le h;have h2:Lib.bitLen (Lib.bitLen v)<=6:=bitLen_le (by omega);omega
def D2(v:Nat):∀ m k,m<=k->aT (v%2^k) m=aT v m
 |0,_,_=>rfl
 |m+1,k,h=>by
  rw[aT,aT,D2 v m k (by omega)];congr 2;have e:v%2^k/2^m%2^1=v/2^m%2^1:=by
   obtain⟨d,rfl⟩:∃ d,k=m+1+d:=⟨k-(m+1),by omega⟩;rw[Ul,T0,Ty,Nat.mod_mul_right_div_self];rw[Nat.mod_mul_right_mod]
  rw[e]
def Ms(A B:List Bool)(x m k:Nat)(hk:k<m):rb (aE (A++(aT x m++B))) (A.length+k)=x/2^(m-1-k)%2:=by
 have hl:(A++(aT x m++B)).length=A.length+m+B.length:=by simp[aH,Ti]
 rw[D0 (by omega),cM,KP,RO (by omega),SB,RH (by rw[aH];omega),oa x m k hk];rw[Ta];rcases TI (x/2^(m-1-k))with h|h
 ·rw[h,AT (by omega)];rfl
 ·rw[h,Rr Y];rfl
def Li(A B:List Bool){v k:Nat}(hk:k<Lib.bitLen v-1):rb (aE (A++(iw v++B))) (A.length+k)=0:=by
 unfold iw;rw[KV,Ms A _ 0 _ k hk,Nat.zero_div]
def Lj(A B:List Bool){v:Nat}(h0:0<v)(h:v<2^64):rb (aE (A++(iw v++B))) (A.length+(Lib.bitLen v-1))=1:=by
 obtain⟨h1,h2,h3⟩:=dL h0 h;unfold iw;have e:A++(aT 0 (Lib.bitLen v-1)++aT v (Lib.bitLen v)++B)=(A++aT 0 (Lib.bitLen v-1))++(aT v (Lib.bitLen v)++B):=by simp[KV]
 have e2:A.length+(Lib.bitLen v-1)=(A++aT 0 (Lib.bitLen v-1)).length+0:=by simp[aH]
 rw[e,e2,Ms _ _ _ _ 0 (by omega),Uo];have h4:v/2^(Lib.bitLen v-1)=1:=by
  have e3:Lib.bitLen v=(Lib.bitLen v-1)+1:=by omega
  rw[e3,T0]at h3;exact Nat.div_eq_of_lt_le (by omega) (by omega)
 rw[h4]
def Lk(A B:List Bool){v:Nat}(h0:0<v)(h:v<2^64):o9 (aE (A++(iw v++B))) (A.length+(Lib.bitLen v-1)) (Lib.bitLen v)=v:=by
 obtain⟨h1,h2,h3⟩:=dL h0 h;unfold iw;have e:A++(aT 0 (Lib.bitLen v-1)++aT v (Lib.bitLen v)++B)=(A++aT 0 (Lib.bitLen v-1))++aT v (Lib.bitLen v)++B:=by simp[KV]
 have e2:A.length+(Lib.bitLen v-1)=(A++aT 0 (Lib.bitLen v-1)).length:=by simp[aH]
 rw[e,e2,pC _ _ _ _ h3 _ (KD _),Se,Vv,Nat.div_one]
def Ll(A B:List Bool)(v m:Nat):o9 (aE (A++(aT v m++B))) A.length m=v%2^m:=by
 rw[<-D2 v m m (KD _),<-KV,pC A B _ m (TZ _ (SH m)) m (KD _),Se,Vv,Nat.div_one]
def Lm{v:Nat}(h0:0<v)(h:v<2^64):2^(Lib.bitLen v-1)+v%2^(Lib.bitLen v-1)=v:=by
 obtain⟨h1,h2,h3⟩:=dL h0 h;have e3:Lib.bitLen v=(Lib.bitLen v-1)+1:=by omega
 have h4:v/2^(Lib.bitLen v-1)=1:=by
  rw[e3,T0]at h3;exact Nat.div_eq_of_lt_le (by omega) (by omega)
 have:=VF v (2^(Lib.bitLen v-1));rw[h4]at this;omega
def Ih(l:List Nat)(a x:Nat):Prop:=(∀ k,k<Lib.bitLen x-1->rb l (a+k)=0)/\rb l (a+(Lib.bitLen x-1))=1/\o9 l (a+(Lib.bitLen x-1)) (Lib.bitLen x)=x
def Ii(l:List Nat)(a x:Nat):Prop:=Ih l a (Lib.bitLen x)/\o9 l (a+(2*(Lib.bitLen (Lib.bitLen x)-1)+1)) (Lib.bitLen x-1)=x%2^(Lib.bitLen x-1)
def Ij(A B:List Bool){x:Nat}(h0:0<x)(h:x<2^64):Ih (aE (A++(iw x++B))) A.length x:=
 ⟨λ k hk=>Li A B hk,Lj A B h0 h,Lk A B h0 h⟩
def Ik(A B:List Bool){x:Nat}(h0:0<x)(h:x<2^64):Ii (aE (A++(fc x++B))) A.length x:=by
 obtain⟨h1,h2,h3⟩:=dL h0 h;have h4:=bitLen_le64 x;have h5:=(dL (v:=Lib.bitLen x) (by omega) (by omega)).1;have e:A++(fc x++B)=A++(iw (Lib.bitLen x)++(aT x (Lib.bitLen x-1)++B)):=by unfold fc;simp only[KV]
 refine⟨by rw[e];exact Ij A _ (by omega) (by omega),?_⟩;have e2:A++(fc x++B)=(A++iw (Lib.bitLen x))++(aT x (Lib.bitLen x-1)++B):=by rw[e,KV]
 have e3:A.length+(2*(Lib.bitLen (Lib.bitLen x)-1)+1)=(A++iw (Lib.bitLen x)).length:=by rw[sp,l9];omega
 rw[e2,e3,Ll]
def bC:Nat->List Nat->List Bool
 |_,[]=>[]
 |bf,p::r=>fc (p+1-bf)++bC (p+1) r
def NN(bf:Nat)(l:List Nat):Nat:=l.foldl (λ _ p=>p+1) bf
def Il(bf:Nat)(l:List Nat)(p:Nat):NN bf (l++[p])=p+1:=by simp[NN]
def td:∀ (l:List Nat) (bf p:Nat),bC bf (l++[p])=bC bf l++fc (p+1-NN bf l)
 |[],bf,p=>by simp[bC,NN]
 |q::r,bf,p=>by
  rw[TE,bC,bC,td r,KV];rfl
def qJ:∀ (l r:List Nat) (bf:Nat),bC bf (l++r)=bC bf l++bC (NN bf l) r
 |[],r,bf=>rfl
 |q::l,r,bf=>by rw[TE,bC,bC,qJ l r,KV];rfl
structure OkP(l:List Nat):Prop where
 len:l.length<=4096
 asc:l.Pairwise (· < ·)
 lt:∀ p∈l,p<4096
def j1:∀ (l:List Nat) (bf:Nat),(∀ p∈l,p<4096)->(bC bf l).length<=42*l.length
 |[],_,_=>KB _
 |p::r,bf,h=>by
  have h1:=j1 r (p+1) λ q hq=>h q (Sl _ hq);have h2:(fc (p+1-bf)).length<=42:=D1 (by have:=h p (by simp);omega);rw[bC,sp,LW];omega
def qi(l:List Nat)(i:Nat):Nat:=NN 0 (l.take i)
def jt{l:List Nat}{i p:Nat}(h:l[i]? =some p):qi l (i+1)=p+1:=by unfold qi;rw[aj h,Il]
def pD{l:List Nat}(h:OkP l){i p:Nat}(hp:l[i]? =some p):qi l i<=p:=by
 cases i with
 |zero=>exact KB _
 |succ i=>
  have hi:=aL hp;obtain⟨q,hq⟩:∃ q,l[i]? =some q:=⟨_,py (by omega)⟩;rw[jt hq];have h1:=IN.1 hq;have h2:=IN.1 hp;have:=SQ.1 h.asc i (i+1) (by omega) hi (by omega);rw[h1.2,h2.2]at this;exact this
def fK(l:List Nat):Nat->List (Nat×Nat)
 |0=>[]
 |i+1=>if i%16=0 then fK l i++[(l.getD i 0,(bC 0 (l.take i)).length)]else fK l i
def gJ(l:List Nat):∀ i,(fK l i).length=(i+15)/16
 |0=>rfl
 |i+1=>by
  unfold fK;have:=gJ l i;split
  ·rw[sp,this,KM];omega
  ·rw[this];omega
def lX(l:List Nat):∀ i k x,(fK l i)[k]? =some x->x=(l.getD (16*k) 0,(bC 0 (l.take (16*k))).length)/\16*k<i
 |0,k,x,h=>by simp[fK]at h
 |i+1,k,x,h=>by
  unfold fK at h;split at h
  ·rename_i h16
   rcases RG k (fK l i).length with h1|h1
   ·rw[RH h1]at h;have:=lX l i k x h;exact⟨this.1,by omega⟩
   ·rw[RO h1]at h;have h2:=aL h;have e:k-(fK l i).length=0:=by simp at h2;omega
    rw[e]at h;cases h;rw[gJ]at h1 e;have e2:16*k=i:=by omega
    rw[e2];exact⟨Y,by omega⟩
  ·have:=lX l i k x h;exact⟨this.1,by omega⟩
def qK(s:List (Nat×Nat)):Nat->List Nat
 |0=>[]
 |k+1=>if k=0 then[]else qK s k++uv ((s.getD k (0,0)).1-(s.getD (k-1) (0,0)).1)++uv ((s.getD k (0,0)).2-(s.getD (k-1) (0,0)).2)
def Im(s:List (Nat×Nat)):∀ k,∀ x∈qK s k,x<256
 |0,x,h=>by cases h
 |k+1,x,h=>by
  unfold qK at h;split at h
  ·cases h
  ·rcases RE.1 h with h|h
   ·rcases RE.1 h with h|h
    ·exact Im s k x h
    ·exact de _ x h
   ·exact de _ x h
def D3(s:List (Nat×Nat)):∀ k,(qK s k).length<=20*k
 |0=>KB _
 |k+1=>by
  unfold qK;split
  ·exact KB _
  ·have h1:=D3 s k;have h2:=aC ((s.getD k (0,0)).1-(s.getD (k-1) (0,0)).1);have h3:=aC ((s.getD k (0,0)).2-(s.getD (k-1) (0,0)).2);rw[sp,sp];omega
def mQ(l:List Nat):List Nat:=uv l.length++uv (bC 0 l).length++aE (bC 0 l)++qK (fK l l.length) (fK l l.length).length
def j2(l:List Nat):∀ x∈mQ l,x<256:=λ x h=>by
 unfold mQ at h;rcases RE.1 h with h|h
 ·rcases RE.1 h with h|h
  ·rcases RE.1 h with h|h<;>exact de _ x h
  ·exact fQ _ x h
 ·exact Im _ _ x h
def ka{l:List Nat}(h:OkP l):(mQ l).length<=40000:=by
 unfold mQ;have h1:=aC l.length;have h2:=aC (bC 0 l).length;have h3:=j1 l 0 h.lt;have h4:=D3 (fK l l.length) (fK l l.length).length;have h5:=h.len;rw[sp,sp,sp,aK];rw[gJ]at h4⊢;omega
def ct(s:ByteArray):List Nat:=uv s.size++cr s
def la(l:List Nat):List Nat:=uv l.length++l
def qj(ps:List Pr):List Nat:=uv ps.length++ps.flatMap λ p=>ct p.1++ct p.2
def NO{x y:Nat}{r s:List Nat}(hx:x<2^64)(hy:y<2^64)(h:uv x++r=uv y++s):x=y/\r=s:=by
 have h1:=pB hx r;rw[h,pB hy s]at h1;have e:x=y:=(If Prod.fst h1).symm;subst e;exact⟨Y,append_cancel_left h⟩
def zO{s t:ByteArray}(h:cr s=cr t):s=t:=by
 unfold cr at h;have:s.data.toList=t.data.toList:=List.map_inj_right (λ a b h=>Uz.1 h)|>.1 h;cases s;cases t;simpa[Array.toList_inj]using this
def Pm(p:Pr):Prop:=p.1.size<2^64/\p.2.size<2^64
def da(vs:List ByteArray):List Nat:=vs.map (di (aa vs))
def dz(ns:List Nat)(n:Nat):List Nat:=(List.range ns.length).filter λ i=>decide (ns[i]? =some n)
def zP{ns:List Nat}{n i:Nat}:i∈dz ns n↔ns[i]? =some n:=by
 unfold dz;rw[Tp,Ut,Ss];exact⟨λ h=>h.2,λ h=>⟨(IN.1 h).1,h⟩⟩
def kb{ns:List Nat}(n:Nat)(h:ns.length<=4096):OkP (dz ns n):=by
 refine⟨?_,?_,λ p hp=>?_⟩
 ·have:=VL (λ i=>decide (ns[i]? =some n)) (List.range ns.length);rw[Ux]at this;exact RV this h
 ·exact(pairwise_lt_range (n:=ns.length)).filter _
 ·have:=(IN.1 (zP.1 hp)).1;omega
def Fg(ns:List Nat)(x n:Nat):dz (ns++[x]) n=if x=n then dz ns n++[ns.length]else dz ns n:=by
 unfold dz;rw[sp,KM,To,Te];have e:(List.range ns.length).filter (λ i=>decide ((ns++[x])[i]? =some n))=(List.range ns.length).filter λ i=>decide (ns[i]? =some n):=by
  apply filter_congr;intro i hi;rw[RH (Ut.1 hi)]
 rw[e];by_cases h:x=n
 ·rw[No h];simp[h]
 ·rw[M2 h];simp[h]
def qL{vs:List ByteArray}:∀ x∈da vs,x<(aa vs).length:=λ x hx=>by
 obtain⟨v,hv,rfl⟩:=Sk.1 hx;exact(IN.1 (jZ hv)).1
where mem_get' {α:Type} {l:List α} {i:Nat} {x:α} (h:l[i]? =some x):x∈l:=Rv h
section
variable (X:List ByteArray->List Nat) (T:List Nat->List Nat)
def u9(ns:List Nat)(k:Nat):List Nat:=(List.range k).flatMap λ n=>la (aN (mQ (dz ns n)))
def kz(a:ByteArray×Bool)(vs:List ByteArray):List Nat:=ct a.1++(uv (if a.2 then 1 else 0)++(la (X vs)++(la (T (da vs))++u9 (da vs) (aa vs).length)))
def fe(at_:List (ByteArray×Bool))(tk:List (List ByteArray))(k:Nat):List Nat:=(List.range k).flatMap λ i=>kz X T (at_.getD i (ByteArray.empty,false)) (tk.map λ t=>t.getD i ByteArray.empty)
abbrev mr:=ByteArray×Int×Int×List Pr
def Iv.v(x:Iv):mr:=(x.nm,x.b,x.e,x.ps)
def im(x:mr):List Nat:=ct x.1++(uv (x.2.2.1-x.2.1).toNat++qj x.2.2.2)
def Mt(bf:Int)(x:mr):List Nat:=ct x.1++(uv (x.2.1-bf).toNat++(uv (x.2.2.1-x.2.1).toNat++qj x.2.2.2))
def fX:Int->List mr->List Nat
 |_,[]=>[]
 |bf,x::r=>Mt bf x++fX x.2.1 r
def Mu(bf:Int)(l:List mr):Int:=l.foldl (λ _ x=>x.2.1) bf
def vQ:∀ (l:List mr) (bf:Int) (x:mr),fX bf (l++[x])=fX bf l++Mt (Mu bf l) x
 |[],bf,x=>by simp[fX,Mu]
 |y::l,bf,x=>by rw[TE,fX,fX,vQ l,KV];rfl
def tf(x:Nd):List Nat:=ct x.nm++(uv (x.p+1).toNat++(uv x.b.toNat++uv (x.e-x.b).toNat))
def tJ(x:Int×ByteArray):List Nat:=uv (x.1+1).toNat++ct x.2
structure pE where
 at_:List (ByteArray×Bool)
 tk:List (List ByteArray)
 tx:List mr
 rg:List mr
 nd:List Nd
 hd:List Int
 rl:List ByteArray
def Co.v(c:Co):pE:=⟨c.at_,c.tk.map (·.ns),c.tx.map Iv.v,c.rg.map Iv.v,c.nd,c.hd,c.rl⟩
def kc(c:pE):List Nat:=[67,83,49]++(uv c.at_.length++(fe X T c.at_ c.tk c.at_.length++(uv c.tx.length++(c.tx.flatMap im++(uv c.rg.length++(fX 0 c.rg++(uv c.nd.length++(c.nd.flatMap tf++(uv c.hd.length++(c.hd.zip c.rl).flatMap tJ)))))))))
end
def Pn(us:List ByteArray):Prop:=(us.length<=1024/\(aa us).length<=8)/\∀ v∈us,v.size<=120
section
variable {X:List ByteArray->List Nat} {T:List Nat->List Nat}
def Po:Int->List mr->Prop
 |_,[]=>True
 |z,x::r=>x.2.1=z/\Po x.2.2.1 r
def OU:Int->List mr->Prop
 |_,[]=>True
 |z,x::r=>z<=x.2.1/\OU x.2.1 r
def Rf(x:mr):Prop:=x.1.size<2^64/\x.2.2.2.length<2^64/\(∀ p∈x.2.2.2,Pm p)/\0<=x.2.1/\x.2.1<=x.2.2.1/\x.2.2.1<4611686018427387904
structure OkV(a:pE):Prop where
 an:1<=a.at_.length/\a.at_.length<=8
 as:∀ x∈a.at_,x.1.size<2^64
 tn:a.tk.length<=1024
 tw:∀ i,(aa (a.tk.map λ t=>t.getD i ByteArray.empty)).length<=8
 tr:∀ r∈a.tk,r.length=a.at_.length/\∀ v∈r,v.size<=120
 xs:∀ x∈a.tx,Rf x
 xc:Po 0 a.tx
 rs:∀ x∈a.rg,Rf x
 rc:OU 0 a.rg
 ns:∀ x∈a.nd,x.nm.size<2^64/\-1<=x.p/\x.p<4611686018427387904/\0<=x.b/\x.b<=x.e/\x.e<4611686018427387904
 hl:a.hd.length=a.rl.length
 hs:∀ x∈a.hd.zip a.rl,-1<=x.1/\x.1<4611686018427387904/\x.2.size<2^64
 ls:a.tx.length<2^64/\a.rg.length<2^64/\a.nd.length<2^64/\a.hd.length<2^64
end
def bt{s:ByteArray}(h:bF s=true):s.size<=32:=by
 unfold bF at h;exact Sw (RC _ _▸h).1
def iN{s:ByteArray}(h:jL s=true):s.size<=120:=by
 unfold jL at h;exact Sw (RC _ _▸h).1
theorem okPs.sz{ps:List Pr}(h:okPs ps):∀ p∈ps,Pm p:=λ p hp=>by
 have h1:=bt (h.2.1 p hp).1;have h2:=iN (h.2.1 p hp).2;exact⟨by omega,by omega⟩
def Ln{x y:Iv}(h:eB x y<=0):x.b<=y.b:=by
 rcases(by omega:y.b<x.b\/x.b<=y.b)with q|q
 ·unfold eB ed at h;rw[M2 (show¬ x.b<y.b by omega),No q,No (by omega)]at h;omega
 ·exact q
def Mv:∀ (l:List Iv) (z:Int),(∀ x,l[0]? =some x->x.b=z)->(∀ (i:Nat) x y,l[i]? =some x->l[i+1]? =some y->y.b=x.e)->Po z (l.map Iv.v)
 |[],_,_,_=>trivial
 |x::l,z,h1,h2=>⟨h1 x Y,Mv l x.e (λ y hy=>h2 0 x y Y (by simpa using hy)) λ i a b ha hb=>h2 (i+1) a b (by simpa using ha) (by simpa using hb)⟩
def Mw:∀ (l:List Iv) (z:Int),(∀ x,l[0]? =some x->z<=x.b)->(∀ (i:Nat) x y,l[i]? =some x->l[i+1]? =some y->x.b<=y.b)->OU z (l.map Iv.v)
 |[],_,_,_=>trivial
 |x::l,z,h1,h2=>⟨h1 x Y,Mw l x.b (λ y hy=>h2 0 x y Y (by simpa using hy)) λ i a b ha hb=>h2 (i+1) a b (by simpa using ha) (by simpa using hb)⟩
def zQ:∀ (l V:List ByteArray),l.Nodup->(∀ x∈l,x∈V)->l.length<=V.length
 |[],_,_,_=>KB _
 |x::r,V,hn,h=>by
  obtain⟨h1,h2⟩:=Vz.1 hn;have hx:=h x (by simp);have h3:=zQ r (V.filter λ y=> !decide (y=x)) h2 λ y hy=>Tp.2 ⟨h y (Sl _ hy),by
   have hne:¬ y=x:=λ e=>by subst e;exact h1 hy
   rw[AT hne];rfl⟩
  have h4:(V.filter λ y=> !decide (y=x)).length<V.length:=length_filter_lt_length_iff_exists.2 ⟨x,hx,by simp⟩;rw[LW];omega
def Io{vs V:List ByteArray}(h:∀ v∈vs,v∈V):(aa vs).length<=V.length:=
 zQ _ _ (List.Pairwise.imp (R:=SLt) (S:=λ a b=>a≠b) (λ h e=>by subst e;exact SLt.qU _ h) (cw vs)) λ x hx=>h x (bK.1 hx)
def OkC.Qj{k:Nat}{c:Co}(h:OkC k c)(i:Nat):(aa (c.tk.map λ t=>t.ns.getD i ByteArray.empty)).length<=8:=by
 refine RV (Io (V:=ByteArray.empty::EU i) λ v hv=>?_) (Nat.succ_le_succ (Hw i));obtain⟨t,ht,rfl⟩:=Sk.1 hv;rw[KP];cases he:t.ns[i]? with
 |none=>exact SI ..
 |some u=>exact Sl _ (h.voc t ht i u he)
def OkC.R7{k:Nat}{c:Co}(h:OkC k c)(hk:k<=80):OkV c.v:=by
 have hn:=h.ntk;have bd:∀ {b e:Int},inT c.tx b e->0<=b/\b<=e/\e<4611686018427387904:=λ q=>by
  have:=q.bd h.tx;omega
 have hdl:c.hd.length=c.rl.length/\c.hd.length<=4096:=by
  rcases h.hd with⟨a,b⟩|a
  ·rw[a,b];exact⟨Y,KB _⟩
  ·have:=a.len;omega
 refine⟨h.at_.2,λ x hx=>?_,?_,λ i=>by show(aa ((c.tk.map (·.ns)).map _)).length<=8;rw[U4];exact h.Qj i,λ r hr=>?_,λ x hx=>?_,Mv _ _ h.tx.first h.tx.next,λ x hx=>?_,Mw _ _ (λ x hx=>?_) (λ i x y hx hy=>Ln (h.rg.asc i x y hx hy)),λ x hx=>?_,hdl.1,λ x hx=>?_,?_⟩
 ·obtain⟨i,hi⟩:=Sd hx;have:=bt (h.at_.1 i x hi).1;omega
 ·show(c.tk.map (·.ns)).length<=1024;rw[Rq];omega
 ·obtain⟨t,ht,rfl⟩:=Sk.1 hr;have q:=h.tk t ht;refine⟨q.1,λ v hv=>?_⟩;obtain⟨i,hi⟩:=Sd hv;have hl:=(IN.1 hi).1;exact iN (q.2 i v _ hi (py (by omega))).val
 ·obtain⟨t,ht,rfl⟩:=Sk.1 hx;obtain⟨q1,q2,q3,q4,q5⟩:=h.tx.nm t ht;have:=bt q1;exact⟨by show t.nm.size<_;omega,by show t.ps.length<_;have:=q2.1;omega,q2.sz,q3,by show t.b<=t.e;omega,by show t.e<_;omega⟩
 ·obtain⟨t,ht,rfl⟩:=Sk.1 hx;obtain⟨q1,q2,q3⟩:=h.rg.el t ht;have:=bt q1;have q4:=bd q2;exact⟨by show t.nm.size<_;omega,by show t.ps.length<_;have:=q3.1;omega,q3.sz,q4.1,q4.2.1,q4.2.2⟩
 ·exact(bd (h.rg.el x (Rv hx)).2.1).1
 ·have q:=h.nd.el x hx;have:=bt q.1;have q4:=bd q.2;obtain⟨i,hi⟩:=Sd hx;have hil:i<c.nd.length:=(IN.1 hi).1;have:=h.nnd;have q5:=h.nd.par i x hi;exact⟨by omega,by omega,by omega,q4⟩
 ·obtain⟨i,hi⟩:=Sd hx;rw[show c.v.hd=c.hd from Y,show c.v.rl=c.rl from Y,UJ]at hi;rcases h.hd with⟨a,b⟩|a
  ·rw[a]at hi;simp at hi
  ·have q1:=a.el i x.1 hi.1;have q2:=a.nm x.2 (Rv hi.2);refine⟨?_,?_,?_⟩
   ·rcases q1 with e|⟨t,ht,e⟩
    ·omega
    ·have:=h.tx.nm t ht;omega
   ·rcases q1 with e|⟨t,ht,e⟩
    ·omega
    ·have:=h.tx.nm t ht;omega
   ·rcases q2 with e|e
    ·rw[e];exact SH 64
    ·have:=bt e;omega
 ·have h1:=h.ntx;have h2:=h.nrg;have h3:=h.nnd;refine⟨?_,?_,?_,?_⟩
  ·show(c.tx.map Iv.v).length<_;rw[Rq];omega
  ·show(c.rg.map Iv.v).length<_;rw[Rq];omega
  ·show c.nd.length<_;omega
  ·show c.hd.length<_;omega
