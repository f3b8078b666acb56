/-
 M15u:a packed block is read back. No program in sight.
-/
import Derived.Test.YtcgidfgdbhihbaaGreatDoorMst
open List renaming length→I,take→J,drop→ww
set_option linter.all false
open Go.Proofs.YtcgidfgdbhihbaaGreatDoor
open List
namespace Go.Kw
def xA(w:Nat):Nat->Nat->List Nat->List Nat
 |_,_,[]=>[]
 |i,b,x::r=>if 0<x/2^w then uv (i+1-b)++uv (x/2^w)++xA w (i+1) (i+1) r else xA w (i+1) b r
def vK(w:Nat)(l:List Nat):Nat:=l.countP λ x=>decide (0<x/2^w)
def me(w:Nat):∀ (l:List Nat) (i b:Nat) (bits:List Bool) (E:List Nat) (c:Nat),
  (l.foldl (et w) (i,bits,E,c,b)).2.1=bits++l.flatMap (λ x=>aY (x%2^w) w)/\(l.foldl (et w) (i,bits,E,c,b)).2.2.1=E++xA w i b l/\(l.foldl (et w) (i,bits,E,c,b)).2.2.2.1=c+vK w l
 |[],i,b,bits,E,c=>by simp[xA,vK]
 |x::r,i,b,bits,E,c=>by
  rw[Zg];by_cases h:0<x/2^w
  ·have e:et w (i,bits,E,c,b) x=(i+1,bits++aY (x%2^w) w,E++uv (i+1-b)++uv (x/2^w),c+1,i+1):=Xp h;rw[e];obtain⟨H,d,g⟩:=me w r (i+1) (i+1) (bits++aY (x%2^w) w) (E++uv (i+1-b)++uv (x/2^w)) (c+1);refine⟨a3f,by rw[d,xA,Xp h];simp,?_⟩;rw[g,vK,vK,a2k ra];omega
  ·have e:et w (i,bits,E,c,b) x=(i+1,bits++aY (x%2^w) w,E,c,b):=Xn h;rw[e];obtain⟨H,d,g⟩:=me w r (i+1) b (bits++aY (x%2^w) w) E c;refine⟨a3f,by rw[d,xA,Xn h],?_⟩;rw[g,vK,vK,a2l ra]
def KA(w:Nat)(l:List Nat):jC w l=uv (I l)++uv w++uv (vK w l)++aI (l.flatMap λ x=>aY (x%2^w) w)++xA w 0 0 l:=by
 obtain⟨H,d,g⟩:=me w l 0 0 [] [] 0;unfold jC dH;rw[H,d,g];simp
def MJ(w n:Nat):Nat->Bool->List Nat->Nat->List Nat->Option (List Nat)
 |0,_,_,_,vs=>some vs
 |c+1,ok,r,a,vs=>
  let g:=b9 ok r 128;let h:=b9 g.2.1 g.2.2 (2147483647/2^w)
  if h.2.1=false\/a+g.1=0\/n<a+g.1 then none else MJ w n c h.2.1 h.2.2 (a+g.1) (vs.set (a+g.1-1) (vs.getD (a+g.1-1) 0|||h.1*2^w))
def lC(l:List Nat)(n w:Nat):List Nat:=(List.range n).map λ i=>qk l (w*i) w
def we(b:List Nat):Option (List Nat):=
 let x:=b9 true b 128;let y:=b9 x.2.1 x.2.2 31;let z:=b9 y.2.1 y.2.2 128;let d:=(x.1*y.1+7)/8
 if z.2.1=false\/I z.2.2<d then none
 else match MJ y.1 x.1 z.1 z.2.1 (ww d z.2.2) 0 (lC (J d z.2.2) x.1 y.1)with
  |none=>none
  |some g=>if bQ g=b then some g else none
def yD(w n:Nat):∀ (s p:List Nat) (b:Nat) (t:List Nat),n=I p+I s->n<=128->b<=I p->(∀ x∈s,x<=2147483647)->
  MJ w n (vK w s) true (xA w (I p) b s++t) b (p++s.map (· %2^w))=some (p++s)
 |[],p,b,t,_,_,_,_=>by simp[vK,MJ]
 |x::r,p,b,t,hn,h128,hb,hx=>by
  have k:=hx x bw;have l:=λ y E=>hx y (Ya _ E);simp only[No]at hn;by_cases h:0<x/2^w
  ·have i:=yD w n r (p++[x]) (I p+1) t cf h128 bw l;have q:b9 true (uv (I p+1-b)++(uv (x/2^w)++(xA w (I p+1) (I p+1) r++t))) 128=(I p+1-b,true,uv (x/2^w)++(xA w (I p+1) (I p+1) r++t)):=iK O O _;have hd:=Yn x (2^w);have A:b9 true (uv (x/2^w)++(xA w (I p+1) (I p+1) r++t)) (2147483647/2^w)=(x/2^w,true,xA w (I p+1) (I p+1) r++t):=iK O (a1w k) _;have d:vK w (x::r)=vK w r+1:=by rw[vK,a2k ra];rfl
   rw[d,MJ,xA,Xp h];simp only[KW];rw[q];simp only[A];have o:b+(I p+1-b)=I p+1:=O
   rw[o,Xn cf];have D:(p++(x::r).map (· %2^w)).getD (I p+1-1) 0=x%2^w:=by simp[KV]
   have j:x%2^w|||x/2^w*2^w=x:=by
    rw[qj (Zp _ (Yt w))];have:=a2o x (2^w);rw[ZN]at this;omega
   rw[D,j];have H:(p++(x::r).map (· %2^w)).set (I p+1-1) x=p++[x]++r.map (· %2^w):=bw
   rw[H];simp only[AT,No,Xv]at i;rw[XU]at i;rw[i];simp
  ·have i:=yD w n r (p++[x]) b t cf h128 cf l;have d:vK w (x::r)=vK w r:=by rw[vK,a2l ra];rfl
   have g:x<2^w:=Yx λ u=>h (Nat.div_pos O (Yt w));rw[d,xA,Xn h,XZ,XN g];simp only[AT,No,Xv]at i;rw[XU]at i;rw[show p++x::r.map (· %2^w)=p++[x]++r.map (· %2^w) by simp,i];simp
def uB(w:Nat):∀ l:List Nat,I (l.flatMap λ x=>aY (x%2^w) w)=I l*w
 |[]=>by simp
 |x::r=>by rw[Zs,AT,aK,uB w r,No,Yc];omega
def Bl(w:Nat)(l:List Nat):lC (aI (l.flatMap λ x=>aY (x%2^w) w)) (I l) w=l.map (· %2^w):=by
 apply ZC;intro i;unfold lC;rw[XF,XF];rcases XI i (I l) with h|h
 ·rw[ZQ h,py h];have t:l=J i l++[l[i]]++ww (i+1) l:=bw
  have d:(l.flatMap λ x=>aY (x%2^w) w)=(J i l).flatMap (λ x=>aY (x%2^w) w)++aY (l[i]%2^w) w++(ww (i+1) l).flatMap (λ x=>aY (x%2^w) w):=by
   conv=>lhs;rw[t]
   rw[a0q,a0q,Zs,flatMap_nil,Yr]
  have H:I ((J i l).flatMap λ x=>aY (x%2^w) w)=w*i:=by rw[uB,Xo,Y5 O,ZN]
  have:=rn ((J i l).flatMap λ x=>aY (x%2^w) w) ((ww (i+1) l).flatMap λ x=>aY (x%2^w) w) (l[i]%2^w) w (Zp _ (Yt w)) w (KM _);rw[H]at this;rw[d,Z6,this];simp
 ·rw[XQ ra,XQ h];rfl
def xB{l:List Nat}(d:I l<=128)(p:∀ x∈l,x<=2147483647):we (bQ l)=some l:=by
 have k:=j7 l 32;have he:bQ l=uv (I l)++(uv (dR l 32)++(uv (vK (dR l 32) l)++(aI (l.flatMap λ x=>aY (x%2^dR l 32) (dR l 32))++xA (dR l 32) 0 0 l))):=by
  unfold bQ;rw[KA];simp
 have o:vK (dR l 32) l<=I l:=a2t;generalize dR l 32=w at k he o;have g:b9 true (bQ l) 128=(I l,true,uv w++(uv (vK w l)++(aI (l.flatMap λ x=>aY (x%2^w) w)++xA w 0 0 l))):=by rw[he];exact iK O d _
 have i:b9 true (uv w++(uv (vK w l)++(aI (l.flatMap λ x=>aY (x%2^w) w)++xA w 0 0 l))) 31=(w,true,uv (vK w l)++(aI (l.flatMap λ x=>aY (x%2^w) w)++xA w 0 0 l)):=iK O O _;have j:b9 true (uv (vK w l)++(aI (l.flatMap λ x=>aY (x%2^w) w)++xA w 0 0 l)) 128=(vK w l,true,aI (l.flatMap λ x=>aY (x%2^w) w)++xA w 0 0 l):=iK O O _;have H:I (aI (l.flatMap λ x=>aY (x%2^w) w))=(I l*w+7)/8:=by rw[aO,uB]
 unfold we;simp only[g,i,j];rw[Xn zc,<-H,a2b,a2s,Bl];have:=yD w (I l) l [] 0 [] bw d (KM _) p;simp only[Xv,Yr,YW]at this;rw[this];simp
