/-
 M15u:a packed block is read back. No program in sight.
-/
import Derived.Test.YthffkcnbdehceaaGreatM16
set_option linter.all false
open Go.Proofs.YthffkcnbdehceaaGreat
open List
namespace Go.Kw
def vK(w:Nat):Nat->Nat->List Nat->List Nat
 |_,_,[]=>[]
 |i,b,x::r=>if 0<x/2^w then uv (i+1-b)++uv (x/2^w)++vK w (i+1) (i+1) r else vK w (i+1) b r
def tI(w:Nat)(l:List Nat):Nat:=l.countP λ x=>decide (0<x/2^w)
def l6(w:Nat):∀ (l:List Nat) (i b:Nat) (bits:List Bool) (ex:List Nat) (c:Nat),
  (l.foldl (dQ w) (i,bits,ex,c,b)).2.1=bits++l.flatMap (λ x=>aT (x%2^w) w)/\(l.foldl (dQ w) (i,bits,ex,c,b)).2.2.1=ex++vK w i b l/\(l.foldl (dQ w) (i,bits,ex,c,b)).2.2.2.1=c+tI w l
 |[],i,b,bits,ex,c=>by simp[vK,tI]
 |x::r,i,b,bits,ex,c=>by
  rw[TQ];by_cases h:0<x/2^w
  ·have e:dQ w (i,bits,ex,c,b) x=(i+1,bits++aT (x%2^w) w,ex++uv (i+1-b)++uv (x/2^w),c+1,i+1):=No h;rw[e];obtain⟨h1,h2,h3⟩:=l6 w r (i+1) (i+1) (bits++aT (x%2^w) w) (ex++uv (i+1-b)++uv (x/2^w)) (c+1);refine⟨by rw[h1];simp,by rw[h2,vK,No h];simp,?_⟩;rw[h3,tI,tI,VB (by simpa using h)];omega
  ·have e:dQ w (i,bits,ex,c,b) x=(i+1,bits++aT (x%2^w) w,ex,c,b):=M2 h;rw[e];obtain⟨h1,h2,h3⟩:=l6 w r (i+1) b (bits++aT (x%2^w) w) ex c;refine⟨by rw[h1];simp,by rw[h2,vK,M2 h],?_⟩;rw[h3,tI,tI,VC (by simpa using h)]
def I3(w:Nat)(l:List Nat):iL w l=uv l.length++uv w++uv (tI w l)++aE (l.flatMap λ x=>aT (x%2^w) w)++vK w 0 0 l:=by
 obtain⟨h1,h2,h3⟩:=l6 w l 0 0 [] [] 0;unfold iL df;rw[h1,h2,h3];simp
def Jo(w n:Nat):Nat->Bool->List Nat->Nat->List Nat->Option (List Nat)
 |0,_,_,_,vs=>some vs
 |c+1,ok,r,a,vs=>
  let g:=aX ok r 128;let h:=aX g.2.1 g.2.2 (2147483647/2^w)
  if h.2.1=false\/a+g.1=0\/n<a+g.1 then none else Jo w n c h.2.1 h.2.2 (a+g.1) (vs.set (a+g.1-1) (vs.getD (a+g.1-1) 0|||h.1*2^w))
def kg(l:List Nat)(n w:Nat):List Nat:=(List.range n).map λ i=>o9 l (w*i) w
def u7(b:List Nat):Option (List Nat):=
 let x:=aX true b 128;let y:=aX x.2.1 x.2.2 31;let z:=aX y.2.1 y.2.2 128;let size:=(x.1*y.1+7)/8
 if z.2.1=false\/z.2.2.length<size then none
 else match Jo y.1 x.1 z.1 z.2.1 (z.2.2.drop size) 0 (kg (z.2.2.take size) x.1 y.1)with
  |none=>none
  |some vs=>if bH vs=b then some vs else none
def xg(w n:Nat):∀ (s p:List Nat) (b:Nat) (rest:List Nat),n=p.length+s.length->n<=128->b<=p.length->(∀ x∈s,x<=2147483647)->
  Jo w n (tI w s) true (vK w p.length b s++rest) b (p++s.map (· %2^w))=some (p++s)
 |[],p,b,rest,_,_,_,_=>by simp[tI,Jo]
 |x::r,p,b,rest,hn,h128,hb,hx=>by
  have hx1:=hx x (by simp);have hr:=λ y hy=>hx y (Sl _ hy);simp only[LW]at hn;by_cases h:0<x/2^w
  ·have ih:=xg w n r (p++[x]) (p.length+1) rest (by simp;omega) h128 (by simp) hr;have hg:aX true (uv (p.length+1-b)++(uv (x/2^w)++(vK w (p.length+1) (p.length+1) r++rest))) 128=(p.length+1-b,true,uv (x/2^w)++(vK w (p.length+1) (p.length+1) r++rest)):=gI (by omega) (by omega) _;have hd:=SN x (2^w);have hh:aX true (uv (x/2^w)++(vK w (p.length+1) (p.length+1) r++rest)) (2147483647/2^w)=(x/2^w,true,vK w (p.length+1) (p.length+1) r++rest):=gI (by omega) (Ve hx1) _;have hc:tI w (x::r)=tI w r+1:=by rw[tI,VB (by simpa using h)];rfl
   rw[hc,Jo,vK,No h];simp only[KV];rw[hg];simp only[hh];have ha:b+(p.length+1-b)=p.length+1:=by omega
   rw[ha,M2 (by simp;omega)];have hv:(p++(x::r).map (· %2^w)).getD (p.length+1-1) 0=x%2^w:=by simp[KP]
   have hor:x%2^w|||x/2^w*2^w=x:=by
    rw[o8 (TZ _ (SH w))];have:=VF x (2^w);rw[Um]at this;omega
   rw[hv,hor];have hset:(p++(x::r).map (· %2^w)).set (p.length+1-1) x=p++[x]++r.map (· %2^w):=by simp
   rw[hset];simp only[sp,LW,Rp]at ih;rw[RX]at ih;rw[ih];simp
  ·have ih:=xg w n r (p++[x]) b rest (by simp;omega) h128 (by simp;omega) hr;have hc:tI w (x::r)=tI w r:=by rw[tI,VC (by simpa using h)];rfl
   have hlt:x<2^w:=SM λ hge=>h (Nat.div_pos (by omega) (SH w));rw[hc,vK,M2 h,Sg,RR hlt];simp only[sp,LW,Rp]at ih;rw[RX]at ih;rw[show p++x::r.map (· %2^w)=p++[x]++r.map (· %2^w) by simp,ih];simp
def sV(w:Nat):∀ l:List Nat,(l.flatMap λ x=>aT (x%2^w) w).length=l.length*w
 |[]=>by simp
 |x::r=>by rw[TK,sp,aH,sV w r,LW,Sp];omega
def zI(w:Nat)(l:List Nat):kg (aE (l.flatMap λ x=>aT (x%2^w) w)) l.length w=l.map (· %2^w):=by
 apply TL;intro i;unfold kg;rw[Rz,Rz];rcases RG i l.length with h|h
 ·rw[TP h,py h];have hcat:l=l.take i++[l[i]]++l.drop (i+1):=by simp
  have hb:(l.flatMap λ x=>aT (x%2^w) w)=(l.take i).flatMap (λ x=>aT (x%2^w) w)++aT (l[i]%2^w) w++(l.drop (i+1)).flatMap (λ x=>aT (x%2^w) w):=by
   conv=>lhs;rw[hcat]
   rw[US,US,TK,flatMap_nil,SO]
  have ha:((l.take i).flatMap λ x=>aT (x%2^w) w).length=w*i:=by rw[sV,KW,Sr (by omega),Um]
  have:=pC ((l.take i).flatMap λ x=>aT (x%2^w) w) ((l.drop (i+1)).flatMap λ x=>aT (x%2^w) w) (l[i]%2^w) w (TZ _ (SH w)) w (KD _);rw[ha]at this;rw[hb,T9,this];simp
 ·rw[RN (by simpa using h),RN h];rfl
def vL{l:List Nat}(hn:l.length<=128)(hx:∀ x∈l,x<=2147483647):u7 (bH l)=some l:=by
 have hb:=ic l 32;have he:bH l=uv l.length++(uv (dr l 32)++(uv (tI (dr l 32) l)++(aE (l.flatMap λ x=>aT (x%2^dr l 32) (dr l 32))++vK (dr l 32) 0 0 l))):=by
  unfold bH;rw[I3];simp
 have hc:tI (dr l 32) l<=l.length:=Va;generalize dr l 32=w at hb he hc;have h1:aX true (bH l) 128=(l.length,true,uv w++(uv (tI w l)++(aE (l.flatMap λ x=>aT (x%2^w) w)++vK w 0 0 l))):=by rw[he];exact gI (by omega) hn _
 have h2:aX true (uv w++(uv (tI w l)++(aE (l.flatMap λ x=>aT (x%2^w) w)++vK w 0 0 l))) 31=(w,true,uv (tI w l)++(aE (l.flatMap λ x=>aT (x%2^w) w)++vK w 0 0 l)):=gI (by omega) (by omega) _;have h3:aX true (uv (tI w l)++(aE (l.flatMap λ x=>aT (x%2^w) w)++vK w 0 0 l)) 128=(tI w l,true,aE (l.flatMap λ x=>aT (x%2^w) w)++vK w 0 0 l):=gI (by omega) (by omega) _;have hsz:(aE (l.flatMap λ x=>aT (x%2^w) w)).length=(l.length*w+7)/8:=by rw[aK,sV]
 unfold u7;simp only[h1,h2,h3];rw[M2 (by simp[hsz]),<-hsz,Vs,VM,zI];have:=xg w l.length l [] 0 [] (by simp) hn (KD _) hx;simp only[Rp,SO,Tj]at this;rw[this];simp
