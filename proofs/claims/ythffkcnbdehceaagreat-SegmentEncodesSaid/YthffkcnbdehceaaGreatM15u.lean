/-
 M15u:a packed block is read back. No program in sight.
-/
import Derived.Test.YthffkcnbdehceaaGreatM03
open Go.Proofs.YthffkcnbdehceaaGreat
open List
set_option linter.unusedVariables false
set_option linter.unusedSimpArgs false
set_option linter.unusedSectionVars false
namespace Go.Kw
def uz (w:Nat):Nat->Nat->List Nat->List Nat
 |_,_,[]=>[]
 |i,b,x::r=>if 0<x/2^w then uv (i+1-b)++uv (x/2^w)++uz w (i+1) (i+1) r else uz w (i+1) b r
def sN (w:Nat) (l:List Nat):Nat:=l.countP λ x=>decide (0<x/2^w)
theorem kH (w:Nat):∀ (l:List Nat) (i b:Nat) (bits:List Bool) (ex:List Nat) (c:Nat),
  (l.foldl (dD w) (i,bits,ex,c,b)).2.1=bits++l.flatMap (λ x=>aX (x%2^w) w)/\(l.foldl (dD w) (i,bits,ex,c,b)).2.2.1=ex++uz w i b l/\(l.foldl (dD w) (i,bits,ex,c,b)).2.2.2.1=c+sN w l
 |[],i,b,bits,ex,c=>by simp [uz,sN]
 |x::r,i,b,bits,ex,c=>by
  rw [RG]
  by_cases h:0<x/2^w
  ·have e:dD w (i,bits,ex,c,b) x=(i+1,bits++aX (x%2^w) w,ex++uv (i+1-b)++uv (x/2^w),c+1,i+1):=PI h
   rw [e]
   obtain ⟨h1,h2,h3⟩:=kH w r (i+1) (i+1) (bits++aX (x%2^w) w) (ex++uv (i+1-b)++uv (x/2^w)) (c+1)
   refine ⟨by rw [h1];simp,by rw [h2,uz,PI h];simp,?_⟩
   rw [h3,sN,sN,TJ (by simpa using h)];omega
  ·have e:dD w (i,bits,ex,c,b) x=(i+1,bits++aX (x%2^w) w,ex,c,b):=M2 h
   rw [e]
   obtain ⟨h1,h2,h3⟩:=kH w r (i+1) b (bits++aX (x%2^w) w) ex c
   refine ⟨by rw [h1];simp,by rw [h2,uz,M2 h],?_⟩
   rw [h3,sN,sN,TK (by simpa using h)]
theorem GS (w:Nat) (l:List Nat):iu w l=uv l.length++uv w++uv (sN w l)++aH (l.flatMap λ x=>aX (x%2^w) w)++uz w 0 0 l:=by
 obtain ⟨h1,h2,h3⟩:=kH w l 0 0 [] [] 0
 unfold iu de
 rw [h1,h2,h3];simp
def HS (w n:Nat):Nat->Bool->List Nat->Nat->List Nat->Option (List Nat)
 |0,_,_,_,vs=>some vs
 |c+1,ok,r,a,vs=>
  let g:=aW ok r 128
  let h:=aW g.2.1 g.2.2 (2147483647/2^w)
  if h.2.1=false\/a+g.1=0\/n<a+g.1 then none else HS w n c h.2.1 h.2.2 (a+g.1) (vs.set (a+g.1-1) (vs.getD (a+g.1-1) 0|||h.1*2^w))
def jD (l:List Nat) (n w:Nat):List Nat:=(List.range n).map λ i=>sL l (w*i) w
def td (b:List Nat):Option (List Nat):=
 let x:=aW true b 128
 let y:=aW x.2.1 x.2.2 31
 let z:=aW y.2.1 y.2.2 128
 let size:=(x.1*y.1+7)/8
 if z.2.1=false\/z.2.2.length<size then none
 else match HS y.1 x.1 z.1 z.2.1 (z.2.2.drop size) 0 (jD (z.2.2.take size) x.1 y.1) with
  |none=>none
  |some vs=>if bD vs=b then some vs else none
theorem we (w n:Nat):∀ (s p:List Nat) (b:Nat) (rest:List Nat),n=p.length+s.length->n<=128->b<=p.length->(∀ x∈s,x<=2147483647)->
  HS w n (sN w s) true (uz w p.length b s++rest) b (p++s.map (· %2^w))=some (p++s)
 |[],p,b,rest,_,_,_,_=>by simp [sN,HS]
 |x::r,p,b,rest,hn,h128,hb,hx=>by
  have hx1:=hx x (by simp)
  have hr:=λ y hy=>hx y (Qr _ hy)
  simp only [KP] at hn
  by_cases h:0<x/2^w
  ·have ih:=we w n r (p++[x]) (p.length+1) rest (by simp;omega) h128 (by simp) hr
   have hg:aW true (uv (p.length+1-b)++(uv (x/2^w)++(uz w (p.length+1) (p.length+1) r++rest))) 128=(p.length+1-b,true,uv (x/2^w)++(uz w (p.length+1) (p.length+1) r++rest)):=fZ (by omega) (by omega) _
   have hd:=QH x (2^w)
   have hh:aW true (uv (x/2^w)++(uz w (p.length+1) (p.length+1) r++rest)) (2147483647/2^w)=(x/2^w,true,uz w (p.length+1) (p.length+1) r++rest):=fZ (by omega) (Nat.div_le_div_right hx1) _
   have hc:sN w (x::r)=sN w r+1:=by rw [sN,TJ (by simpa using h)];rfl
   rw [hc,HS,uz,PI h]
   simp only [LW]
   rw [hg]
   simp only [hh]
   have ha:b+(p.length+1-b)=p.length+1:=by omega
   rw [ha,M2 (by simp;omega)]
   have hv:(p++(x::r).map (· %2^w)).getD (p.length+1-1) 0=x%2^w:=by simp [KW]
   have hor:x%2^w|||x/2^w*2^w=x:=by
    rw [nC (RY _ (R1 w))]
    have:=TN x (2^w);rw [Sy] at this;omega
   rw [hv,hor]
   have hset:(p++(x::r).map (· %2^w)).set (p.length+1-1) x=p++[x]++r.map (· %2^w):=by simp
   rw [hset]
   simp only [sp,KP,KY] at ih
   rw [Qa] at ih
   rw [ih];simp
  ·have ih:=we w n r (p++[x]) b rest (by simp;omega) h128 (by simp;omega) hr
   have hc:sN w (x::r)=sN w r:=by rw [sN,TK (by simpa using h)];rfl
   have hlt:x<2^w:=QR λ hge=>h (Nat.div_pos (by omega) (R1 w))
   rw [hc,uz,M2 h,Qm,Q5 hlt]
   simp only [sp,KP,KY] at ih
   rw [Qa] at ih
   rw [show p++x::r.map (· %2^w)=p++[x]++r.map (· %2^w) by simp,ih];simp
theorem sq (w:Nat):∀ l:List Nat,(l.flatMap λ x=>aX (x%2^w) w).length=l.length*w
 |[]=>by simp
 |x::r=>by rw [Rz,sp,aF,sq w r,KP,Qx];omega
theorem yL (w:Nat) (l:List Nat):jD (aH (l.flatMap λ x=>aX (x%2^w) w)) l.length w=l.map (· %2^w):=by
 apply RM
 intro i
 unfold jD
 rw [PX,PX]
 rcases Q1 i l.length with h|h
 ·rw [Sc h,py h]
  have hcat:l=l.take i++[l[i]]++l.drop (i+1):=by simp
  have hb:(l.flatMap λ x=>aX (x%2^w) w)=(l.take i).flatMap (λ x=>aX (x%2^w) w)++aX (l[i]%2^w) w++(l.drop (i+1)).flatMap (λ x=>aX (x%2^w) w):=by
   conv=>lhs;rw [hcat]
   rw [T3,T3,Rz,flatMap_nil,QO]
  have ha:((l.take i).flatMap λ x=>aX (x%2^w) w).length=w*i:=by rw [sq,KV,Qk (by omega),Sy]
  have:=vJ ((l.take i).flatMap λ x=>aX (x%2^w) w) ((l.drop (i+1)).flatMap λ x=>aX (x%2^w) w) (l[i]%2^w) w (RY _ (R1 w)) w (KB _)
  rw [ha] at this
  rw [hb,Rh,this];simp
 ·rw [Q3 (by simpa using h),Q3 h];rfl
theorem uA {l:List Nat} (hn:l.length<=128) (hx:∀ x∈l,x<=2147483647):td (bD l)=some l:=by
 have hb:=gL l 32
 have he:bD l=uv l.length++(uv (dm l 32)++(uv (sN (dm l 32) l)++(aH (l.flatMap λ x=>aX (x%2^dm l 32) (dm l 32))++uz (dm l 32) 0 0 l))):=by
  unfold bD;rw [GS];simp
 have hc:sN (dm l 32) l<=l.length:=TV
 generalize dm l 32=w at hb he hc
 have h1:aW true (bD l) 128=(l.length,true,uv w++(uv (sN w l)++(aH (l.flatMap λ x=>aX (x%2^w) w)++uz w 0 0 l))):=by rw [he];exact fZ (by omega) hn _
 have h2:aW true (uv w++(uv (sN w l)++(aH (l.flatMap λ x=>aX (x%2^w) w)++uz w 0 0 l))) 31=(w,true,uv (sN w l)++(aH (l.flatMap λ x=>aX (x%2^w) w)++uz w 0 0 l)):=fZ (by omega) (by omega) _
 have h3:aW true (uv (sN w l)++(aH (l.flatMap λ x=>aX (x%2^w) w)++uz w 0 0 l)) 128=(sN w l,true,aH (l.flatMap λ x=>aX (x%2^w) w)++uz w 0 0 l):=fZ (by omega) (by omega) _
 have hsz:(aH (l.flatMap λ x=>aX (x%2^w) w)).length=(l.length*w+7)/8:=by rw [bc,sq]
 unfold td
 simp only [h1,h2,h3]
 rw [M2 (by simp [hsz]),<-hsz,TA,TU,yL]
 have:=we w l.length l [] 0 [] (by simp) hn (KB _) hx
 simp only [KY,QO,Rc] at this
 rw [this]
 simp
end Go.Kw
