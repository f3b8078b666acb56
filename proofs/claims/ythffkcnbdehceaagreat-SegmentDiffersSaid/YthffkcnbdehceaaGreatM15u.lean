/-
 M15u:a packed block is read back. No program in sight.
-/
import Derived.Test.YthffkcnbdehceaaGreatM14d
set_option linter.unusedVariables false
set_option linter.unusedSimpArgs false
set_option linter.unusedSectionVars false
namespace Go.Kw
def tL (w:Nat):Nat->Nat->List Nat->List Nat
 |_,_,[]=>[]
 |i,b,x::r=>if 0<x/2^w then uv (i+1-b)++uv (x/2^w)++tL w (i+1) (i+1) r else tL w (i+1) b r
def rW (w:Nat) (l:List Nat):Nat:=l.countP λ x=>decide (0<x/2^w)
theorem jL (w:Nat):∀ (l:List Nat) (i b:Nat) (bits:List Bool) (ex:List Nat) (c:Nat),
  (l.foldl (eD w) (i,bits,ex,c,b)).2.1=bits++l.flatMap (λ x=>aU (x%2^w) w)/\(l.foldl (eD w) (i,bits,ex,c,b)).2.2.1=ex++tL w i b l/\(l.foldl (eD w) (i,bits,ex,c,b)).2.2.2.1=c+rW w l
 |[],i,b,bits,ex,c=>by simp [tL,rW]
 |x::r,i,b,bits,ex,c=>by
  rw [List.foldl_cons]
  by_cases h:0<x/2^w
  ·have e:eD w (i,bits,ex,c,b) x=(i+1,bits++aU (x%2^w) w,ex++uv (i+1-b)++uv (x/2^w),c+1,i+1):=if_pos h
   rw [e]
   obtain ⟨h1,h2,h3⟩:=jL w r (i+1) (i+1) (bits++aU (x%2^w) w) (ex++uv (i+1-b)++uv (x/2^w)) (c+1)
   refine ⟨by rw [h1];simp,by rw [h2,tL,if_pos h];simp,?_⟩
   rw [h3,rW,rW,List.countP_cons_of_pos (by simpa using h)];omega
  ·have e:eD w (i,bits,ex,c,b) x=(i+1,bits++aU (x%2^w) w,ex,c,b):=if_neg h
   rw [e]
   obtain ⟨h1,h2,h3⟩:=jL w r (i+1) b (bits++aU (x%2^w) w) ex c
   refine ⟨by rw [h1];simp,by rw [h2,tL,if_neg h],?_⟩
   rw [h3,rW,rW,List.countP_cons_of_neg (by simpa using h)]
theorem Fm (w:Nat) (l:List Nat):n5 w l=uv l.length++uv w++uv (rW w l)++aB (l.flatMap λ x=>aU (x%2^w) w)++tL w 0 0 l:=by
 obtain ⟨h1,h2,h3⟩:=jL w l 0 0 [] [] 0
 unfold n5 eF
 rw [h1,h2,h3];simp
def Gg (w n:Nat):Nat->Bool->List Nat->Nat->List Nat->Option (List Nat)
 |0,_,_,_,vs=>some vs
 |c+1,ok,r,a,vs=>
  let g:=aR ok r 128
  let h:=aR g.2.1 g.2.2 (2147483647/2^w)
  if h.2.1=false\/a+g.1=0\/n<a+g.1 then none else Gg w n c h.2.1 h.2.2 (a+g.1) (vs.set (a+g.1-1) (vs.getD (a+g.1-1) 0|||h.1*2^w))
def j4 (l:List Nat) (n w:Nat):List Nat:=(List.range n).map λ i=>ng l (w*i) w
def sr (b:List Nat):Option (List Nat):=
 let x:=aR true b 128
 let y:=aR x.2.1 x.2.2 31
 let z:=aR y.2.1 y.2.2 128
 let size:=(x.1*y.1+7)/8
 if z.2.1=false\/z.2.2.length<size then none
 else match Gg y.1 x.1 z.1 z.2.1 (z.2.2.drop size) 0 (j4 (z.2.2.take size) x.1 y.1) with
  |none=>none
  |some vs=>if bI vs=b then some vs else none
theorem uQ (w n:Nat):∀ (s p:List Nat) (b:Nat) (rest:List Nat),n=p.length+s.length->n<=128->b<=p.length->(∀ x∈s,x<=2147483647)->
  Gg w n (rW w s) true (tL w p.length b s++rest) b (p++s.map (· %2^w))=some (p++s)
 |[],p,b,rest,_,_,_,_=>by simp [rW,Gg]
 |x::r,p,b,rest,hn,h128,hb,hx=>by
  have hx1:=hx x (by simp)
  have hr:=λ y hy=>hx y (List.mem_cons_of_mem _ hy)
  simp only [List.length_cons] at hn
  by_cases h:0<x/2^w
  ·have ih:=uQ w n r (p++[x]) (p.length+1) rest (by simp;omega) h128 (by simp) hr
   have hg:aR true (uv (p.length+1-b)++(uv (x/2^w)++(tL w (p.length+1) (p.length+1) r++rest))) 128=(p.length+1-b,true,uv (x/2^w)++(tL w (p.length+1) (p.length+1) r++rest)):=fK (by omega) (by omega) _
   have hd:=Nat.div_le_self x (2^w)
   have hh:aR true (uv (x/2^w)++(tL w (p.length+1) (p.length+1) r++rest)) (2147483647/2^w)=(x/2^w,true,tL w (p.length+1) (p.length+1) r++rest):=fK (by omega) (Nat.div_le_div_right hx1) _
   have hc:rW w (x::r)=rW w r+1:=by rw [rW,List.countP_cons_of_pos (by simpa using h)];rfl
   rw [hc,Gg,tL,if_pos h]
   simp only [List.append_assoc]
   rw [hg]
   simp only [hh]
   have ha:b+(p.length+1-b)=p.length+1:=by omega
   rw [ha,if_neg (by simp;omega)]
   have hv:(p++(x::r).map (· %2^w)).getD (p.length+1-1) 0=x%2^w:=by simp [List.getD_eq_getElem?_getD]
   have hor:x%2^w|||x/2^w*2^w=x:=by
    rw [pK (Nat.mod_lt _ (Nat.two_pow_pos w))]
    have:=Nat.div_add_mod x (2^w);rw [Nat.mul_comm] at this;omega
   rw [hv,hor]
   have hset:(p++(x::r).map (· %2^w)).set (p.length+1-1) x=p++[x]++r.map (· %2^w):=by simp
   rw [hset]
   simp only [List.length_append,List.length_cons,List.length_nil] at ih
   rw [Nat.zero_add] at ih
   rw [ih];simp
  ·have ih:=uQ w n r (p++[x]) b rest (by simp;omega) h128 (by simp;omega) hr
   have hc:rW w (x::r)=rW w r:=by rw [rW,List.countP_cons_of_neg (by simpa using h)];rfl
   have hlt:x<2^w:=Classical.byContradiction λ hge=>h (Nat.div_pos (by omega) (Nat.two_pow_pos w))
   rw [hc,tL,if_neg h,List.map_cons,Nat.mod_eq_of_lt hlt]
   simp only [List.length_append,List.length_cons,List.length_nil] at ih
   rw [Nat.zero_add] at ih
   rw [show p++x::r.map (· %2^w)=p++[x]++r.map (· %2^w) by simp,ih];simp
theorem rG (w:Nat):∀ l:List Nat,(l.flatMap λ x=>aU (x%2^w) w).length=l.length*w
 |[]=>by simp
 |x::r=>by rw [List.flatMap_cons,List.length_append,aS,rG w r,List.length_cons,Nat.add_mul];omega
theorem xK (w:Nat) (l:List Nat):j4 (aB (l.flatMap λ x=>aU (x%2^w) w)) l.length w=l.map (· %2^w):=by
 apply List.ext_getElem?
 intro i
 unfold j4
 rw [List.getElem?_map,List.getElem?_map]
 rcases Nat.lt_or_ge i l.length with h|h
 ·rw [List.getElem?_range h,List.getElem?_eq_getElem h]
  have hcat:l=l.take i++[l[i]]++l.drop (i+1):=by simp
  have hb:(l.flatMap λ x=>aU (x%2^w) w)=(l.take i).flatMap (λ x=>aU (x%2^w) w)++aU (l[i]%2^w) w++(l.drop (i+1)).flatMap (λ x=>aU (x%2^w) w):=by
   conv=>lhs;rw [hcat]
   rw [List.flatMap_append,List.flatMap_append,List.flatMap_cons,List.flatMap_nil,List.append_nil]
  have ha:((l.take i).flatMap λ x=>aU (x%2^w) w).length=w*i:=by rw [rG,List.length_take,Nat.min_eq_left (by omega),Nat.mul_comm]
  have:=o8 ((l.take i).flatMap λ x=>aU (x%2^w) w) ((l.drop (i+1)).flatMap λ x=>aU (x%2^w) w) (l[i]%2^w) w (Nat.mod_lt _ (Nat.two_pow_pos w)) w (Nat.le_refl _)
  rw [ha] at this
  rw [hb,Option.map_some,this];simp
 ·rw [List.getElem?_eq_none (by simpa using h),List.getElem?_eq_none h];rfl
theorem tM {l:List Nat} (hn:l.length<=128) (hx:∀ x∈l,x<=2147483647):sr (bI l)=some l:=by
 have hb:=ir l 32
 have he:bI l=uv l.length++(uv (dU l 32)++(uv (rW (dU l 32) l)++(aB (l.flatMap λ x=>aU (x%2^dU l 32) (dU l 32))++tL (dU l 32) 0 0 l))):=by
  unfold bI;rw [Fm];simp
 have hc:rW (dU l 32) l<=l.length:=List.countP_le_length
 generalize dU l 32=w at hb he hc
 have h1:aR true (bI l) 128=(l.length,true,uv w++(uv (rW w l)++(aB (l.flatMap λ x=>aU (x%2^w) w)++tL w 0 0 l))):=by rw [he];exact fK (by omega) hn _
 have h2:aR true (uv w++(uv (rW w l)++(aB (l.flatMap λ x=>aU (x%2^w) w)++tL w 0 0 l))) 31=(w,true,uv (rW w l)++(aB (l.flatMap λ x=>aU (x%2^w) w)++tL w 0 0 l)):=fK (by omega) (by omega) _
 have h3:aR true (uv (rW w l)++(aB (l.flatMap λ x=>aU (x%2^w) w)++tL w 0 0 l)) 128=(rW w l,true,aB (l.flatMap λ x=>aU (x%2^w) w)++tL w 0 0 l):=fK (by omega) (by omega) _
 have hsz:(aB (l.flatMap λ x=>aU (x%2^w) w)).length=(l.length*w+7)/8:=by rw [aM,rG]
 unfold sr
 simp only [h1,h2,h3]
 rw [if_neg (by simp [hsz]),<-hsz,List.take_left,List.drop_left,xK]
 have:=uQ w l.length l [] 0 [] (by simp) hn (Nat.le_refl _) hx
 simp only [List.length_nil,List.append_nil,List.nil_append] at this
 rw [this]
 simp
end Go.Kw
