/-
 M15u:a packed block is read back. No program in sight.
-/
import Derived.Test.YthffkcnbdehceaaGreatM14d
open List
set_option linter.unusedVariables false
set_option linter.unusedSimpArgs false
set_option linter.unusedSectionVars false
namespace Go.Kw
def wy (w:Nat):Nat->Nat->List Nat->List Nat
 |_,_,[]=>[]
 |i,b,x::r=>if 0<x/2^w then uv (i+1-b)++uv (x/2^w)++wy w (i+1) (i+1) r else wy w (i+1) b r
def uG (w:Nat) (l:List Nat):Nat:=l.countP λ x=>decide (0<x/2^w)
theorem ke (w:Nat):∀ (l:List Nat) (i b:Nat) (bits:List Bool) (ex:List Nat) (c:Nat),
  (l.foldl (eQ w) (i,bits,ex,c,b)).2.1=bits++l.flatMap (λ x=>aZ (x%2^w) w)/\(l.foldl (eQ w) (i,bits,ex,c,b)).2.2.1=ex++wy w i b l/\(l.foldl (eQ w) (i,bits,ex,c,b)).2.2.2.1=c+uG w l
 |[],i,b,bits,ex,c=>by simp [wy,uG]
 |x::r,i,b,bits,ex,c=>by
  rw [foldl_cons]
  by_cases h:0<x/2^w
  ·have e:eQ w (i,bits,ex,c,b) x=(i+1,bits++aZ (x%2^w) w,ex++uv (i+1-b)++uv (x/2^w),c+1,i+1):=if_pos h
   rw [e]
   obtain ⟨h1,h2,h3⟩:=ke w r (i+1) (i+1) (bits++aZ (x%2^w) w) (ex++uv (i+1-b)++uv (x/2^w)) (c+1)
   refine ⟨by rw [h1];simp,by rw [h2,wy,if_pos h];simp,?_⟩
   rw [h3,uG,uG,countP_cons_of_pos (by simpa using h)];omega
  ·have e:eQ w (i,bits,ex,c,b) x=(i+1,bits++aZ (x%2^w) w,ex,c,b):=if_neg h
   rw [e]
   obtain ⟨h1,h2,h3⟩:=ke w r (i+1) b (bits++aZ (x%2^w) w) ex c
   refine ⟨by rw [h1];simp,by rw [h2,wy,if_neg h],?_⟩
   rw [h3,uG,uG,countP_cons_of_neg (by simpa using h)]
theorem Ho (w:Nat) (l:List Nat):og w l=uv l.length++uv w++uv (uG w l)++aJ (l.flatMap λ x=>aZ (x%2^w) w)++wy w 0 0 l:=by
 obtain ⟨h1,h2,h3⟩:=ke w l 0 0 [] [] 0
 unfold og eS
 rw [h1,h2,h3];simp
def Il (w n:Nat):Nat->Bool->List Nat->Nat->List Nat->Option (List Nat)
 |0,_,_,_,vs=>some vs
 |c+1,ok,r,a,vs=>
  let g:=aU ok r 128
  let h:=aU g.2.1 g.2.2 (2147483647/2^w)
  if h.2.1=false\/a+g.1=0\/n<a+g.1 then none else Il w n c h.2.1 h.2.2 (a+g.1) (vs.set (a+g.1-1) (vs.getD (a+g.1-1) 0|||h.1*2^w))
def jq (l:List Nat) (n w:Nat):List Nat:=(List.range n).map λ i=>ou l (w*i) w
def uV (b:List Nat):Option (List Nat):=
 let x:=aU true b 128
 let y:=aU x.2.1 x.2.2 31
 let z:=aU y.2.1 y.2.2 128
 let size:=(x.1*y.1+7)/8
 if z.2.1=false\/z.2.2.length<size then none
 else match Il y.1 x.1 z.1 z.2.1 (z.2.2.drop size) 0 (jq (z.2.2.take size) x.1 y.1) with
  |none=>none
  |some vs=>if bS vs=b then some vs else none
theorem xJ (w n:Nat):∀ (s p:List Nat) (b:Nat) (rest:List Nat),n=p.length+s.length->n<=128->b<=p.length->(∀ x∈s,x<=2147483647)->
  Il w n (uG w s) true (wy w p.length b s++rest) b (p++s.map (· %2^w))=some (p++s)
 |[],p,b,rest,_,_,_,_=>by simp [uG,Il]
 |x::r,p,b,rest,hn,h128,hb,hx=>by
  have hx1:=hx x (by simp)
  have hr:=λ y hy=>hx y (mem_cons_of_mem _ hy)
  simp only [length_cons] at hn
  by_cases h:0<x/2^w
  ·have ih:=xJ w n r (p++[x]) (p.length+1) rest (by simp;omega) h128 (by simp) hr
   have hg:aU true (uv (p.length+1-b)++(uv (x/2^w)++(wy w (p.length+1) (p.length+1) r++rest))) 128=(p.length+1-b,true,uv (x/2^w)++(wy w (p.length+1) (p.length+1) r++rest)):=gd (by omega) (by omega) _
   have hd:=Nat.div_le_self x (2^w)
   have hh:aU true (uv (x/2^w)++(wy w (p.length+1) (p.length+1) r++rest)) (2147483647/2^w)=(x/2^w,true,wy w (p.length+1) (p.length+1) r++rest):=gd (by omega) (Nat.div_le_div_right hx1) _
   have hc:uG w (x::r)=uG w r+1:=by rw [uG,countP_cons_of_pos (by simpa using h)];rfl
   rw [hc,Il,wy,if_pos h]
   simp only [append_assoc]
   rw [hg]
   simp only [hh]
   have ha:b+(p.length+1-b)=p.length+1:=by omega
   rw [ha,if_neg (by simp;omega)]
   have hv:(p++(x::r).map (· %2^w)).getD (p.length+1-1) 0=x%2^w:=by simp [getD_eq_getElem?_getD]
   have hor:x%2^w|||x/2^w*2^w=x:=by
    rw [rR (Nat.mod_lt _ (Nat.two_pow_pos w))]
    have:=Nat.div_add_mod x (2^w);rw [Nat.mul_comm] at this;omega
   rw [hv,hor]
   have hset:(p++(x::r).map (· %2^w)).set (p.length+1-1) x=p++[x]++r.map (· %2^w):=by simp
   rw [hset]
   simp only [length_append,length_cons,length_nil] at ih
   rw [Nat.zero_add] at ih
   rw [ih];simp
  ·have ih:=xJ w n r (p++[x]) b rest (by simp;omega) h128 (by simp;omega) hr
   have hc:uG w (x::r)=uG w r:=by rw [uG,countP_cons_of_neg (by simpa using h)];rfl
   have hlt:x<2^w:=Classical.byContradiction λ hge=>h (Nat.div_pos (by omega) (Nat.two_pow_pos w))
   rw [hc,wy,if_neg h,map_cons,Nat.mod_eq_of_lt hlt]
   simp only [length_append,length_cons,length_nil] at ih
   rw [Nat.zero_add] at ih
   rw [show p++x::r.map (· %2^w)=p++[x]++r.map (· %2^w) by simp,ih];simp
theorem ui (w:Nat):∀ l:List Nat,(l.flatMap λ x=>aZ (x%2^w) w).length=l.length*w
 |[]=>by simp
 |x::r=>by rw [flatMap_cons,length_append,aW,ui w r,length_cons,Nat.add_mul];omega
theorem zR (w:Nat) (l:List Nat):jq (aJ (l.flatMap λ x=>aZ (x%2^w) w)) l.length w=l.map (· %2^w):=by
 apply ext_getElem?
 intro i
 unfold jq
 rw [getElem?_map,getElem?_map]
 rcases Nat.lt_or_ge i l.length with h|h
 ·rw [getElem?_range h,getElem?_eq_getElem h]
  have hcat:l=l.take i++[l[i]]++l.drop (i+1):=by simp
  have hb:(l.flatMap λ x=>aZ (x%2^w) w)=(l.take i).flatMap (λ x=>aZ (x%2^w) w)++aZ (l[i]%2^w) w++(l.drop (i+1)).flatMap (λ x=>aZ (x%2^w) w):=by
   conv=>lhs;rw [hcat]
   rw [flatMap_append,flatMap_append,flatMap_cons,flatMap_nil,append_nil]
  have ha:((l.take i).flatMap λ x=>aZ (x%2^w) w).length=w*i:=by rw [ui,length_take,Nat.min_eq_left (by omega),Nat.mul_comm]
  have:=pN ((l.take i).flatMap λ x=>aZ (x%2^w) w) ((l.drop (i+1)).flatMap λ x=>aZ (x%2^w) w) (l[i]%2^w) w (Nat.mod_lt _ (Nat.two_pow_pos w)) w (Nat.le_refl _)
  rw [ha] at this
  rw [hb,Option.map_some,this];simp
 ·rw [getElem?_eq_none (by simpa using h),getElem?_eq_none h];rfl
theorem wz {l:List Nat} (hn:l.length<=128) (hx:∀ x∈l,x<=2147483647):uV (bS l)=some l:=by
 have hb:=iN l 32
 have he:bS l=uv l.length++(uv (ec l 32)++(uv (uG (ec l 32) l)++(aJ (l.flatMap λ x=>aZ (x%2^ec l 32) (ec l 32))++wy (ec l 32) 0 0 l))):=by
  unfold bS;rw [Ho];simp
 have hc:uG (ec l 32) l<=l.length:=countP_le_length
 generalize ec l 32=w at hb he hc
 have h1:aU true (bS l) 128=(l.length,true,uv w++(uv (uG w l)++(aJ (l.flatMap λ x=>aZ (x%2^w) w)++wy w 0 0 l))):=by rw [he];exact gd (by omega) hn _
 have h2:aU true (uv w++(uv (uG w l)++(aJ (l.flatMap λ x=>aZ (x%2^w) w)++wy w 0 0 l))) 31=(w,true,uv (uG w l)++(aJ (l.flatMap λ x=>aZ (x%2^w) w)++wy w 0 0 l)):=gd (by omega) (by omega) _
 have h3:aU true (uv (uG w l)++(aJ (l.flatMap λ x=>aZ (x%2^w) w)++wy w 0 0 l)) 128=(uG w l,true,aJ (l.flatMap λ x=>aZ (x%2^w) w)++wy w 0 0 l):=gd (by omega) (by omega) _
 have hsz:(aJ (l.flatMap λ x=>aZ (x%2^w) w)).length=(l.length*w+7)/8:=by rw [aR,ui]
 unfold uV
 simp only [h1,h2,h3]
 rw [if_neg (by simp [hsz]),<-hsz,take_left,drop_left,zR]
 have:=xJ w l.length l [] 0 [] (by simp) hn (Nat.le_refl _) hx
 simp only [length_nil,append_nil,nil_append] at this
 rw [this]
 simp
end Go.Kw
